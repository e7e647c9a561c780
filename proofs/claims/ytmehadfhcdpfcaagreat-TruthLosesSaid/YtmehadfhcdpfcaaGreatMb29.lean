/- The stripes that are lost or unavailable: the reference, walked. -/
import Derived.Test.YtmehadfhcdpfcaaGreatMb24
import Derived.Test.YtmehadfhcdpfcaaGreatMb28
import Derived.Test.YtmehadfhcdpfcaaGreatMb01
import Derived.Test.YtmehadfhcdpfcaaGreatMb07
namespace Go.Proofs.YtmehadfhcdpfcaaGreat
open Go.RowKit
set_option linter.unusedVariables false
set_option linter.unusedSimpArgs false
set_option maxRecDepth 100000 in
set_option maxHeartbeats 1600000 in
theorem rvalidate_any (N : Nat) (hN : N ≤ 12) (vl vm vd vv vp vo : Value) (F : FltM) (w : World) (hf : FleetS w (Bl w.heap.size) vl vm vd vv vp vo F) (hok : FleetOk N F) :
  Calls Tryz.prog 44 #[.agg #[.int .i64 F.ext, vl, vm, vd, vv, vp, vo]] w fun e w' => e = .returned (.int .i64 0) ∧ Below w.heap.size w w' := by
 obtain ⟨W0, hW0⟩ : ∃ W0, W0 = w.alloc (.cells #[.int .i64 F.ext, vl, vm, vd, vv, vp, vo] 37) := ⟨_, rfl⟩
 obtain ⟨z, hz⟩ : ∃ q, q = w.heap.size := ⟨_, rfl⟩
 have hb0 : Below w.heap.size w W0 := by rw [hW0]; exact (Below.refl _ _).alloc (Nat.le_refl _) _
 have hzk : W0.heap[z]? = some (.cells #[.int .i64 F.ext, vl, vm, vd, vv, vp, vo] 37 (0, 0)) := by rw [hW0, hz]; exact heap_alloc_new _ _
 obtain ⟨c0, c1, c2, c3, c4, c5, c6⟩ := cells7 hzk
 have HV := Lib.hid (rvalidf_any N hN vl vm vd vv vp vo F W0 (hf.below hb0) hok)
 have HW0 := Lib.hid hW0
 have HZ := Lib.hid hz
 have HB0 := Lib.hid hb0
 obtain ⟨EX, hEX⟩ : ∃ x, x = F.ext := ⟨_, rfl⟩
 rw [← hEX] at HV HW0 c0 ⊢
 clear hf hok hW0 hz hb0 hzk hEX
 go_enter Tryz.func44, Tryz.ntmps44
 go_wp2_with fail
 rw [← HW0.out]
 refine HV.out.mono ?_
 rintro e w1 ⟨rfl, hb1⟩
 have HB1 := Lib.hid hb1
 clear c0 c1 c2 c3 c4 c5 c6 hb1
 go_wp2_with fail
 go_ret
 exact ⟨rfl, HB0.out.trans (HB1.out.mono HB0.out.size)⟩
theorem pol_field1 (a0 a1 a2 a3 a4 a5 a6 a7 a8 a9 a10 a11 a12 a13 a14 a15 a16 : Value) (w : World) : (Instr.field 63 (.agg #[a0, a1, a2, a3, a4, a5, a6, a7, a8, a9, a10, a11, a12, a13, a14, a15, a16]) 1).run Tryz.prog w = .ok a1 w := by kernel_rfl
def condR (lost : Bool) (a u k : Int) : Bool := if lost then decide (a < k) else !decide (a < k) && decide (u < k)
def HeldY (W0 : World) (z y : Nat) (a b c d e f g p q r : Value) (w' : World) : Prop :=
 w'.cell? ⟨z, 0, none⟩ = some a ∧ w'.cell? ⟨z, 1, none⟩ = some b ∧ w'.cell? ⟨z, 2, none⟩ = some c ∧ w'.cell? ⟨z, 3, none⟩ = some d ∧ w'.cell? ⟨z, 4, none⟩ = some e ∧ w'.cell? ⟨z, 5, none⟩ = some f ∧ w'.cell? ⟨z, 6, none⟩ = some g ∧
 w'.cell? ⟨y, 0, none⟩ = some p ∧ w'.cell? ⟨y, 1, none⟩ = some q ∧ w'.cell? ⟨y, 2, none⟩ = some r ∧ Below W0.heap.size W0 w'
theorem HeldY.bl {W0 wc : World} {z y : Nat} {a b c d e f g p q r : Value} (h : HeldY W0 z y a b c d e f g p q r wc) : Below W0.heap.size W0 wc := h.2.2.2.2.2.2.2.2.2.2
theorem HeldY.below {W0 wc w2 : World} {z y : Nat} {a b c d e f g p q r : Value} (h : HeldY W0 z y a b c d e f g p q r wc) (hb : Below wc.heap.size wc w2) (h1 : z < W0.heap.size) (h2 : y < W0.heap.size) : HeldY W0 z y a b c d e f g p q r w2 := by
 have hs := h.bl.size
 have hB := h.bl
 obtain ⟨c0, c1, c2, c3, c4, c5, c6, d0, d1, d2, -⟩ := h
 have k : ∀ i, w2.cell? ⟨z, i, none⟩ = wc.cell? ⟨z, i, none⟩ := fun i => hb.cell (p := ⟨z, i, none⟩) (Nat.lt_of_lt_of_le h1 hs)
 have k' : ∀ i, w2.cell? ⟨y, i, none⟩ = wc.cell? ⟨y, i, none⟩ := fun i => hb.cell (p := ⟨y, i, none⟩) (Nat.lt_of_lt_of_le h2 hs)
 exact ⟨(k _).trans c0, (k _).trans c1, (k _).trans c2, (k _).trans c3, (k _).trans c4, (k _).trans c5, (k _).trans c6, (k' _).trans d0, (k' _).trans d1, (k' _).trans d2, hB.trans (hb.mono hs)⟩
theorem HeldY.start {W0 wz : World} {z y : Nat} {a b c d e f g p q r : Value} (h : HeldY W0 z y a b c d e f g p q r wz) : HeldY wz z y a b c d e f g p q r wz.drew := by
 obtain ⟨c0, c1, c2, c3, c4, c5, c6, d0, d1, d2, -⟩ := h
 exact ⟨c0, c1, c2, c3, c4, c5, c6, d0, d1, d2, (Below.refl _ _).drew⟩
set_option maxRecDepth 100000 in
set_option maxHeartbeats 12800000 in
theorem stripes_any (lost : Bool) (N : Nat) (hN : N ≤ 12) (vl vm vd vv vp vo vp0 vo0 va0 : Value) (F : FltM) (r : Re) (w : World) (hf : FleetS w (Bl w.heap.size) vl vm vd vv vp vo F) (hok : FleetOk N F) (h : ReS w (Bl w.heap.size) vp0 vo0 va0 r) (hp : r.plat.length ≤ 1000) (hl : ∀ l ∈ r.plat, l.length ≤ 1000) :
  Calls Tryz.prog 35 #[.agg #[.int .i64 F.ext, vl, vm, vd, vv, vp, vo], .agg #[vp0, vo0, va0], .bool lost] w fun e w' => ∃ u, e = .returned u ∧ OwnKy w' w.heap.size u (keyL F r (condR lost) F.ext.toNat F.vols.length 0) ∧ Below w.heap.size w w' := by
 obtain ⟨pb, pof, ob, oof, cp, co, rfl, rfl, hRp, hRo, hPA⟩ := polAt hf hok
 have HVA := Lib.hid (fun (w' : World) (hb : Below w.heap.size w w') => rvalidate_any N hN vl vm vd vv _ _ F w' (hf.below hb) hok)
 have HPI := Lib.hid (fun w1 h1 => pieces_any vp0 vo0 va0 r w1 h1 hp hl)
 have HRE := Lib.hid (fun (w' : World) (hb : Below w.heap.size w w') => h.below hb)
 have HPD := Lib.hid (pieces_drive r (by omega))
 obtain ⟨EX, hEX, hEX1, hEX2⟩ : ∃ n : Nat, F.ext = (n : Int) ∧ 1 ≤ n ∧ n ≤ 2 := by rcases hok.ext with e | e <;> rw [e] <;> first | exact ⟨1, rfl, by omega, by omega⟩ | exact ⟨2, rfl, by omega, by omega⟩
 have hno : F.vols.length ≤ 12 := by have := hok.volN; omega
 obtain ⟨KL, hKL⟩ : ∃ f : Nat → Nat → List (Nat × Nat), f = keyL F r (condR lost) EX := ⟨_, rfl⟩
 have HKS := Lib.hid (fun v s => (show KL v (s + 1) = KL v s ++ (if keyP F r (condR lost) (v, s) = true then [(v, s)] else []) from by rw [hKL]; exact keyL_succ F r (condR lost) EX v s))
 have HKN := Lib.hid (fun v => (show KL v EX = KL (v + 1) 0 from by rw [hKL]; unfold keyL; rw [keysTo_next]))
 have HK0 := Lib.hid (show KL 0 0 = [] from by rw [hKL]; rfl)
 have HLE := Lib.hid (fun v s (hv : v < 13) (hs : s < 13) => (show (KL v s).length ≤ 100 from by
  have h1 := keyL_len F r (condR lost) EX v s
  rw [hKL]
  have h2 : v * EX ≤ 12 * 2 := Nat.mul_le_mul (by omega) hEX2
  omega))
 rw [hEX] at HVA ⊢
 rw [show ((EX : Int)).toNat = EX from by omega, show keyL F r (condR lost) EX F.vols.length 0 = KL F.vols.length 0 from by rw [hKL]]
 obtain ⟨NO, hNO⟩ : ∃ n, n = F.vols.length := ⟨_, rfl⟩
 obtain ⟨NP, hNP⟩ : ∃ n, n = F.pols.length := ⟨_, rfl⟩
 have hnp : NP ≤ 2 := by rw [hNP]; exact hok.polN
 rw [← hNO] at hno HVA ⊢
 rw [← hNP] at HVA ⊢
 have HKQ := Lib.hid (fun v (hv : v < NO) => kmq_ok hok (show v < F.vols.length from by rw [← hNO]; exact hv))
 have HPA := Lib.hid hPA
 have HNN := Lib.hid (show NO = F.vols.length ∧ NP = F.pols.length ∧ NO ≤ 12 ∧ NP ≤ 2 from ⟨hNO, hNP, hno, hnp⟩)
 have HBB := Lib.hid (show pb < w.heap.size ∧ ob < w.heap.size from ⟨hRp, hRo⟩)
 obtain ⟨W0, hW0⟩ : ∃ W0, W0 = (w.alloc (.cells #[.int .i64 (EX : Int), vl, vm, vd, vv, .slice (some ⟨pb, pof, none⟩) NP cp, .slice (some ⟨ob, oof, none⟩) NO co] 37)).alloc (.cells #[vp0, vo0, va0] 27) := ⟨_, rfl⟩
 obtain ⟨z, hz⟩ : ∃ q, q = w.heap.size := ⟨_, rfl⟩
 obtain ⟨y, hy⟩ : ∃ q, q = w.heap.size + 1 := ⟨_, rfl⟩
 have hb0 : Below w.heap.size w W0 := by rw [hW0]; exact ((Below.refl _ _).alloc (Nat.le_refl _) _).alloc (by simp) _
 have hyk : W0.heap[y]? = some (.cells #[vp0, vo0, va0] 27 (0, 0)) := by
  rw [hW0]; exact heap_alloc_at _ _ _ (by rw [hy]; simp)
 have hzk : W0.heap[z]? = some (.cells #[.int .i64 (EX : Int), vl, vm, vd, vv, .slice (some ⟨pb, pof, none⟩) NP cp, .slice (some ⟨ob, oof, none⟩) NO co] 37 (0, 0)) := by
  rw [hW0, hz]; exact (Below.heap_alloc _ _ _ (by simp)).trans (heap_alloc_new w _)
 have hyl : y < W0.heap.size := (Array.getElem?_eq_some_iff.1 hyk).1
 have hzl : z < W0.heap.size := (Array.getElem?_eq_some_iff.1 hzk).1
 have HC := Lib.hid (fun (w' : World) (hb : Below W0.heap.size W0 w') => And.intro (cells7 ((hb.block z hzl).trans hzk)) (cells3 ((hb.block y hyl).trans hyk)))
 have HZL := Lib.hid (And.intro hzl hyl)
 have HW0 := Lib.hid hW0
 have HZ := Lib.hid hz
 have HY := Lib.hid hy
 have HB0 := Lib.hid hb0
 obtain ⟨⟨c0, c1, c2, c3, c4, c5, c6⟩, -⟩ := HC.out W0 (Below.refl _ _)
 have HEXB := Lib.hid (And.intro hEX1 hEX2)
 clear hf hok h hPA hRp hRo hW0 hz hy hb0 hyk hzk hyl hzl hKL hEX hNO hNP hnp hEX1
 go_enter Tryz.func35, Tryz.ntmps35
 go_wp2_with fail
 rw [← HW0.out, ← HY.out, ← HZ.out]
 refine (HVA.out _ HB0.out).mono ?_
 rintro e w1 ⟨rfl, hb1⟩
 have HB1 := Lib.hid hb1
 clear c0 c1 c2 c3 c4 c5 c6 hb1
 obtain ⟨-, d0, d1, d2, -⟩ := HC.out w1 HB1.out
 go_wp2_with fail
 have hre := HRE.out w1 (HB0.out.trans (HB1.out.mono HB0.out.size))
 refine (HPI.out _ hre).mono ?_
 rintro e w2 ⟨vf, rfl, hof, hb2⟩
 have HB2 := Lib.hid (HB1.out.trans (hb2.mono HB1.out.size))
 have HOF := Lib.hid (OwnFd.slBl hof HPD.out)
 clear d0 d1 d2 hb2 hre hof
 obtain ⟨⟨c0, c1, c2, c3, c4, c5, c6⟩, -⟩ := HC.out w2 HB2.out
 go_wp2_with fail
 clear c0 c1 c2 c3 c4 c5 c6
 go_loopg [7, 9] NO (fun z v7 v9 wr => ∃ v : Nat, v ≤ NO ∧ z = NO - v ∧ v9 = .int .i64 (v : Int) ∧ Hid (OwnKy wr w2.heap.size v7 (KL v 0)) ∧ Hid (Below w2.heap.size w2 wr))
 case atStart => exact ⟨0, by omega, rfl, rfl, by rw [HK0.out]; exact OwnKy.nil _ _, Below.refl _ _⟩
 case round =>
  obtain ⟨v, hv, rfl, rfl, HO, HBR⟩ := hrel
  have h0R := HB2.out.trans (HBR.out.mono HB2.out.size)
  obtain ⟨⟨c0, c1, c2, c3, c4, c5, c6⟩, -⟩ := HC.out wr h0R
  by_cases hlt : v < NO
  ·-- L1{
   obtain ⟨hpl, nm, hvol, a0, a4, a5, a6, a7, a8, a9, a10, a11, a12, a13, a14, a15, a16, hpol, hone⟩ := HPA.out v (by rw [← HNN.out.1]; exact hlt)
   obtain ⟨kk, m1, m2, q1, q2⟩ := HKQ.out v hlt
   obtain ⟨KK, hK⟩ : ∃ x, x = kOf F v := ⟨_, rfl⟩
   obtain ⟨MM, hMM⟩ : ∃ x, x = mOf F v := ⟨_, rfl⟩
   obtain ⟨QQ, hQ⟩ : ∃ x, x = qOf F v := ⟨_, rfl⟩
   obtain ⟨p, hpp⟩ : ∃ x, x = volP F v := ⟨_, rfl⟩
   rw [← hK, ← hMM, ← hQ] at hpol hone
   rw [← hpp] at hvol hpl hpol
   rw [← hK] at kk
   rw [← hMM] at m1 m2
   have hnp := HNN.out.2.2.2
   have hpn : p < NP := by rw [HNN.out.2.1]; exact hpl
   have HCTV := Lib.hid (fun (s : Nat) (on : Bool) (w' : World) (hb : Below w.heap.size w w') (hb2 : Below w2.heap.size w2 w') => (rcounts_any (EX : Int) KK MM QQ vl vm vd vv vf vp0 vo0 va0 a0 a4 a5 a6 a7 a8 a9 a10 a11 a12 a13 a14 a15 a16 r (pieces r) (s : Int) on nm pb pof ob oof NP NO cp co v p w' hlt hpn (by omega) (by omega) (range_same hvol (hb.block ob HBB.out.2)) (range_same hpol (hb.block pb HBB.out.1)) hone (by omega) (by omega) (HRE.out w' hb) (SlS.below fdK HOF.out hb2)))
   have HPOV := Lib.hid (fun (w' : World) (hb : Below w.heap.size w w') => (rpolicy_any (EX : Int) KK MM QQ vl vm vd vv a0 a4 a5 a6 a7 a8 a9 a10 a11 a12 a13 a14 a15 a16 nm pb pof ob oof NP NO cp co v p w' hlt hpn (by omega) (by omega) (range_same hvol (hb.block ob HBB.out.2)) (range_same hpol (hb.block pb HBB.out.1)) hone))
   have HKM := Lib.hid (show KK = kOf F v ∧ MM = mOf F v from ⟨hK, hMM⟩)
   have HLT := Lib.hid hlt
   clear hvol hpol hone kk q1 q2 hK hMM hQ hpp hpl m1 m2 hnp hpn
   go_wp2_with fail
   clear c0 c1 c2 c3 c4 c5 c6
   go_loopg [7, 10] EX (fun z v7 v10 wx => ∃ s : Nat, s ≤ EX ∧ z = EX - s ∧ v10 = .int .i64 (s : Int) ∧ Hid (OwnKy wx w2.heap.size v7 (KL v s)) ∧ Hid (Below w2.heap.size w2 wx))
   case atStart => exact ⟨0, by omega, rfl, rfl, HO.out, HBR.out⟩
   case round =>
    clear HO HBR h0R
    obtain ⟨s, hs, rfl, rfl, HO, HBR⟩ := hrel
    have h0x := HB2.out.trans (HBR.out.mono HB2.out.size)
    obtain ⟨⟨c0, c1, c2, c3, c4, c5, c6⟩, y0, y1, y2, -⟩ := HC.out wr h0x
    by_cases hls : s < EX
    ·-- L2{
     have i1 : I64 (v : Int) := by have := HNN.out; unfold I64; omega
     have i2 : I64 (s : Int) := by have := HEXB.out; unfold I64; omega
     have hb0x := HB0.out.trans (h0x.mono HB0.out.size)
     have HVE := Lib.hid (version_any va0 r.acks (v : Int) (s : Int) wr _ (HRE.out wr hb0x).2.2 i1 i2)
     obtain ⟨OB, hOB⟩ : ∃ x, x = (verOf r.acks (v : Int) (s : Int)).isSome := ⟨_, rfl⟩
     obtain ⟨VX, hVX⟩ : ∃ x, x = (verOf r.acks (v : Int) (s : Int)).getD 0 := ⟨_, rfl⟩
     rw [← hOB, ← hVX] at HVE
     obtain ⟨NA, hNA⟩ : ∃ x, x = cntI r v s false (KK + MM) := ⟨_, rfl⟩
     obtain ⟨NU, hNU⟩ : ∃ x, x = cntI r v s true (KK + MM) := ⟨_, rfl⟩
     obtain ⟨GB, hGB⟩ : ∃ x, x = decide (NA < KK) := ⟨_, rfl⟩
     obtain ⟨UB, hUB⟩ : ∃ x, x = decide (NU < KK) := ⟨_, rfl⟩
     have HKP := Lib.hid (show keyP F r (condR lost) (v, s) = (OB && condR lost NA NU KK) from by rw [hOB, hNA, hNU]; unfold keyP; simp only; rw [HKM.out.1, HKM.out.2])
     have HGB := Lib.hid hGB.symm
     have HUB := Lib.hid hUB.symm
     have HCT := Lib.hid (fun (on : Bool) (w' : World) (hb : Below wr.heap.size wr w') => (HCTV.out s on w' (hb0x.trans (hb.mono hb0x.size)) (HBR.out.trans (hb.mono HBR.out.size))))
     have HPO := Lib.hid (fun (w' : World) (hb : Below wr.heap.size wr w') => HPOV.out w' (hb0x.trans (hb.mono hb0x.size)))
     have hct : ∀ on w' (hb : Below wr.heap.size wr w'), Calls Tryz.prog 69 #[.agg #[.int .i64 (EX : Int), vl, vm, vd, vv, .slice (some ⟨pb, pof, none⟩) NP cp, .slice (some ⟨ob, oof, none⟩) NO co], .agg #[vp0, vo0, va0], vf, .int .i64 (v : Int), .int .i64 (s : Int), .bool on] w' fun e w'' => e = .returned (.int .i64 (if on then NU else NA)) ∧ Below w'.heap.size w' w'' := fun on w' hb => by
      have h1 := HCT.out on w' hb
      cases on with
      | true => rw [if_pos rfl, hNU]; exact h1
      | false => rw [if_neg (by decide), hNA]; exact h1
     have hctF : ∀ w' (hb : Below wr.heap.size wr w'), Calls Tryz.prog 69 #[.agg #[.int .i64 (EX : Int), vl, vm, vd, vv, .slice (some ⟨pb, pof, none⟩) NP cp, .slice (some ⟨ob, oof, none⟩) NO co], .agg #[vp0, vo0, va0], vf, .int .i64 (v : Int), .int .i64 (s : Int), .bool false] w' fun e w'' => e = .returned (.int .i64 NA) ∧ Below w'.heap.size w' w'' := fun w' hb => hct false w' hb
     have hctT : ∀ w' (hb : Below wr.heap.size wr w'), Calls Tryz.prog 69 #[.agg #[.int .i64 (EX : Int), vl, vm, vd, vv, .slice (some ⟨pb, pof, none⟩) NP cp, .slice (some ⟨ob, oof, none⟩) NO co], .agg #[vp0, vo0, va0], vf, .int .i64 (v : Int), .int .i64 (s : Int), .bool true] w' fun e w'' => e = .returned (.int .i64 NU) ∧ Below w'.heap.size w' w'' := fun w' hb => hct true w' hb
     clear HCT
     have HCF := Lib.hid hctF
     have HCU := Lib.hid hctT
     have HLT := Lib.hid hls
     have HLV := Lib.hid (show v < NO ∧ v < 13 ∧ EX ≤ 2 from ⟨by have := HLT.out; omega, by have := HNN.out; omega, HEXB.out.2⟩)
     have HZY := Lib.hid (show z < wr.heap.size ∧ y < wr.heap.size from ⟨Nat.lt_of_lt_of_le HZL.out.1 h0x.size, Nat.lt_of_lt_of_le HZL.out.2 h0x.size⟩)
     have HS12 := Lib.hid (show HeldY wr z y (.int .i64 (EX : Int)) vl vm vd vv (.slice (some ⟨pb, pof, none⟩) NP cp) (.slice (some ⟨ob, oof, none⟩) NO co) vp0 vo0 va0 wr.drew from ⟨c0, c1, c2, c3, c4, c5, c6, y0, y1, y2, (Below.refl _ _).drew⟩)
     obtain ⟨n8, hn8⟩ : ∃ n, n = (KL v s).length := ⟨_, rfl⟩
     obtain ⟨A8, c8, hv8⟩ := HO.out.form
     rw [← hn8] at hv8
     have HN8 := Lib.hid hn8
     subst hv8
     have HOW2 := Lib.hid (fun (w' : World) (hb : Below wr.heap.size wr w') => (show w'.ownsRow w2.heap.size 74 2 (.slice A8 n8 c8) n8 ((KL v s).flatMap keyC) from by (have h1 := HO.out.below hb; unfold OwnKy at h1; rw [← hn8] at h1; exact h1)))
     clear hOB hVX hNA hNU hGB hUB hct hctF hctT hn8 i1 i2 hb0x h0x
     go_wp2_with fail
     refine HVE.out.mono ?_
     rintro e w3 ⟨rfl, rfl⟩
     clear c0 c1 c2 c3 c4 c5 c6 y0 y1 y2
     have hfd := fun w => pol_field1 a0 (.int .i64 KK) (.int .i64 MM) (.int .i64 QQ) a4 a5 a6 a7 a8 a9 a10 a11 a12 a13 a14 a15 a16 w
     go_upto_region 12 with fail
     refine region_tail (S := (fun w' => w'.cell? ⟨z, 0, none⟩ = some (.int .i64 (EX : Int)) ∧ w'.cell? ⟨z, 1, none⟩ = some (vl) ∧ w'.cell? ⟨z, 2, none⟩ = some (vm) ∧ w'.cell? ⟨z, 3, none⟩ = some (vd) ∧ w'.cell? ⟨z, 4, none⟩ = some (vv) ∧ w'.cell? ⟨z, 5, none⟩ = some (.slice (some ⟨pb, pof, none⟩) NP cp) ∧ w'.cell? ⟨z, 6, none⟩ = some (.slice (some ⟨ob, oof, none⟩) NO co) ∧ w'.cell? ⟨y, 0, none⟩ = some vp0 ∧ w'.cell? ⟨y, 1, none⟩ = some vo0 ∧ w'.cell? ⟨y, 2, none⟩ = some va0 ∧ Below wr.heap.size wr w')) [] (by kernel_rfl) HS12.out (fun hHeld => ?_)
     refine tk 0 40 ?_
     refine tk 1 41 ?_
     refine tk 2 42 ?_
     refine tk 3 43 ?_
     refine tk 4 44 ?_
     refine tk 6 46 ?_
     refine tk 7 47 ?_
     refine readyT (rs := [5]) (by kernel_rfl) (by simp) ?_
     refine AllReadyT.cons rfl (fun K hK => ?_) ?_
     ·go_simp
      (go_at_call 69; refine (HCF.out _ (HeldY.bl (by assumption))).mono ?_; rintro e w5 ⟨rfl, hb5⟩)
      go_wp2_with fail
      refine hK.out _ _ ?_ (fun hHeld => ?_)
      ·(first | assumption | exact HeldY.below (by assumption) hb5 HZY.out.1 HZY.out.2 | exact HeldY.below (by assumption) hb6 HZY.out.1 HZY.out.2)
      clear hK K
      (try simp only [Act.put, List.setIfInBounds_toArray, List.set_cons_zero, List.set_cons_succ])
      refine readyT (rs := [8]) (by kernel_rfl) (by simp) ?_
      refine AllReadyT.cons rfl (fun K hK => ?_) ?_
      ·go_simp
       (go_at_call 48; refine (HPO.out _ (HeldY.bl (by assumption))).mono ?_; rintro e w6 ⟨rfl, hb6⟩)
       go_wp2_with fail
       refine hK.out _ _ ?_ (fun hHeld => ?_)
       ·(first | assumption | exact HeldY.below (by assumption) hb5 HZY.out.1 HZY.out.2 | exact HeldY.below (by assumption) hb6 HZY.out.1 HZY.out.2)
       clear hK K
       (try simp only [Act.put, List.setIfInBounds_toArray, List.set_cons_zero, List.set_cons_succ])
       refine tk 9 49 ?_
       refine tk 10 50 ?_
       refine tk 11 13 ?_
       refine doneT (by kernel_rfl) ?_ _
       have HBZ := Lib.hid (HeldY.bl hHeld)
       obtain ⟨wz, hwz⟩ : ∃ W : World, W = w6 := ⟨_, rfl⟩
       rw [← hwz] at HBZ hHeld ⊢
       rw [HGB.out]
       clear hwz hb5 hb6
       cases OB with
       | false =>
        go_upto_region 13 with fail
        go_quiet (fail)
        have HBE := Lib.hid (HBZ.out.trans ((Below.drewN' (Below.refl wz.heap.size wz) nq).mono HBZ.out.size))
        have HKV : keyP F r (condR lost) (v, s) = false := by rw [HKP.out]; rfl
        go_wp2_with fail
        go_roundg (EX - (s + 1))
        case measure => have := HLT.out; omega
        case rel => exact ⟨s + 1, by have := HLT.out; omega, rfl, by go_num, by rw [HKS.out, HKV, if_neg (by decide), List.append_nil]; exact HO.out.below HBE.out, HBR.out.trans (HBE.out.mono HBR.out.size)⟩
       | true =>
        cases lost with
        | true =>
         cases GB with
         | true =>
          go_upto_region 13 with fail
          go_quiet (fail)
          have HBE := Lib.hid (HBZ.out.trans ((Below.drewN' (Below.refl wz.heap.size wz) nq).mono HBZ.out.size))
          have HKV : keyP F r (condR true) (v, s) = true := by rw [HKP.out]; unfold condR; rw [HGB.out]; rfl
          go_wp2_with (at_builtin; refine app_ky v s (.tmp 79) (.tmp 83) rfl rfl w2.heap.size (.slice A8 n8 c8) n8 (KL v s) HN8.out.symm (by rfl) (HOW2.out _ HBE.out) (by rfl) (by have := HLE.out v s HLV.out.2.1 (by have := HLT.out; have := HLV.out; omega); have := HN8.out; omega) (Nat.le_trans HBR.out.size HBE.out.size) ?_; intro v9 w9 hown9 hg9 hat9; have HO9 := Lib.hid hown9; have HG9 := Lib.hid hg9; clear hown9 hg9 hat9)
          go_roundg (EX - (s + 1))
          case measure => have := HLT.out; omega
          case rel => exact ⟨s + 1, by have := HLT.out; omega, rfl, by go_num, by rw [HKS.out, HKV, if_pos rfl]; exact HO9.out, (HBR.out.trans (HBE.out.mono HBR.out.size)).grown HG9.out (Nat.le_trans HBR.out.size HBE.out.size) (fun b e => (HO.out.lt b e).1)⟩
         | false =>
          go_upto_region 13 with fail
          go_quiet (fail)
          have HBE := Lib.hid (HBZ.out.trans ((Below.drewN' (Below.refl wz.heap.size wz) nq).mono HBZ.out.size))
          have HKV : keyP F r (condR true) (v, s) = false := by rw [HKP.out]; unfold condR; rw [HGB.out]; rfl
          go_wp2_with fail
          go_roundg (EX - (s + 1))
          case measure => have := HLT.out; omega
          case rel => exact ⟨s + 1, by have := HLT.out; omega, rfl, by go_num, by rw [HKS.out, HKV, if_neg (by decide), List.append_nil]; exact HO.out.below HBE.out, HBR.out.trans (HBE.out.mono HBR.out.size)⟩
        | false =>
         cases GB with
         | true =>
          go_upto_region 13 with fail
          go_quiet (fail)
          have HBE := Lib.hid (HBZ.out.trans ((Below.drewN' (Below.refl wz.heap.size wz) nq).mono HBZ.out.size))
          have HKV : keyP F r (condR false) (v, s) = false := by rw [HKP.out]; unfold condR; rw [HGB.out]; rfl
          go_wp2_with fail
          go_roundg (EX - (s + 1))
          case measure => have := HLT.out; omega
          case rel => exact ⟨s + 1, by have := HLT.out; omega, rfl, by go_num, by rw [HKS.out, HKV, if_neg (by decide), List.append_nil]; exact HO.out.below HBE.out, HBR.out.trans (HBE.out.mono HBR.out.size)⟩
         | false =>
          go_upto_region 13 with fail
          have HSZ := Lib.hid (show HeldY wz z y (.int .i64 (EX : Int)) vl vm vd vv (.slice (some ⟨pb, pof, none⟩) NP cp) (.slice (some ⟨ob, oof, none⟩) NO co) vp0 vo0 va0 wz.drew from HeldY.start (W0 := wr) hHeld)
          have HZZ := Lib.hid (show z < wz.heap.size ∧ y < wz.heap.size from ⟨Nat.lt_of_lt_of_le HZY.out.1 HBZ.out.size, Nat.lt_of_lt_of_le HZY.out.2 HBZ.out.size⟩)
          clear hHeld
          refine region_tail (S := (fun w' => w'.cell? ⟨z, 0, none⟩ = some (.int .i64 (EX : Int)) ∧ w'.cell? ⟨z, 1, none⟩ = some (vl) ∧ w'.cell? ⟨z, 2, none⟩ = some (vm) ∧ w'.cell? ⟨z, 3, none⟩ = some (vd) ∧ w'.cell? ⟨z, 4, none⟩ = some (vv) ∧ w'.cell? ⟨z, 5, none⟩ = some (.slice (some ⟨pb, pof, none⟩) NP cp) ∧ w'.cell? ⟨z, 6, none⟩ = some (.slice (some ⟨ob, oof, none⟩) NO co) ∧ w'.cell? ⟨y, 0, none⟩ = some vp0 ∧ w'.cell? ⟨y, 1, none⟩ = some vo0 ∧ w'.cell? ⟨y, 2, none⟩ = some va0 ∧ Below wz.heap.size wz w')) [] (by kernel_rfl) HSZ.out (fun hHeld => ?_)
          refine tk 0 51 ?_
          refine tk 1 52 ?_
          refine tk 2 53 ?_
          refine tk 3 54 ?_
          refine takeT (i := 4) (d := 55) (v := undef) rfl rfl (by kernel_rfl) (by kernel_rfl) (by kernel_rfl) (by kernel_rfl) (fun _ _ _ h => h) (Or.inr ⟨by kernel_rfl, rfl⟩) (by assumption) ?_
          (try simp only [Act.put, List.setIfInBounds_toArray, List.set_cons_zero, List.set_cons_succ])
          refine tk 5 56 ?_
          refine tk 6 57 ?_
          refine tk 7 58 ?_
          refine tk 8 59 ?_
          refine tk 9 60 ?_
          refine tk 10 61 ?_
          refine tk 11 62 ?_
          refine tk 12 63 ?_
          refine tk 13 64 ?_
          refine tk 14 65 ?_
          refine tk 15 66 ?_
          refine tk 16 67 ?_
          refine tk 17 68 ?_
          refine tk 18 69 ?_
          refine tk 20 71 ?_
          refine tk 21 72 ?_
          refine readyT (rs := [19]) (by kernel_rfl) (by simp) ?_
          refine AllReadyT.cons rfl (fun K hK => ?_) ?_
          ·go_simp
           (go_at_call 69; refine (HCU.out _ (HBZ.out.trans ((HeldY.bl (by assumption)).mono HBZ.out.size))).mono ?_; rintro e w7 ⟨rfl, hb7⟩)
           go_wp2_with fail
           refine hK.out _ _ ?_ (fun hHeld => ?_)
           ·(first | assumption | exact HeldY.below (by assumption) hb7 HZZ.out.1 HZZ.out.2 | exact HeldY.below (by assumption) hb8 HZZ.out.1 HZZ.out.2)
           clear hK K
           (try simp only [Act.put, List.setIfInBounds_toArray, List.set_cons_zero, List.set_cons_succ])
           refine readyT (rs := [22]) (by kernel_rfl) (by simp) ?_
           refine AllReadyT.cons rfl (fun K hK => ?_) ?_
           ·go_simp
            (go_at_call 48; refine (HPO.out _ (HBZ.out.trans ((HeldY.bl (by assumption)).mono HBZ.out.size))).mono ?_; rintro e w8 ⟨rfl, hb8⟩)
            go_wp2_with fail
            refine hK.out _ _ ?_ (fun hHeld => ?_)
            ·(first | assumption | exact HeldY.below (by assumption) hb7 HZZ.out.1 HZZ.out.2 | exact HeldY.below (by assumption) hb8 HZZ.out.1 HZZ.out.2)
            clear hK K
            (try simp only [Act.put, List.setIfInBounds_toArray, List.set_cons_zero, List.set_cons_succ])
            refine tk 23 74 ?_
            refine tk 24 75 ?_
            refine tk 25 76 ?_
            refine tk 26 77 ?_
            refine tk 27 78 ?_
            refine doneT (by kernel_rfl) ?_ _
            have HBE := Lib.hid (HBZ.out.trans ((HeldY.bl hHeld).mono HBZ.out.size))
            clear hHeld hb7 hb8
            rw [HUB.out]
            cases UB with
            | true =>
             have HKV : keyP F r (condR false) (v, s) = true := by rw [HKP.out]; unfold condR; rw [HGB.out, HUB.out]; rfl
             go_wp2_with (at_builtin; refine app_ky v s (.tmp 79) (.tmp 83) rfl rfl w2.heap.size (.slice A8 n8 c8) n8 (KL v s) HN8.out.symm (by rfl) (HOW2.out _ HBE.out) (by rfl) (by have := HLE.out v s HLV.out.2.1 (by have := HLT.out; have := HLV.out; omega); have := HN8.out; omega) (Nat.le_trans HBR.out.size HBE.out.size) ?_; intro v9 w9 hown9 hg9 hat9; have HO9 := Lib.hid hown9; have HG9 := Lib.hid hg9; clear hown9 hg9 hat9)
             go_roundg (EX - (s + 1))
             case measure => have := HLT.out; omega
             case rel => exact ⟨s + 1, by have := HLT.out; omega, rfl, by go_num, by rw [HKS.out, HKV, if_pos rfl]; exact HO9.out, (HBR.out.trans (HBE.out.mono HBR.out.size)).grown HG9.out (Nat.le_trans HBR.out.size HBE.out.size) (fun b e => (HO.out.lt b e).1)⟩
            | false =>
             have HKV : keyP F r (condR false) (v, s) = false := by rw [HKP.out]; unfold condR; rw [HGB.out, HUB.out]; rfl
             go_wp2_with fail
             go_roundg (EX - (s + 1))
             case measure => have := HLT.out; omega
             case rel => exact ⟨s + 1, by have := HLT.out; omega, rfl, by go_num, by rw [HKS.out, HKV, if_neg (by decide), List.append_nil]; exact HO.out.below HBE.out, HBR.out.trans (HBE.out.mono HBR.out.size)⟩
           exact AllReadyT.nil
          exact AllReadyT.nil
      exact AllReadyT.nil
     exact AllReadyT.nil
    ·-- R2{
     obtain rfl : EX = s := by omega
     go_wp2_with fail
     go_roundg (NO - (v + 1))
     case measure => have := HLT.out; omega
     case rel => exact ⟨v + 1, by have := HLT.out; omega, rfl, by go_num, by rw [← HKN.out]; exact HO.out, HBR.out⟩
  ·-- R1{
   obtain rfl : NO = v := by omega
   go_wp2_with fail
   go_ret
   exact ⟨_, rfl, HO.out.base (Nat.le_trans HB0.out.size HB2.out.size), HB0.out.trans (h0R.mono HB0.out.size)⟩
set_option maxRecDepth 100000 in
set_option maxHeartbeats 800000 in
theorem lost1_any (a u k : Int) (w : World) : Calls Tryz.prog 34 #[.int .i64 a, .int .i64 u, .int .i64 k] w fun e w' => e = .returned (.bool (condR true a u k)) ∧ w = w' := by
 have hc : condR true a u k = decide (a < k) := rfl
 rw [hc]
 go_enter Tryz.func34, Tryz.ntmps34
 go_wp2_with fail
 go_ret
 exact ⟨rfl, rfl⟩
set_option maxRecDepth 100000 in
set_option maxHeartbeats 800000 in
theorem un1_any (a u k : Int) (w : World) : Calls Tryz.prog 36 #[.int .i64 a, .int .i64 u, .int .i64 k] w fun e w' => e = .returned (.bool (condR false a u k)) ∧ w = w' := by
 by_cases h1 : k ≤ a
 ·have hc : condR false a u k = decide (u < k) := by unfold condR; rw [decide_eq_false (by omega)]; simp
  rw [hc]
  have hge : decide (k ≤ a) = true := decide_eq_true h1
  go_enter Tryz.func36, Tryz.ntmps36
  go_wp2_with fail
  go_ret
  exact ⟨rfl, rfl⟩
 ·have hc : condR false a u k = false := by unfold condR; rw [decide_eq_true (by omega)]; simp
  rw [hc]
  have hge : decide (k ≤ a) = false := decide_eq_false h1
  go_enter Tryz.func36, Tryz.ntmps36
  go_wp2_with fail
  go_ret
  exact ⟨rfl, rfl⟩
set_option maxRecDepth 100000 in
set_option maxHeartbeats 1600000 in
theorem fvalidate_empty (w : World) : Calls Tryz.prog 37 #[.agg #[.int .i64 0, .slice none 0 0, .slice none 0 0, .slice none 0 0, .slice none 0 0, .slice none 0 0, .slice none 0 0]] w fun e w' => e = .returned (.int .i64 1) ∧ Below w.heap.size w w' := by
 have HI := Lib.hid (fun w => fin_any 0 1 4 w)
 rw [decide_eq_false (show ¬ ((1 : Int) ≤ 0 ∧ (0 : Int) ≤ 4) by omega)] at HI
 go_enter Tryz.func37, Tryz.ntmps37
 go_wp2_with fail
 refine (HI.out _).mono ?_
 rintro e w1 ⟨rfl, rfl⟩
 go_wp2_with fail
 go_ret
 exact ⟨rfl, (Below.refl _ _).alloc (Nat.le_refl _) _⟩
set_option maxRecDepth 100000 in
set_option maxHeartbeats 1600000 in
theorem missing_empty (fn : Nat) (vp0 vo0 va0 : Value) (w : World) :
  Calls Tryz.prog 33 #[.agg #[.int .i64 0, .slice none 0 0, .slice none 0 0, .slice none 0 0, .slice none 0 0, .slice none 0 0, .slice none 0 0], .agg #[vp0, vo0, va0], .func (.func fn) #[] #[]] w fun e w' => e = .returned (.slice none 0 0) ∧ Below w.heap.size w w' := by
 obtain ⟨W0, hW0⟩ : ∃ W0, W0 = (w.alloc (.cells #[.int .i64 0, .slice none 0 0, .slice none 0 0, .slice none 0 0, .slice none 0 0, .slice none 0 0, .slice none 0 0] 37)).alloc (.cells #[vp0, vo0, va0] 27) := ⟨_, rfl⟩
 obtain ⟨z, hz⟩ : ∃ q, q = w.heap.size := ⟨_, rfl⟩
 have hb0 : Below w.heap.size w W0 := by rw [hW0]; exact ((Below.refl _ _).alloc (Nat.le_refl _) _).alloc (by simp) _
 have hzk : W0.heap[z]? = some (.cells #[.int .i64 0, .slice none 0 0, .slice none 0 0, .slice none 0 0, .slice none 0 0, .slice none 0 0, .slice none 0 0] 37 (0, 0)) := by
  rw [hW0, hz]; exact (Below.heap_alloc _ _ _ (by simp)).trans (heap_alloc_new w _)
 obtain ⟨c0, c1, c2, c3, c4, c5, c6⟩ := cells7 hzk
 have HV := Lib.hid (fvalidate_empty W0)
 have HW0 := Lib.hid hW0
 have HZ := Lib.hid hz
 have HB0 := Lib.hid hb0
 clear hW0 hz hb0 hzk
 go_enter Tryz.func33, Tryz.ntmps33
 go_upto_region 1 with fail
 rw [← HW0.out, ← HZ.out]
 go_wp2_with fail
 refine HV.out.mono ?_
 rintro e w1 ⟨rfl, hb1⟩
 have HB1 := Lib.hid hb1
 clear c0 c1 c2 c3 c4 c5 c6 hb1
 go_wp2_with fail
 go_ret
 exact ⟨rfl, HB0.out.trans (HB1.out.mono HB0.out.size)⟩
set_option maxRecDepth 100000 in
set_option maxHeartbeats 1600000 in
theorem lost_any (N : Nat) (hN : N ≤ 12) (vl vm vd vv vp vo vp0 vo0 va0 : Value) (F : FltM) (r : Re) (w : World) (hf : FleetS w (Bl w.heap.size) vl vm vd vv vp vo F) (hok : FleetOk N F) (h : ReS w (Bl w.heap.size) vp0 vo0 va0 r) (hp : r.plat.length ≤ 1000) (hl : ∀ l ∈ r.plat, l.length ≤ 1000) (hac : r.acks.length ≤ 1000000) :
  Calls Tryz.prog 13 #[.agg #[.int .i64 F.ext, vl, vm, vd, vv, vp, vo], .agg #[vp0, vo0, va0]] w fun e w' => ∃ u, e = .returned u ∧ OwnKy w' w.heap.size u (keyL F r (condR true) F.ext.toNat F.vols.length 0) ∧ Below w.heap.size w w' := by
 obtain ⟨W0, hW0⟩ : ∃ W0, W0 = (w.alloc (.cells #[.int .i64 F.ext, vl, vm, vd, vv, vp, vo] 37)).alloc (.cells #[vp0, vo0, va0] 27) := ⟨_, rfl⟩
 obtain ⟨z, hz⟩ : ∃ q, q = w.heap.size := ⟨_, rfl⟩
 obtain ⟨y, hy⟩ : ∃ q, q = w.heap.size + 1 := ⟨_, rfl⟩
 have hb0 : Below w.heap.size w W0 := by rw [hW0]; exact ((Below.refl _ _).alloc (Nat.le_refl _) _).alloc (by simp) _
 have hyk : W0.heap[y]? = some (.cells #[vp0, vo0, va0] 27 (0, 0)) := by
  rw [hW0]; exact heap_alloc_at _ _ _ (by rw [hy]; simp)
 have hzk : W0.heap[z]? = some (.cells #[.int .i64 F.ext, vl, vm, vd, vv, vp, vo] 37 (0, 0)) := by
  rw [hW0, hz]; exact (Below.heap_alloc _ _ _ (by simp)).trans (heap_alloc_new w _)
 obtain ⟨c0, c1, c2, c3, c4, c5, c6⟩ := cells7 hzk
 obtain ⟨d0, d1, d2, -⟩ := cells3 hyk
 have HV := Lib.hid (missingL_any (condR true) lost1_any N hN vl vm vd vv vp vo vp0 vo0 va0 F r W0 (hf.below hb0) hok (h.below hb0) hp hl hac)
 have HW0 := Lib.hid hW0
 have HZ := Lib.hid hz
 have HY := Lib.hid hy
 have HB0 := Lib.hid hb0
 obtain ⟨EX, hEX⟩ : ∃ x, x = F.ext := ⟨_, rfl⟩
 obtain ⟨KL, hKL⟩ : ∃ x, x = keyL F r (condR true) F.ext.toNat F.vols.length 0 := ⟨_, rfl⟩
 rw [← hKL] at HV ⊢
 rw [← hEX] at HV HW0 c0 ⊢
 clear hf hok h hp hl hac hW0 hz hy hb0 hzk hyk hEX hKL
 go_enter Tryz.func13, Tryz.ntmps13
 go_upto_region 1 with fail
 rw [← HW0.out, ← HY.out, ← HZ.out]
 go_wp2_with fail
 refine HV.out.mono ?_
 rintro e w1 ⟨u, rfl, ho, hb1⟩
 have HB1 := Lib.hid hb1
 have HO := Lib.hid ho
 clear c0 c1 c2 c3 c4 c5 c6 d0 d1 d2 hb1 ho
 go_wp2_with fail
 go_ret
 exact ⟨_, rfl, HO.out.base HB0.out.size, HB0.out.trans (HB1.out.mono HB0.out.size)⟩
set_option maxRecDepth 100000 in
set_option maxHeartbeats 1600000 in
theorem unav_any (N : Nat) (hN : N ≤ 12) (vl vm vd vv vp vo vp0 vo0 va0 : Value) (F : FltM) (r : Re) (w : World) (hf : FleetS w (Bl w.heap.size) vl vm vd vv vp vo F) (hok : FleetOk N F) (h : ReS w (Bl w.heap.size) vp0 vo0 va0 r) (hp : r.plat.length ≤ 1000) (hl : ∀ l ∈ r.plat, l.length ≤ 1000) (hac : r.acks.length ≤ 1000000) :
  Calls Tryz.prog 15 #[.agg #[.int .i64 F.ext, vl, vm, vd, vv, vp, vo], .agg #[vp0, vo0, va0]] w fun e w' => ∃ u, e = .returned u ∧ OwnKy w' w.heap.size u (keyL F r (condR false) F.ext.toNat F.vols.length 0) ∧ Below w.heap.size w w' := by
 obtain ⟨W0, hW0⟩ : ∃ W0, W0 = (w.alloc (.cells #[.int .i64 F.ext, vl, vm, vd, vv, vp, vo] 37)).alloc (.cells #[vp0, vo0, va0] 27) := ⟨_, rfl⟩
 obtain ⟨z, hz⟩ : ∃ q, q = w.heap.size := ⟨_, rfl⟩
 obtain ⟨y, hy⟩ : ∃ q, q = w.heap.size + 1 := ⟨_, rfl⟩
 have hb0 : Below w.heap.size w W0 := by rw [hW0]; exact ((Below.refl _ _).alloc (Nat.le_refl _) _).alloc (by simp) _
 have hyk : W0.heap[y]? = some (.cells #[vp0, vo0, va0] 27 (0, 0)) := by
  rw [hW0]; exact heap_alloc_at _ _ _ (by rw [hy]; simp)
 have hzk : W0.heap[z]? = some (.cells #[.int .i64 F.ext, vl, vm, vd, vv, vp, vo] 37 (0, 0)) := by
  rw [hW0, hz]; exact (Below.heap_alloc _ _ _ (by simp)).trans (heap_alloc_new w _)
 obtain ⟨c0, c1, c2, c3, c4, c5, c6⟩ := cells7 hzk
 obtain ⟨d0, d1, d2, -⟩ := cells3 hyk
 have HV := Lib.hid (missingU_any (condR false) un1_any N hN vl vm vd vv vp vo vp0 vo0 va0 F r W0 (hf.below hb0) hok (h.below hb0) hp hl hac)
 have HW0 := Lib.hid hW0
 have HZ := Lib.hid hz
 have HY := Lib.hid hy
 have HB0 := Lib.hid hb0
 obtain ⟨EX, hEX⟩ : ∃ x, x = F.ext := ⟨_, rfl⟩
 obtain ⟨KL, hKL⟩ : ∃ x, x = keyL F r (condR false) F.ext.toNat F.vols.length 0 := ⟨_, rfl⟩
 rw [← hKL] at HV ⊢
 rw [← hEX] at HV HW0 c0 ⊢
 clear hf hok h hp hl hac hW0 hz hy hb0 hzk hyk hEX hKL
 go_enter Tryz.func15, Tryz.ntmps15
 go_upto_region 1 with fail
 rw [← HW0.out, ← HY.out, ← HZ.out]
 go_wp2_with fail
 refine HV.out.mono ?_
 rintro e w1 ⟨u, rfl, ho, hb1⟩
 have HB1 := Lib.hid hb1
 have HO := Lib.hid ho
 clear c0 c1 c2 c3 c4 c5 c6 d0 d1 d2 hb1 ho
 go_wp2_with fail
 go_ret
 exact ⟨_, rfl, HO.out.base HB0.out.size, HB0.out.trans (HB1.out.mono HB0.out.size)⟩
set_option maxRecDepth 100000 in
set_option maxHeartbeats 1600000 in
theorem rlost_any (N : Nat) (hN : N ≤ 12) (vl vm vd vv vp vo vp0 vo0 va0 : Value) (F : FltM) (r : Re) (w : World) (hf : FleetS w (Bl w.heap.size) vl vm vd vv vp vo F) (hok : FleetOk N F) (h : ReS w (Bl w.heap.size) vp0 vo0 va0 r) (hp : r.plat.length ≤ 1000) (hl : ∀ l ∈ r.plat, l.length ≤ 1000) :
  Calls Tryz.prog 14 #[.agg #[.int .i64 F.ext, vl, vm, vd, vv, vp, vo], .agg #[vp0, vo0, va0]] w fun e w' => ∃ u, e = .returned u ∧ OwnKy w' w.heap.size u (keyL F r (condR true) F.ext.toNat F.vols.length 0) ∧ Below w.heap.size w w' := by
 obtain ⟨W0, hW0⟩ : ∃ W0, W0 = (w.alloc (.cells #[.int .i64 F.ext, vl, vm, vd, vv, vp, vo] 37)).alloc (.cells #[vp0, vo0, va0] 27) := ⟨_, rfl⟩
 obtain ⟨z, hz⟩ : ∃ q, q = w.heap.size := ⟨_, rfl⟩
 obtain ⟨y, hy⟩ : ∃ q, q = w.heap.size + 1 := ⟨_, rfl⟩
 have hb0 : Below w.heap.size w W0 := by rw [hW0]; exact ((Below.refl _ _).alloc (Nat.le_refl _) _).alloc (by simp) _
 have hyk : W0.heap[y]? = some (.cells #[vp0, vo0, va0] 27 (0, 0)) := by
  rw [hW0]; exact heap_alloc_at _ _ _ (by rw [hy]; simp)
 have hzk : W0.heap[z]? = some (.cells #[.int .i64 F.ext, vl, vm, vd, vv, vp, vo] 37 (0, 0)) := by
  rw [hW0, hz]; exact (Below.heap_alloc _ _ _ (by simp)).trans (heap_alloc_new w _)
 obtain ⟨c0, c1, c2, c3, c4, c5, c6⟩ := cells7 hzk
 obtain ⟨d0, d1, d2, -⟩ := cells3 hyk
 have HV := Lib.hid (stripes_any true N hN vl vm vd vv vp vo vp0 vo0 va0 F r W0 (hf.below hb0) hok (h.below hb0) hp hl)
 have HW0 := Lib.hid hW0
 have HZ := Lib.hid hz
 have HY := Lib.hid hy
 have HB0 := Lib.hid hb0
 obtain ⟨EX, hEX⟩ : ∃ x, x = F.ext := ⟨_, rfl⟩
 obtain ⟨KL, hKL⟩ : ∃ x, x = keyL F r (condR true) F.ext.toNat F.vols.length 0 := ⟨_, rfl⟩
 rw [← hKL] at HV ⊢
 rw [← hEX] at HV HW0 c0 ⊢
 clear hf hok h hp hl hW0 hz hy hb0 hzk hyk hEX hKL
 go_enter Tryz.func14, Tryz.ntmps14
 go_upto_region 1 with fail
 rw [← HW0.out, ← HY.out, ← HZ.out]
 go_wp2_with fail
 refine HV.out.mono ?_
 rintro e w1 ⟨u, rfl, ho, hb1⟩
 have HB1 := Lib.hid hb1
 have HO := Lib.hid ho
 clear c0 c1 c2 c3 c4 c5 c6 d0 d1 d2 hb1 ho
 go_wp2_with fail
 go_ret
 exact ⟨_, rfl, HO.out.base HB0.out.size, HB0.out.trans (HB1.out.mono HB0.out.size)⟩
set_option maxRecDepth 100000 in
set_option maxHeartbeats 1600000 in
theorem runav_any (N : Nat) (hN : N ≤ 12) (vl vm vd vv vp vo vp0 vo0 va0 : Value) (F : FltM) (r : Re) (w : World) (hf : FleetS w (Bl w.heap.size) vl vm vd vv vp vo F) (hok : FleetOk N F) (h : ReS w (Bl w.heap.size) vp0 vo0 va0 r) (hp : r.plat.length ≤ 1000) (hl : ∀ l ∈ r.plat, l.length ≤ 1000) :
  Calls Tryz.prog 16 #[.agg #[.int .i64 F.ext, vl, vm, vd, vv, vp, vo], .agg #[vp0, vo0, va0]] w fun e w' => ∃ u, e = .returned u ∧ OwnKy w' w.heap.size u (keyL F r (condR false) F.ext.toNat F.vols.length 0) ∧ Below w.heap.size w w' := by
 obtain ⟨W0, hW0⟩ : ∃ W0, W0 = (w.alloc (.cells #[.int .i64 F.ext, vl, vm, vd, vv, vp, vo] 37)).alloc (.cells #[vp0, vo0, va0] 27) := ⟨_, rfl⟩
 obtain ⟨z, hz⟩ : ∃ q, q = w.heap.size := ⟨_, rfl⟩
 obtain ⟨y, hy⟩ : ∃ q, q = w.heap.size + 1 := ⟨_, rfl⟩
 have hb0 : Below w.heap.size w W0 := by rw [hW0]; exact ((Below.refl _ _).alloc (Nat.le_refl _) _).alloc (by simp) _
 have hyk : W0.heap[y]? = some (.cells #[vp0, vo0, va0] 27 (0, 0)) := by
  rw [hW0]; exact heap_alloc_at _ _ _ (by rw [hy]; simp)
 have hzk : W0.heap[z]? = some (.cells #[.int .i64 F.ext, vl, vm, vd, vv, vp, vo] 37 (0, 0)) := by
  rw [hW0, hz]; exact (Below.heap_alloc _ _ _ (by simp)).trans (heap_alloc_new w _)
 obtain ⟨c0, c1, c2, c3, c4, c5, c6⟩ := cells7 hzk
 obtain ⟨d0, d1, d2, -⟩ := cells3 hyk
 have HV := Lib.hid (stripes_any false N hN vl vm vd vv vp vo vp0 vo0 va0 F r W0 (hf.below hb0) hok (h.below hb0) hp hl)
 have HW0 := Lib.hid hW0
 have HZ := Lib.hid hz
 have HY := Lib.hid hy
 have HB0 := Lib.hid hb0
 obtain ⟨EX, hEX⟩ : ∃ x, x = F.ext := ⟨_, rfl⟩
 obtain ⟨KL, hKL⟩ : ∃ x, x = keyL F r (condR false) F.ext.toNat F.vols.length 0 := ⟨_, rfl⟩
 rw [← hKL] at HV ⊢
 rw [← hEX] at HV HW0 c0 ⊢
 clear hf hok h hp hl hW0 hz hy hb0 hzk hyk hEX hKL
 go_enter Tryz.func16, Tryz.ntmps16
 go_upto_region 1 with fail
 rw [← HW0.out, ← HY.out, ← HZ.out]
 go_wp2_with fail
 refine HV.out.mono ?_
 rintro e w1 ⟨u, rfl, ho, hb1⟩
 have HB1 := Lib.hid hb1
 have HO := Lib.hid ho
 clear c0 c1 c2 c3 c4 c5 c6 d0 d1 d2 hb1 ho
 go_wp2_with fail
 go_ret
 exact ⟨_, rfl, HO.out.base HB0.out.size, HB0.out.trans (HB1.out.mono HB0.out.size)⟩
set_option maxRecDepth 100000 in
set_option maxHeartbeats 1600000 in
theorem lost_empty (vp0 vo0 va0 : Value) (w : World) :
  Calls Tryz.prog 13 #[.agg #[.int .i64 0, .slice none 0 0, .slice none 0 0, .slice none 0 0, .slice none 0 0, .slice none 0 0, .slice none 0 0], .agg #[vp0, vo0, va0]] w fun e w' => e = .returned (.slice none 0 0) ∧ Below w.heap.size w w' := by
 obtain ⟨W0, hW0⟩ : ∃ W0, W0 = (w.alloc (.cells #[.int .i64 0, .slice none 0 0, .slice none 0 0, .slice none 0 0, .slice none 0 0, .slice none 0 0, .slice none 0 0] 37)).alloc (.cells #[vp0, vo0, va0] 27) := ⟨_, rfl⟩
 obtain ⟨z, hz⟩ : ∃ q, q = w.heap.size := ⟨_, rfl⟩
 obtain ⟨y, hy⟩ : ∃ q, q = w.heap.size + 1 := ⟨_, rfl⟩
 have hb0 : Below w.heap.size w W0 := by rw [hW0]; exact ((Below.refl _ _).alloc (Nat.le_refl _) _).alloc (by simp) _
 have hyk : W0.heap[y]? = some (.cells #[vp0, vo0, va0] 27 (0, 0)) := by
  rw [hW0]; exact heap_alloc_at _ _ _ (by rw [hy]; simp)
 have hzk : W0.heap[z]? = some (.cells #[.int .i64 0, .slice none 0 0, .slice none 0 0, .slice none 0 0, .slice none 0 0, .slice none 0 0, .slice none 0 0] 37 (0, 0)) := by
  rw [hW0, hz]; exact (Below.heap_alloc _ _ _ (by simp)).trans (heap_alloc_new w _)
 obtain ⟨c0, c1, c2, c3, c4, c5, c6⟩ := cells7 hzk
 obtain ⟨d0, d1, d2, -⟩ := cells3 hyk
 have HV := Lib.hid (missing_empty 34 vp0 vo0 va0 W0)
 have HW0 := Lib.hid hW0
 have HZ := Lib.hid hz
 have HY := Lib.hid hy
 have HB0 := Lib.hid hb0
 clear hW0 hz hy hb0 hzk hyk
 go_enter Tryz.func13, Tryz.ntmps13
 go_upto_region 1 with fail
 rw [← HW0.out, ← HY.out, ← HZ.out]
 go_wp2_with fail
 refine HV.out.mono ?_
 rintro e w1 ⟨rfl, hb1⟩
 have HB1 := Lib.hid hb1
 clear c0 c1 c2 c3 c4 c5 c6 d0 d1 d2 hb1
 go_wp2_with fail
 go_ret
 exact ⟨rfl, HB0.out.trans (HB1.out.mono HB0.out.size)⟩
set_option maxRecDepth 100000 in
set_option maxHeartbeats 1600000 in
theorem unav_empty (vp0 vo0 va0 : Value) (w : World) :
  Calls Tryz.prog 15 #[.agg #[.int .i64 0, .slice none 0 0, .slice none 0 0, .slice none 0 0, .slice none 0 0, .slice none 0 0, .slice none 0 0], .agg #[vp0, vo0, va0]] w fun e w' => e = .returned (.slice none 0 0) ∧ Below w.heap.size w w' := by
 obtain ⟨W0, hW0⟩ : ∃ W0, W0 = (w.alloc (.cells #[.int .i64 0, .slice none 0 0, .slice none 0 0, .slice none 0 0, .slice none 0 0, .slice none 0 0, .slice none 0 0] 37)).alloc (.cells #[vp0, vo0, va0] 27) := ⟨_, rfl⟩
 obtain ⟨z, hz⟩ : ∃ q, q = w.heap.size := ⟨_, rfl⟩
 obtain ⟨y, hy⟩ : ∃ q, q = w.heap.size + 1 := ⟨_, rfl⟩
 have hb0 : Below w.heap.size w W0 := by rw [hW0]; exact ((Below.refl _ _).alloc (Nat.le_refl _) _).alloc (by simp) _
 have hyk : W0.heap[y]? = some (.cells #[vp0, vo0, va0] 27 (0, 0)) := by
  rw [hW0]; exact heap_alloc_at _ _ _ (by rw [hy]; simp)
 have hzk : W0.heap[z]? = some (.cells #[.int .i64 0, .slice none 0 0, .slice none 0 0, .slice none 0 0, .slice none 0 0, .slice none 0 0, .slice none 0 0] 37 (0, 0)) := by
  rw [hW0, hz]; exact (Below.heap_alloc _ _ _ (by simp)).trans (heap_alloc_new w _)
 obtain ⟨c0, c1, c2, c3, c4, c5, c6⟩ := cells7 hzk
 obtain ⟨d0, d1, d2, -⟩ := cells3 hyk
 have HV := Lib.hid (missing_empty 36 vp0 vo0 va0 W0)
 have HW0 := Lib.hid hW0
 have HZ := Lib.hid hz
 have HY := Lib.hid hy
 have HB0 := Lib.hid hb0
 clear hW0 hz hy hb0 hzk hyk
 go_enter Tryz.func15, Tryz.ntmps15
 go_upto_region 1 with fail
 rw [← HW0.out, ← HY.out, ← HZ.out]
 go_wp2_with fail
 refine HV.out.mono ?_
 rintro e w1 ⟨rfl, hb1⟩
 have HB1 := Lib.hid hb1
 clear c0 c1 c2 c3 c4 c5 c6 d0 d1 d2 hb1
 go_wp2_with fail
 go_ret
 exact ⟨rfl, HB0.out.trans (HB1.out.mono HB0.out.size)⟩
def lightB (r : Re) : Bool := decide (r.plat.length ≤ 12 ∧ r.on.length ≤ 30 ∧ r.acks.length ≤ 30) && r.plat.all fun l => decide (l.length ≤ 20)
theorem lightB_iff (r : Re) : lightB r = true ↔ r.plat.length ≤ 12 ∧ r.on.length ≤ 30 ∧ r.acks.length ≤ 30 ∧ ∀ l ∈ r.plat, l.length ≤ 20 := by
 unfold lightB
 simp only [Bool.and_eq_true, decide_eq_true_eq, List.all_eq_true]
 constructor
 ·rintro ⟨⟨a, b, c⟩, d⟩; exact ⟨a, b, c, d⟩
 ·rintro ⟨a, b, c, d⟩; exact ⟨⟨a, b, c⟩, d⟩
theorem lightB_no {r : Re} (h : ¬ (r.plat.length ≤ 12 ∧ r.on.length ≤ 30 ∧ r.acks.length ≤ 30 ∧ ∀ l ∈ r.plat, l.length ≤ 20)) : lightB r = false := by
 cases hb : lightB r with
 | false => rfl
 | true => exact absurd ((lightB_iff r).1 hb) h
set_option maxRecDepth 100000 in
set_option maxHeartbeats 1600000 in
theorem light_any (vp vo va : Value) (r : Re) (w : World) (h : ReS w (Bl w.heap.size) vp vo va r) :
  Calls Tryz.prog 9 #[.agg #[vp, vo, va]] w fun e w' => e = .returned (.bool (lightB r)) ∧ Below w.heap.size w w' := by
 obtain ⟨Ap, cp, rfl, -, hmp⟩ := h.1.form
 obtain ⟨Ao, co, rfl, -, hmo⟩ := h.2.1.form
 obtain ⟨Aa, ca, rfl, -, hma⟩ := h.2.2.form
 unfold maxLen at hmp hmo hma
 have HR := Lib.hid h.1
 obtain ⟨nP, hnP⟩ : ∃ n, n = r.plat.length := ⟨_, rfl⟩
 obtain ⟨nO, hnO⟩ : ∃ n, n = r.on.length := ⟨_, rfl⟩
 obtain ⟨nA, hnA⟩ : ∃ n, n = r.acks.length := ⟨_, rfl⟩
 have HN := Lib.hid (show nP = r.plat.length ∧ nO = r.on.length ∧ nA = r.acks.length from ⟨hnP, hnO, hnA⟩)
 rw [← hnP, ← hnO, ← hnA]
 rw [← hnP] at hmp
 rw [← hnO] at hmo
 rw [← hnA] at hma
 obtain ⟨W0, hW0⟩ : ∃ W0, W0 = w.alloc (.cells #[.slice Ap nP cp, .slice Ao nO co, .slice Aa nA ca] 27) := ⟨_, rfl⟩
 obtain ⟨q, hq⟩ : ∃ q, q = w.heap.size := ⟨_, rfl⟩
 have c0 : W0.cell? ⟨q, 0, none⟩ = some (.slice Ap nP cp) := by rw [hW0, hq]; simp
 have c1 : W0.cell? ⟨q, 1, none⟩ = some (.slice Ao nO co) := by rw [hW0, hq]; simp
 have c2 : W0.cell? ⟨q, 2, none⟩ = some (.slice Aa nA ca) := by rw [hW0, hq]; simp
 have hb0 : Below w.heap.size w W0 := by rw [hW0]; exact (Below.refl _ _).alloc (Nat.le_refl _) _
 have HB0 := Lib.hid hb0
 have HQ := Lib.hid hq
 have HW0 := Lib.hid hW0
 have HP := Lib.hid (show SlS 1 DrvK W0 (Bl w.heap.size) (.slice Ap nP cp) r.plat from SlS.keep drvK (by rw [HN.out.1]; exact HR.out) (kept_below hb0))
 clear h HR hnP hnO hnA hW0 hq hb0
 go_enter Tryz.func9, Tryz.ntmps9
 by_cases h1 : nP ≤ 12
 ·by_cases h2 : nO ≤ 30
  ·by_cases h3 : nA ≤ 30
   ·have HH := Lib.hid (show nP ≤ 12 ∧ nO ≤ 30 ∧ nA ≤ 30 from ⟨h1, h2, h3⟩)
    go_wp2_with fail
    rw [← HW0.out, ← HQ.out]
    go_loopg [3] nP (fun z v3 wr => W0 = wr ∧ ∃ j : Nat, j ≤ nP ∧ z = nP - j ∧ v3 = .int .i64 (j : Int) ∧ Hid (∀ l ∈ r.plat.take j, l.length ≤ 20))
    case atStart => exact ⟨rfl, 0, by omega, rfl, rfl, fun l hl => by simp at hl⟩
    case round =>
     obtain ⟨rfl, j, hj, rfl, rfl, HJ⟩ := hrel
     by_cases hlt : j < nP
     ·obtain ⟨b, off, cs, hAp, hR, -, hc, v, rfl, hv⟩ := HP.out.at_ (by rw [← HN.out.1]; exact hlt)
      subst hAp
      have hcell := hc 0 v rfl
      simp only [Nat.mul_one, Nat.add_zero] at hcell
      obtain ⟨Al, cl, rfl, -, hml⟩ := SlS.form hv
      unfold maxLen at hml
      have HL := Lib.hid (show r.plat[j]'(by rw [← HN.out.1]; exact hlt) ∈ r.plat from List.getElem_mem _)
      have hst : (r.plat[j]'(by rw [← HN.out.1]; exact hlt)).length ≤ 20 → ∀ l ∈ r.plat.take (j + 1), l.length ≤ 20 := fun h l hl => by
       rw [List.take_add_one, List.getElem?_eq_getElem (by rw [← HN.out.1]; exact hlt)] at hl
       rcases List.mem_append.1 hl with h2 | h2
       ·exact HJ.out l h2
       ·have h3 : l = r.plat[j]'(by rw [← HN.out.1]; exact hlt) := by simpa using h2
        rw [h3]; exact h
      have HST := Lib.hid hst
      clear hst hc hv
      generalize (r.plat[j]'(by rw [← HN.out.1]; exact hlt)) = x at *
      have HX := Lib.hid HL.out
      by_cases h4 : x.length ≤ 20
      ·have HS := Lib.hid (HST.out h4)
       go_wp2_with fail
       go_roundg (nP - (j + 1))
       case measure => omega
       case rel => exact ⟨rfl, j + 1, by omega, rfl, by go_num, HS⟩
      ·have hE : lightB r = false := lightB_no fun h => h4 (h.2.2.2 x HX.out)
       have HE := Lib.hid hE
       clear hE
       go_wp2_with fail
       go_ret
       exact ⟨by rw [HE.out]; rfl, HB0.out⟩
     ·have hE : lightB r = true := (lightB_iff r).2 ⟨by have := HN.out; have := HH.out; omega, by have := HN.out; have := HH.out; omega, by have := HN.out; have := HH.out; omega, fun l hl => HJ.out l (by rw [List.take_of_length_le (by have := HN.out; omega)]; exact hl)⟩
      have HE := Lib.hid hE
      clear hE
      go_wp2_with fail
      go_ret
      exact ⟨by rw [HE.out]; rfl, HB0.out⟩
   ·have HE := Lib.hid (lightB_no (r := r) fun h => h3 (by have := HN.out; omega))
    go_wp2_with fail
    rw [← HW0.out]
    go_ret
    exact ⟨by rw [HE.out]; rfl, HB0.out⟩
  ·have HE := Lib.hid (lightB_no (r := r) fun h => h2 (by have := HN.out; omega))
   go_wp2_with fail
   rw [← HW0.out]
   go_ret
   exact ⟨by rw [HE.out]; rfl, HB0.out⟩
 ·have HE := Lib.hid (lightB_no (r := r) fun h => h1 (by have := HN.out; omega))
  go_wp2_with fail
  rw [← HW0.out]
  go_ret
  exact ⟨by rw [HE.out]; rfl, HB0.out⟩
end Go.Proofs.YtmehadfhcdpfcaaGreat
