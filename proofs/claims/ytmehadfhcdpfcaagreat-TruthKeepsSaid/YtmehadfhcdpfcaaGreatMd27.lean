/- Contents at a stripe of a made fleet, walked. -/
import Derived.Test.YtmehadfhcdpfcaaGreatMd20
import Derived.Test.YtmehadfhcdpfcaaGreatMd26
import Derived.Test.YtmehadfhcdpfcaaGreatMd06
import Derived.Test.YtmehadfhcdpfcaaGreatMd01
namespace Go.Proofs.YtmehadfhcdpfcaaGreat
open Go.RowKit
set_option linter.unusedVariables false
set_option linter.unusedSimpArgs false
def frT (r : Re) (v s : Nat) (up : Bool) (n : Nat) : List Int := outTo r up (stripeP (pieces r) (v : Int) (s : Int)) (n : Int) 8
def pickF (r : Re) (l : List Fd) (up : Bool) (i : Int) : Frg := ⟨i, ((l.find? (srcC r up i)).map (·.p.data)).getD []⟩
def hvT (r : Re) (v s : Nat) (up : Bool) (k n : Nat) : List Frg := ((frT r v s up n).take k).map (pickF r (stripeP (pieces r) (v : Int) (s : Int)) up)
def conE (r : Re) (v s : Nat) (up : Bool) (k n : Nat) : Int := if (frT r v s up n).length < k then 121 else decE (k : Int) ((n : Int) - (k : Int)) (hvT r v s up k n)
def conS (r : Re) (v s : Nat) (up : Bool) (k n : Nat) : List UInt8 := if (frT r v s up n).length < k then [] else if decE (k : Int) ((n : Int) - (k : Int)) (hvT r v s up k n) = 0 then ((wordT k n (decD k (hvT r v s up k n)) (rowLen (hvT r v s up k n))).take k).flatten else []
def HeldX (gi lb o : Nat) (a b : Value) (w' : World) : Prop := w'.cell? ⟨gi, 0, none⟩ = some a ∧ w'.cell? ⟨lb, o, none⟩ = some b
theorem HeldX.same {wc w2 : World} {gi lb o : Nat} {a b : Value} (h : HeldX gi lb o a b wc) (e1 : w2.heap[gi]? = wc.heap[gi]?) (e2 : w2.heap[lb]? = wc.heap[lb]?) : HeldX gi lb o a b w2 :=
 ⟨(World.cell?_of_block (w := wc) e1).trans h.1, (World.cell?_of_block (w := wc) e2).trans h.2⟩
theorem conv_piece (y : ByteArray) (w : World) (hy : y.size ≤ maxLen) : ∃ (cap : Nat) (w' : World), (convert 9 88 (.string y)).run Tryz.prog w = .ok (.slice (some ⟨w.heap.size, 0, none⟩) y.size cap) w' ∧ Below w.heap.size w w' ∧ w'.heap.size = w.heap.size + 1 ∧ ByS w' (Fr w.heap.size (w.heap.size + 1)) (.slice (some ⟨w.heap.size, 0, none⟩) y.size cap) y.data.toList := by
 have h := run_bytes_of_string (P := Tryz.prog) w 9 88 5 y Tryz.underlying9 Tryz.underlying88 Tryz.underlying5
 refine ⟨_, _, h, (Below.refl _ _).drew.alloc (Nat.le_refl _) _, by show (Array.push w.heap _).size = w.heap.size + 1; exact Array.size_push _, ?_⟩
 have hg := grownCap_ge w y.size 0 5
 refine ⟨_, _, rfl, hg, hy, fun _ => ⟨w.heap.size, 0, rfl, ⟨Nat.le_refl _, Nat.lt_succ_self _⟩, fun k x hk => ?_⟩⟩
 rw [Nat.zero_add]
 have hk2 := (List.getElem?_eq_some_iff.1 hk)
 have hb := heap_alloc_new w.drew (.cells (bytesRow y (grownCap w y.size 0 5)) 5 ((bytesRow y (grownCap w y.size 0 5)).size, (bytesRow y (grownCap w y.size 0 5)).size + 1))
 rw [show (⟨w.heap.size, k, none⟩ : Addr) = ⟨w.drew.heap.size, k, none⟩ from rfl, cell_of_row _ _ _ _ _ _ hb]
 unfold bytesRow
 rw [Array.getElem?_append_left (by simp; exact hk2.1), Array.getElem?_map]
 have h3 : y.data[k]? = some x := by rw [← Array.getElem?_toList]; exact hk
 rw [h3]; rfl
set_option maxRecDepth 100000 in
set_option maxHeartbeats 1600000 in
theorem isStripe_any (ext : Int) (vl vm vd vv vp : Value) (A : Option Addr) (NO co v s : Nat) (w : World) (hv : v < NO) (hs : (s : Int) < ext) :
  Calls Tryz.prog 39 #[.agg #[.int .i64 ext, vl, vm, vd, vv, vp, .slice A NO co], .int .i64 (v : Int), .int .i64 (s : Int)] w fun e w' => e = .returned (.bool true) ∧ Below w.heap.size w w' := by
 have f1 : decide ((0 : Int) ≤ (v : Int)) = true := decide_eq_true (by omega)
 have f2 : decide ((0 : Int) ≤ (s : Int)) = true := decide_eq_true (by omega)
 have i1 : (v : Int) < (NO : Int) := by omega
 go_enter Tryz.func39, Tryz.ntmps39
 go_wp2_with fail
 go_ret
 exact ⟨rfl, (Below.refl _ _).alloc (Nat.le_refl _) _⟩
theorem idxC_ok (r : Re) (up : Bool) (l : List Fd) (n : Int) (x : Int) (hx : x ∈ outTo r up l n 8) : ∃ (t : Nat) (h : t < l.length), idxC r up x l = (t : Int) ∧ l.find? (srcC r up x) = some l[t] := by
 unfold outTo at hx
 obtain ⟨i, -, hi⟩ := List.mem_filterMap.1 hx
 by_cases hc : hasB r up l i = true ∧ (i : Int) < n
 ·rw [if_pos hc] at hi
  injection hi with hi
  subst hi
  have ha : l.any (srcC r up (i : Int)) = true := hc.1
  have hne : (l.findIdx? (srcC r up (i : Int))) ≠ none := fun e => by
   rw [List.findIdx?_eq_none_iff] at e
   obtain ⟨y, hy, hp⟩ := List.any_eq_true.1 ha
   rw [e y hy] at hp; cases hp
  obtain ⟨t, ht⟩ := Option.ne_none_iff_exists'.1 hne
  obtain ⟨h1, h2, h3⟩ := List.findIdx?_eq_some_iff_getElem.1 ht
  refine ⟨t, h1, by unfold idxC; rw [ht], ?_⟩
  rw [List.find?_eq_some_iff_getElem]
  exact ⟨h2, t, h1, rfl, fun u hu => by have := h3 u hu; simpa using this⟩
 ·rw [if_neg hc] at hi; cases hi
theorem hvT_le (r : Re) (v s : Nat) (up : Bool) (k n : Nat) (h16 : ∀ x ∈ stripeP (pieces r) (v : Int) (s : Int), x.p.data.length = 16) : ∀ h ∈ hvT r v s up k n, h.data.length ≤ 16 := fun h hh => by
 obtain ⟨i, -, rfl⟩ := List.mem_map.1 hh
 unfold pickF
 cases hf : (stripeP (pieces r) (v : Int) (s : Int)).find? (srcC r up i) with
 | none => simp
 | some x => simp [h16 x (List.mem_of_find?_eq_some hf)]
theorem hvT_row (r : Re) (v s : Nat) (up : Bool) (k n : Nat) (h16 : ∀ x ∈ stripeP (pieces r) (v : Int) (s : Int), x.p.data.length = 16) (hk : 1 ≤ k) (hl : k ≤ (frT r v s up n).length) : rowLen (hvT r v s up k n) = 16 := by
 unfold rowLen hvT datas
 rw [List.map_map]
 cases hfr : frT r v s up n with
 | nil => rw [hfr] at hl; simp at hl; omega
 | cons i t =>
  obtain ⟨k', rfl⟩ : ∃ k', k = k' + 1 := ⟨k - 1, by omega⟩
  rw [List.take_succ_cons, List.map_cons]
  show (pickF r _ up i).data.length = 16
  have hm : i ∈ outTo r up (stripeP (pieces r) (v : Int) (s : Int)) (n : Int) 8 := by
   have : i ∈ frT r v s up n := by rw [hfr]; simp
   exact this
  obtain ⟨t', ht', -, hf⟩ := idxC_ok r up _ _ i hm
  unfold pickF
  rw [hf]
  exact h16 _ (List.getElem_mem ht')
set_option maxRecDepth 100000 in
set_option maxHeartbeats 6400000 in
theorem contents_any (N : Nat) (hN : N ≤ 12) (vl vm vd vv vp vo vp0 vo0 va0 : Value) (F : FltM) (r : Re) (v s EX KN KM : Nat) (up : Bool) (w : World) (hf : FleetS w (Bl w.heap.size) vl vm vd vv vp vo F) (hok : FleetOk N F) (h : ReS w (Bl w.heap.size) vp0 vo0 va0 r) (hp : r.plat.length ≤ 1000) (hl : ∀ l ∈ r.plat, l.length ≤ 1000) (hac : r.acks.length ≤ 1000000)
  (hv : v < F.vols.length) (hEX : F.ext = (EX : Int)) (hs : s < EX) (hKN : kOf F v = (KN : Int)) (hKM : kOf F v + mOf F v = (KM : Int)) :
  Calls Tryz.prog 25 #[.agg #[.int .i64 F.ext, vl, vm, vd, vv, vp, vo], .agg #[vp0, vo0, va0], .int .i64 (v : Int), .int .i64 (s : Int), .bool up] w fun e w' => e = .returned (.tuple #[.string ⟨(conS r v s up KN KM).toArray⟩, .int .i64 (conE r v s up KN KM)]) ∧ Below w.heap.size w w' := by
 obtain ⟨pb, pof, ob, oof, cp, co, rfl, rfl, hRp, hRo, hPA⟩ := polAt hf hok
 have HVA := Lib.hid (fun (w' : World) (hb : Below w.heap.size w w') => fvalidate_any N hN vl vm vd vv _ _ F w' (hf.below hb) hok)
 have HIX := Lib.hid (fun w1 h1 => index_any vp0 vo0 va0 r w1 h1 hp hl hac)
 have HRE := Lib.hid (fun (w' : World) (hb : Below w.heap.size w w') => h.below hb)
 have HPL := Lib.hid (piecesTo_all r r.plat.length)
 have HPD := Lib.hid (pieces_drive r (by omega))
 obtain ⟨hpl, nm, hvol, a0, a4, a5, a6, a7, a8, a9, a10, a11, a12, a13, a14, a15, a16, hpol, hone⟩ := hPA v hv
 obtain ⟨kk, m1, m2, -, -⟩ := kmq_ok hok hv
 obtain ⟨MM, hMM⟩ : ∃ x, x = mOf F v := ⟨_, rfl⟩
 obtain ⟨QQ, hQ⟩ : ∃ x, x = qOf F v := ⟨_, rfl⟩
 obtain ⟨p0, hpp⟩ : ∃ x, x = volP F v := ⟨_, rfl⟩
 rw [hKN, ← hMM, ← hQ] at hpol hone
 rw [← hpp] at hvol hpl hpol
 rw [hKN, ← hMM] at hKM
 rw [← hMM] at m1 m2
 rw [hKN] at kk
 have HKM := Lib.hid (show (KN = 1 ∨ KN = 2) ∧ 0 ≤ MM ∧ MM ≤ 2 ∧ (KN : Int) + MM = (KM : Int) ∧ KM ≤ 4 from ⟨by omega, m1, m2, hKM, by omega⟩)
 have hex : EX ≤ 2 := by have := hok.ext; omega
 have hno := hok.volN
 have hnp := hok.polN
 have HIS := Lib.hid (fun (w' : World) => isStripe_any (EX : Int) vl vm vd vv (.slice (some ⟨pb, pof, none⟩) F.pols.length cp) (some ⟨ob, oof, none⟩) F.vols.length co v s w' hv (by omega))
 rw [hEX] at HVA ⊢
 have HI64 := Lib.hid (show I64 (v : Int) ∧ I64 (s : Int) from ⟨by unfold I64; omega, by unfold I64; omega⟩)
 obtain ⟨NO, hNO⟩ : ∃ n, n = F.vols.length := ⟨_, rfl⟩
 obtain ⟨NP, hNP⟩ : ∃ n, n = F.pols.length := ⟨_, rfl⟩
 rw [← hNO] at hno hv HVA HIS ⊢
 rw [← hNP] at hnp hpl HVA HIS ⊢
 obtain ⟨W0, hW0⟩ : ∃ W0, W0 = ((w.alloc (.cells #[.int .i64 (EX : Int), vl, vm, vd, vv, .slice (some ⟨pb, pof, none⟩) NP cp, .slice (some ⟨ob, oof, none⟩) NO co] 37)).alloc (.cells #[vp0, vo0, va0] 27)).alloc (.cells #[.bool up] 4) := ⟨_, rfl⟩
 obtain ⟨z, hz⟩ : ∃ q, q = w.heap.size := ⟨_, rfl⟩
 obtain ⟨y, hy⟩ : ∃ q, q = w.heap.size + 1 := ⟨_, rfl⟩
 obtain ⟨gu, hgu⟩ : ∃ q, q = w.heap.size + 1 + 1 := ⟨_, rfl⟩
 have hb0 : Below w.heap.size w W0 := by rw [hW0]; exact (((Below.refl _ _).alloc (Nat.le_refl _) _).alloc (by simp) _).alloc (by simp; omega) _
 have hgk : W0.heap[gu]? = some (.cells #[.bool up] 4 (0, 0)) := by rw [hW0]; exact heap_alloc_at _ _ _ (by rw [hgu]; simp)
 have hyk : W0.heap[y]? = some (.cells #[vp0, vo0, va0] 27 (0, 0)) := by
  rw [hW0]; exact (Below.heap_alloc _ _ _ (by rw [hy]; simp)).trans (heap_alloc_at _ _ _ (by rw [hy]; simp))
 have hzk : W0.heap[z]? = some (.cells #[.int .i64 (EX : Int), vl, vm, vd, vv, .slice (some ⟨pb, pof, none⟩) NP cp, .slice (some ⟨ob, oof, none⟩) NO co] 37 (0, 0)) := by
  rw [hW0, hz]; exact (Below.heap_alloc _ _ _ (by simp; omega)).trans ((Below.heap_alloc _ _ _ (by simp)).trans (heap_alloc_new w _))
 have hyl : y < W0.heap.size := (Array.getElem?_eq_some_iff.1 hyk).1
 have hzl : z < W0.heap.size := (Array.getElem?_eq_some_iff.1 hzk).1
 have hgl : gu < W0.heap.size := (Array.getElem?_eq_some_iff.1 hgk).1
 have HC := Lib.hid (fun (w' : World) (hb : Below W0.heap.size W0 w') => And.intro (cells7 ((hb.block z hzl).trans hzk)) (And.intro (cells3 ((hb.block y hyl).trans hyk)) (show w'.cell? ⟨gu, 0, none⟩ = some (.bool up) from by rw [cell_of_row _ _ _ _ _ _ ((hb.block gu hgl).trans hgk)]; rfl)))
 have HW0 := Lib.hid hW0
 have HZ := Lib.hid hz
 have HY := Lib.hid hy
 have HGU := Lib.hid hgu
 have HB0 := Lib.hid hb0
 have HVOL := Lib.hid (fun (w' : World) (hb : Below W0.heap.size W0 w') => (show w'.cell? ⟨ob, oof + v * 2 + 1, none⟩ = some (.int .i64 (p0 : Int)) from range_same hvol ((hb0.trans (hb.mono hb0.size)).block ob hRo) 1 _ rfl))
 have HPOL := Lib.hid (fun (w' : World) (hb : Below W0.heap.size W0 w') => (show w'.rangeAt pb (pof + p0 * 17) [a0, .int .i64 (KN : Int), .int .i64 MM, .int .i64 QQ, a4, a5, a6, a7, a8, a9, a10, a11, a12, a13, a14, a15, a16] from range_same hpol ((hb0.trans (hb.mono hb0.size)).block pb hRp)))
 have HON := Lib.hid hone
 have i1 : (v : Int) < (NO : Int) := by omega
 have i2 : (p0 : Int) < (NP : Int) := by omega
 have i3 : (KN : Int) ≤ 2 := by omega
 have i4 : (1 : Int) ≤ (KN : Int) := by omega
 have i5 : (KM : Int) ≤ 4 := by have := HKM.out; omega
 have hkw : IntKind.i64.wrap ((KN : Int) + MM) = (KM : Int) := by rw [HKM.out.2.2.2.1]; exact IntWalk.i64_in _ (by omega)
 have hkm : (KN : Int) + MM = (KM : Int) := HKM.out.2.2.2.1
 have hkw2 : IntKind.i64.wrap (KM : Int) = (KM : Int) := IntWalk.i64_in _ (by omega)
 have HMM := Lib.hid (show MM = (KM : Int) - (KN : Int) from by omega)
 obtain ⟨⟨c0, c1, c2, c3, c4, c5, c6⟩, -⟩ := HC.out W0 (Below.refl _ _)
 clear hf hok h hPA hRp hRo hvol hpol hone hW0 hz hy hgu hb0 hgk hyk hzk hyl hzl hgl hNO hNP hEX hKN hMM hQ hpp hpl kk m1 m2 hKM
 go_enter Tryz.func25, Tryz.ntmps25
 go_wp2_with fail
 rw [← HW0.out, ← HGU.out, ← HY.out, ← HZ.out]
 refine (HVA.out _ HB0.out).mono ?_
 rintro e w0 ⟨rfl, hb00⟩
 have HB00 := Lib.hid hb00
 clear c0 c1 c2 c3 c4 c5 c6 hb00
 obtain ⟨⟨c0, c1, c2, c3, c4, c5, c6⟩, -⟩ := HC.out w0 HB00.out
 go_wp2_with fail
 refine (HIS.out _).mono ?_
 rintro e w1 ⟨rfl, hb1⟩
 have HB1 := Lib.hid (HB00.out.trans (hb1.mono HB00.out.size))
 have HTH := Lib.hid (show ((w1.alloc (.cells #[.string ⟨#[]⟩, .int .i64 0, .int .i64 0, .int .i64 0, .int .i64 0, .int .i64 0, .int .i64 0, .int .i64 0, .int .i64 0, .slice none 0 0, .slice none 0 0, .bool false, .slice none 0 0, .slice none 0 0, .bool false, .slice none 0 0, .slice none 0 0] 63)).drew).there w1.heap.size 0 17 from there_of_block (w := (w1.alloc (.cells #[.string ⟨#[]⟩, .int .i64 0, .int .i64 0, .int .i64 0, .int .i64 0, .int .i64 0, .int .i64 0, .int .i64 0, .int .i64 0, .slice none 0 0, .slice none 0 0, .bool false, .slice none 0 0, .slice none 0 0, .bool false, .slice none 0 0, .slice none 0 0] 63)).drew) (cs := #[.string ⟨#[]⟩, .int .i64 0, .int .i64 0, .int .i64 0, .int .i64 0, .int .i64 0, .int .i64 0, .int .i64 0, .int .i64 0, .slice none 0 0, .slice none 0 0, .bool false, .slice none 0 0, .slice none 0 0, .bool false, .slice none 0 0, .slice none 0 0]) (heap_alloc_new w1 _) (Nat.le_refl 17))
 have HSK := Lib.hid (fun (w' : World) (hb : Below w1.heap.size w1 w') => (show w'.cell? ⟨z, 5, none⟩ = some (.slice (some ⟨pb, pof, none⟩) NP cp) ∧ w'.cell? ⟨z, 6, none⟩ = some (.slice (some ⟨ob, oof, none⟩) NO co) ∧ w'.cell? ⟨ob, oof + v * 2 + 1, none⟩ = some (.int .i64 (p0 : Int)) ∧ w'.rangeAt pb (pof + p0 * 17) [a0, .int .i64 (KN : Int), .int .i64 MM, .int .i64 QQ, a4, a5, a6, a7, a8, a9, a10, a11, a12, a13, a14, a15, a16] from by
  have hb0' := HB1.out.trans (hb.mono HB1.out.size)
  obtain ⟨⟨-, -, -, -, -, x5, x6⟩, -⟩ := HC.out w' hb0'
  exact ⟨x5, x6, HVOL.out w' hb0', HPOL.out w' hb0'⟩))
 clear c0 c1 c2 c3 c4 c5 c6 hb1
 go_upto_region 3 with fail
 refine region_tail (S := (fun w' => w'.cell? ⟨z, 5, none⟩ = some (.slice (some ⟨pb, pof, none⟩) NP cp) ∧ w'.cell? ⟨z, 6, none⟩ = some (.slice (some ⟨ob, oof, none⟩) NO co) ∧ w'.cell? ⟨ob, oof + v * 2 + 1, none⟩ = some (.int .i64 (p0 : Int)) ∧ w'.rangeAt pb (pof + p0 * 17) [a0, .int .i64 (KN : Int), .int .i64 MM, .int .i64 QQ, a4, a5, a6, a7, a8, a9, a10, a11, a12, a13, a14, a15, a16])) [11] (by kernel_rfl) (HSK.out _ (Below.refl _ _).drew) (fun hHeld => ?_)
 refine tk 0 34 ?_
 refine tk 1 35 ?_
 refine tk 2 36 ?_
 refine tk 3 37 ?_
 refine tk 4 38 ?_
 refine tk 5 39 ?_
 refine tk 6 40 ?_
 refine tk 7 41 ?_
 refine tk 8 42 ?_
 refine takeT (i := 9) (d := 43) (v := (.agg #[a0, .int .i64 (KN : Int), .int .i64 MM, .int .i64 QQ, a4, a5, a6, a7, a8, a9, a10, a11, a12, a13, a14, a15, a16])) rfl rfl (by kernel_rfl) (by kernel_rfl) (by kernel_rfl) (by kernel_rfl) (fun _ _ _ h => h) (yieldsIf_load_mid (by rfl) 63 (.tmp 42) rfl pb (pof + p0 * 17) (by rfl) [a0, .int .i64 (KN : Int), .int .i64 MM, .int .i64 QQ, a4, a5, a6, a7, a8, a9, a10, a11, a12, a13, a14, a15, a16] _ (fun w hw => hw.2.2.2) Tryz.underlying63 rfl size_pol) (by assumption) ?_
 (try simp only [Act.put, List.setIfInBounds_toArray, List.set_cons_zero, List.set_cons_succ])
 refine readyT (rs := [10]) (by kernel_rfl) (by simp) ?_
 refine AllReadyT.cons rfl (fun K hK => ?_) ?_
 ·go_simp
  refine hK.out _ _ ?_ (fun hHeld => ?_)
  ·exact HSK.out _ ((Below.refl _ _).drew.alloc (Nat.le_refl _) _)
  clear hK K
  (try simp only [Act.put, List.setIfInBounds_toArray, List.set_cons_zero, List.set_cons_succ])
  refine readyT (rs := [11]) (by kernel_rfl) (by simp) ?_
  refine AllReadyT.consT rfl rfl (fun K hK => ?_) ?_
  ·rw [if_pos (by rfl)]
   refine wp_store_mid 63 (.tmp 12) (.tmp 43) rfl w1.heap.size 0 #[a0, .int .i64 (KN : Int), .int .i64 MM, .int .i64 QQ, a4, a5, a6, a7, a8, a9, a10, a11, a12, a13, a14, a15, a16] (by rfl) (by rfl) HTH.out size_pol HON.out ?_
   refine hK.out _ _ ?_
   clear hK K
   (try simp only [Act.put, List.setIfInBounds_toArray, List.set_cons_zero, List.set_cons_succ])
   refine doneT (by kernel_rfl) ?_ _
   clear hHeld
   obtain ⟨W6, hW6⟩ : ∃ x, x = World.setCells ((w1.alloc (.cells #[.string ⟨#[]⟩, .int .i64 0, .int .i64 0, .int .i64 0, .int .i64 0, .int .i64 0, .int .i64 0, .int .i64 0, .int .i64 0, .slice none 0 0, .slice none 0 0, .bool false, .slice none 0 0, .slice none 0 0, .bool false, .slice none 0 0, .slice none 0 0] 63)).drew) w1.heap.size 0 [a0, .int .i64 (KN : Int), .int .i64 MM, .int .i64 QQ, a4, a5, a6, a7, a8, a9, a10, a11, a12, a13, a14, a15, a16] := ⟨_, rfl⟩
   obtain ⟨gp, hgp⟩ : ∃ q, q = w1.heap.size := ⟨_, rfl⟩
   have hb6 : Below w1.heap.size w1 W6 := by rw [hW6]; exact below_setCellsV (Nat.le_refl _) _ _ _ ((Below.refl _ _).alloc (Nat.le_refl _) _).drew
   have hgr : W6.rangeAt gp 0 [a0, .int .i64 (KN : Int), .int .i64 MM, .int .i64 QQ, a4, a5, a6, a7, a8, a9, a10, a11, a12, a13, a14, a15, a16] := by rw [hW6, hgp]; exact World.rangeAt_setCells_same _ _ _ _ HTH.out
   have HGP := Lib.hid (fun (w' : World) (hb : Below W6.heap.size W6 w') => (show w'.cell? ⟨gp, 1, none⟩ = some (.int .i64 (KN : Int)) ∧ w'.cell? ⟨gp, 2, none⟩ = some (.int .i64 MM) from
    have hl := World.block_lt_of_cell? W6 _ (hgr 0 _ rfl)
    ⟨range_same hgr (hb.block gp hl) 1 _ rfl, range_same hgr (hb.block gp hl) 2 _ rfl⟩))
   have HB6 := Lib.hid (HB1.out.trans (hb6.mono HB1.out.size))
   have HW6 := Lib.hid hW6
   have HGG := Lib.hid hgp
   clear hW6 hgp hb6 hgr HTH HSK
   obtain ⟨-, ⟨y0, y1, y2, -⟩, -⟩ := HC.out W6 HB6.out
   go_upto_region 4 with fail
   rw [← HW6.out, ← HGG.out]
   have hre := HRE.out W6 (HB0.out.trans (HB6.out.mono HB0.out.size))
   go_wp2_with fail
   refine (HIX.out _ hre).mono ?_
   rintro e w2 ⟨bm, nm2, fm, rfl, hbb, hM, hG, hb2⟩
   have hlk := hM.look key_two Tryz.underlying97 (zero_fds w2) HI64.out.1 HI64.out.2
   have hown := hG.at_ (fun x hx => (HPL.out x hx).2) HI64.out.1 HI64.out.2
   obtain ⟨l, hl⟩ : ∃ l, l = stripeP (pieces r) (v : Int) (s : Int) := ⟨_, rfl⟩
   rw [← hl] at hown
   obtain ⟨LU, hLU⟩ : ∃ n, n = l.length := ⟨_, rfl⟩
   obtain ⟨Au, cu, hfm⟩ := own_form hown
   rw [hfm] at hown hlk
   rw [← hLU] at hown hlk
   unfold kv at hlk
   have HSL2 := Lib.hid (OwnFd.slBl (show OwnFd w2 (bm + 1) 116 (.slice Au LU cu) l from by rw [hLU]; rw [hLU] at hown; exact hown) (fun x hx => by rw [hl] at hx; exact HPD.out x (List.mem_filter.1 hx).1))
   have hfr : ∀ x ∈ l, 0 ≤ x.p.frag ∧ x.p.frag < 8 := fun x hx => by
    rw [hl] at hx
    have h1 := validP_iff.1 (HPL.out x (List.mem_filter.1 hx).1).1
    exact ⟨h1.2.2.1, h1.2.2.2.1⟩
   have HB2 := Lib.hid (HB6.out.trans (hb2.mono HB6.out.size))
   have HB62 := Lib.hid hb2
   have HRE2 := Lib.hid (HRE.out w2 (HB0.out.trans (HB2.out.mono HB0.out.size)))
   have HI1 := Lib.hid (intact_any vp0 vo0 va0 (.slice Au LU cu) r l (KM : Int) up w2 HRE2.out HSL2.out hfr (by have := HKM.out; unfold I64; omega))
   have HLL := Lib.hid hl
   have HL16 := Lib.hid (show ∀ x ∈ l, x.p.data.length = 16 from fun x hx => by rw [hl] at hx; exact (validP_iff.1 (HPL.out x (List.mem_filter.1 hx).1).1).2.2.2.2.2.2.2.2.2.2)
   have HLU := Lib.hid hLU
   clear hbb hM hG hb2 hown hfm hfr hl hLU y0 y1 y2 hre
   obtain ⟨-, ⟨y0, y1, y2, -⟩, b0⟩ := HC.out w2 HB2.out
   obtain ⟨p1, p2⟩ := HGP.out w2 HB62.out
   go_wp2_with fail
   clear hlk
   refine HI1.out.mono ?_
   rintro e w3 ⟨uf, rfl, hof, hb3⟩
   obtain ⟨FR, hFR⟩ : ∃ f, f = outTo r up l (KM : Int) 8 := ⟨_, rfl⟩
   rw [← hFR] at hof
   obtain ⟨NF, hNF⟩ : ∃ n, n = FR.length := ⟨_, rfl⟩
   obtain ⟨Af, cf, huf⟩ := hof.form
   rw [← hNF] at huf
   subst huf
   have HB3 := Lib.hid (HB2.out.trans (hb3.mono HB2.out.size))
   have HB63 := Lib.hid (HB62.out.trans (hb3.mono HB62.out.size))
   have HSL3 := Lib.hid (SlS.below fdK HSL2.out hb3)
   have HFI := Lib.hid (hof.intS (fun x hx => by rw [hFR] at hx; have := outTo_mem x hx; unfold I64; omega))
   have HFR := Lib.hid (show FR = frT r v s up KM from by rw [hFR, HLL.out]; rfl)
   have HNF := Lib.hid hNF
   have hnf8 : NF ≤ 8 := by rw [hNF, hFR]; exact outTo_length
   clear hof hb3 hFR hNF y0 y1 y2 b0 p1 p2 HI1
   obtain ⟨p1, p2⟩ := HGP.out w3 HB63.out
   by_cases hsh : NF < KN
   ·-- S{
    go_wp2_with fail
    go_ret2
    refine ⟨?_, HB0.out.trans (HB3.out.mono HB0.out.size)⟩
    have h1 : FR.length < KN := by rw [← HNF.out]; exact hsh
    unfold conS conE
    rw [← HFR.out, if_pos h1, if_pos h1]
    rfl
   ·-- T{
    have HSH := Lib.hid (show KN ≤ NF from by omega)
    have hcapn : KN ≤ cf := by
     obtain ⟨Ax, cx, hvx, hcx, -⟩ := HFI.out.form7
     injection hvx with hv1 hv2 hv3
     have h1 := HSH.out
     have h2 := HNF.out
     omega
    have hcap : (KN : Int) ≤ (cf : Int) := by omega
    obtain ⟨HV, hHV⟩ : ∃ l, l = hvT r v s up KN KM := ⟨_, rfl⟩
    have hhl : HV.length = KN := by
     rw [hHV]; unfold hvT
     rw [List.length_map, List.length_take, ← HFR.out, ← HNF.out]; have := HSH.out; omega
    have HHL := Lib.hid hhl
    have HD16 := Lib.hid (show ∀ h ∈ HV, h.data.length ≤ 65536 from fun h hh => by rw [hHV] at hh; exact Nat.le_trans (hvT_le r v s up KN KM (by rw [← HLL.out]; exact HL16.out) h hh) (by decide))
    have HROW := Lib.hid (show rowLen HV = 16 from by
     rw [hHV]; exact hvT_row r v s up KN KM (by rw [← HLL.out]; exact HL16.out) (by omega) (by rw [← HFR.out, ← HNF.out]; exact HSH.out))
    have HHV := Lib.hid (fun j (hj : j < KN) => (show HV[j]? = (FR[j]?).map (pickF r l up) from by
     rw [hHV]; unfold hvT
     rw [List.getElem?_map, List.getElem?_take, if_pos hj, ← HFR.out, ← HLL.out]))
    have HCS := Lib.hid (show (conS r v s up KN KM = if decE (KN : Int) MM HV = 0 then ((wordT KN KM (decD KN HV) (rowLen HV)).take KN).flatten else []) ∧ conE r v s up KN KM = decE (KN : Int) MM HV from by
     have h1 : ¬ (frT r v s up KM).length < KN := by rw [← HFR.out, ← HNF.out]; have := HSH.out; omega
     unfold conS conE
     rw [if_neg h1, if_neg h1, ← hHV, ← HMM.out]
     exact ⟨rfl, rfl⟩)
    obtain ⟨i0, hi0, hz0, hz1, hz2⟩ := info_parts info_frag
    have hmf : ∀ (fn : Fn) (first cap : Array Value) (w : World), (Instr.makeFunc fn first cap).run Tryz.prog w = .ok (.func fn first cap) w := fun _ _ _ _ => rfl
    clear hHV hhl
    go_wp2_with fail
    clear p1 p2
    go_loopg [15, 69] KN (fun z v15 v69 wr => ∃ j : Nat, j ≤ KN ∧ z = KN - j ∧ v69 = .int .i64 (j : Int) ∧ Hid (OwnFg wr w3.heap.size v15 (HV.take j)) ∧ Hid (Below w3.heap.size w3 wr))
    case atStart => exact ⟨0, by omega, rfl, rfl, OwnFg.nil _ _, Below.refl _ _⟩
    case round =>
     obtain ⟨j, hj, rfl, rfl, HO, HBR⟩ := hrel
     have HR0 := Lib.hid (HB3.out.trans (HBR.out.mono HB3.out.size))
     by_cases hlj : j < KN
     ·-- L1{
      have hjl : j < FR.length := by have := HSH.out; have := HNF.out; omega
      obtain ⟨b, off, hAf, hR, hc, hx64⟩ := HFI.out.at7 (k := j) hjl
      subst hAf
      have l0 := (HBR.out.cell (p := ⟨b, off + j, none⟩) hR.2).trans hc
      obtain ⟨x, hx⟩ : ∃ x, x = FR[j] := ⟨_, rfl⟩
      rw [← hx] at l0 hx64
      obtain ⟨t, ht, hidx, hfind⟩ := idxC_ok r up l (KM : Int) x (by
       have hm : x ∈ FR := by rw [hx]; exact List.getElem_mem hjl
       rw [HFR.out] at hm
       rw [HLL.out]
       exact hm)
      obtain ⟨W4, hW4⟩ : ∃ W, W = wr.alloc (.cells #[.int .i64 x] 3) := ⟨_, rfl⟩
      obtain ⟨gi, hgi⟩ : ∃ q, q = wr.heap.size := ⟨_, rfl⟩
      have hb4 : Below wr.heap.size wr W4 := by rw [hW4]; exact (Below.refl _ _).alloc (Nat.le_refl _) _
      have hgk : W4.heap[gi]? = some (.cells #[.int .i64 x] 3 (0, 0)) := by rw [hW4, hgi]; exact heap_alloc_new _ _
      have ki : W4.cell? ⟨gi, 0, none⟩ = some (.int .i64 x) := by rw [cell_of_row _ _ _ _ _ _ hgk]; rfl
      have h04 := HR0.out.trans (hb4.mono HR0.out.size)
      obtain ⟨-, ⟨y0, y1, y2, -⟩, b0⟩ := HC.out W4 h04
      have hsl4 := SlS.below fdK HSL3.out (HBR.out.trans (hb4.mono HBR.out.size))
      have HIF := Lib.hid (indexf_any (.slice Au LU cu) l x up gi gu y vp0 vo0 va0 r W4 hsl4 ki b0 y0 y1 y2 (HRE.out W4 (HB0.out.trans (h04.mono HB0.out.size))))
      rw [hidx] at HIF
      have hd16 : l[t].p.data.length = 16 := by
       exact HL16.out _ (List.getElem_mem ht)
      obtain ⟨lb, lo, csl, hAu, hlR, -, hcl, hfk, -⟩ := HSL3.out.at_ (k := t) ht
      subst hAu
      obtain ⟨-, -, -, -, -, -, q6⟩ := seven hcl hfk
      obtain ⟨px, hpx⟩ : ∃ px, px = l[t].p.data := ⟨_, rfl⟩
      rw [← hpx] at q6 hd16
      have HFD := Lib.hid (show l.find? (srcC r up x) = some l[t] ∧ px = l[t].p.data from ⟨hfind, hpx⟩)
      have HXJ := Lib.hid (show FR[j]? = some x from by rw [hx]; exact List.getElem?_eq_getElem hjl)
      obtain ⟨sy, hsy⟩ : ∃ y : ByteArray, y = ⟨px.toArray⟩ := ⟨_, rfl⟩
      rw [← hsy] at q6
      have HSY := Lib.hid hsy
      have HD16 := Lib.hid hd16
      have HTL := Lib.hid (show t < LU from by rw [HLU.out]; exact ht)
      have hti : (t : Int) < (LU : Int) := by have := HTL.out; omega
      have HK4 := Lib.hid (And.intro hgk (Array.getElem?_eq_some_iff.1 hgk).1)
      have HB4 := Lib.hid (HBR.out.trans (hb4.mono HBR.out.size))
      have HRW4 := Lib.hid hb4
      have HQ6 := Lib.hid (fun (w' : World) (hb : Below w3.heap.size w3 w') => (show w'.cell? ⟨lb, lo + t * 7 + 6, none⟩ = some (.string sy) from (hb.cell (p := ⟨lb, lo + t * 7 + 6, none⟩) hlR).trans q6))
      have HW4 := Lib.hid hW4
      have HGI := Lib.hid hgi
      have HX64 := Lib.hid hx64
      obtain ⟨n0, hn0⟩ : ∃ n, n = (HV.take j).length := ⟨_, rfl⟩
      have hn0j : n0 = j := by rw [hn0, List.length_take, HHL.out]; omega
      obtain ⟨A0, c0', hv0⟩ := HO.out.form
      rw [← hn0, hn0j] at hv0
      subst hv0
      have HTJ := Lib.hid (show (HV.take j).length = j from by rw [← hn0]; exact hn0j)
      have HL3 := Lib.hid (show lb < w3.heap.size from hlR)
      have HOB2 := Lib.hid (fun b (e : (Value.slice A0 j c0').ownBlock = some b) => (show w3.heap.size ≤ b from by obtain ⟨⟨cs, ho, -⟩, -⟩ := HO.out; exact (ho.lt b e).1))
      have HOB := Lib.hid (fun b (e : (Value.slice A0 j c0').ownBlock = some b) => (show b < wr.heap.size from by obtain ⟨⟨cs, ho, -⟩, -⟩ := HO.out; exact (ho.lt b e).2))
      clear hc hR hx hidx hfind hW4 hgi hb4 hgk h04 y0 y1 y2 b0 hsl4 hd16 hcl hfk q6 hpx hsy hlR hjl hn0 hn0j ki hx64
      go_upto_region 12 with fail
      rw [← HW4.out, ← HGI.out]
      clear l0
      go_wp2_with fail
      refine HIF.out.mono ?_
      rintro e w5 ⟨rfl, hb5⟩
      have HB5 := Lib.hid (HB4.out.trans (hb5.mono HB4.out.size))
      have HRW5 := Lib.hid (HRW4.out.trans (hb5.mono HRW4.out.size))
      have HK5 := Lib.hid (show w5.cell? ⟨gi, 0, none⟩ = some (.int .i64 x) ∧ gi < w5.heap.size from ⟨by rw [cell_of_row _ _ _ _ _ _ ((hb5.block gi HK4.out.2).trans HK4.out.1)]; rfl, Nat.lt_of_lt_of_le HK4.out.2 hb5.size⟩)
      have HLB := Lib.hid (World.block_lt_of_cell? w5 _ (HQ6.out w5 HB5.out))
      have HS13 := Lib.hid (show HeldX gi lb (lo + t * 7 + 6) (.int .i64 x) (.string sy) w5.drew from ⟨HK5.out.1, HQ6.out w5 HB5.out⟩)
      clear hb5
      go_upto_region 13 with fail
      refine region_tail (S := (fun w' => w'.cell? ⟨gi, 0, none⟩ = some (.int .i64 x) ∧ w'.cell? ⟨lb, lo + t * 7 + 6, none⟩ = some (.string sy))) [] (by kernel_rfl) HS13.out (fun hHeld => ?_)
      refine tk 0 76 ?_
      refine tk 1 77 ?_
      refine tk 2 78 ?_
      refine tk 3 79 ?_
      refine tk 4 80 ?_
      refine tk 5 81 ?_
      refine tk 6 82 ?_
      refine tk 7 83 ?_
      refine readyT (rs := [8]) (by kernel_rfl) (by simp) ?_
      refine AllReadyT.cons rfl (fun K hK => ?_) ?_
      ·go_simp
       obtain ⟨cap, w9, hcv, hb9, hs9, hby⟩ := conv_piece sy w5.drew (by rw [HSY.out]; show px.toArray.size ≤ maxLen; rw [List.size_toArray, HD16.out]; decide)
       rw [show w5.drew.heap.size = w5.heap.size from rfl] at hcv hb9 hs9 hby
       rw [hcv]
       simp only [Result.andThen]
       rw [Oper.upon_value]
       have hb9w := HB5.out.trans ((show Below w5.heap.size w5 w9 from ⟨hb9.os, hb9.tape, hb9.output, hb9.size, hb9.block⟩).mono HB5.out.size)
       have hO9 := HO.out.below ((HRW5.out.trans ((show Below w5.heap.size w5 w9 from ⟨hb9.os, hb9.tape, hb9.output, hb9.size, hb9.block⟩).mono HRW5.out.size)))
       obtain ⟨⟨cs, ho9, hc9⟩, hk9⟩ := hO9
       rw [HTJ.out] at ho9
       have HS9 := Lib.hid hs9
       have hkp8 : HeldX gi lb (lo + t * 7 + 6) (.int .i64 x) (.string sy) w9 := HeldX.same (HS13.out) (hb9.block gi HK5.out.2) (hb9.block lb HLB.out)
       clear hs9
       refine hK.out _ _ ?_ (fun hHeld => ?_)
       ·(first | assumption | exact hkp8 | exact hkp10 | exact hkp11)
       clear hK K
       (try simp only [Act.put, List.setIfInBounds_toArray, List.set_cons_zero, List.set_cons_succ])
       refine tk 9 85 ?_
       refine readyT (rs := [10]) (by kernel_rfl) (by simp) ?_
       refine AllReadyT.cons rfl (fun K hK => ?_) ?_
       ·go_simp
        have hkp10 : HeldX gi lb (lo + t * 7 + 6) (.int .i64 x) (.string sy) (w9.alloc (.cells #[.int .i64 x, .slice (some ⟨w5.heap.size, 0, none⟩) sy.size cap] 124)) := HeldX.same hkp8 (Below.heap_alloc w9 _ gi (Nat.lt_of_lt_of_le HK5.out.2 hb9.size)) (Below.heap_alloc w9 _ lb (Nat.lt_of_lt_of_le HLB.out hb9.size))
        refine hK.out _ _ ?_ (fun hHeld => ?_)
        ·(first | assumption | exact hkp8 | exact hkp10 | exact hkp11)
        clear hK K
        (try simp only [Act.put, List.setIfInBounds_toArray, List.set_cons_zero, List.set_cons_succ])
        refine readyT (rs := [11]) (by kernel_rfl) (by simp) ?_
        refine AllReadyT.cons rfl (fun K hK => ?_) ?_
        ·refine step_append_lies _ (by rfl) _ _ _ (by rfl) w3.heap.size 124 i0 _ 2 32 Tryz.underlying119 hi0 hz0 hz1 hz2 rfl (by decide) (.slice A0 j c0') j cs (by rfl) (World.ownsRow.alloc ho9 _) ⟨w9.heap.size, 0, none⟩ 1 1 [.int .i64 x, .slice (some ⟨w5.heap.size, 0, none⟩) sy.size cap] (by rfl) (by rfl) (World.news_of_block (cs := #[.int .i64 x, .slice (some ⟨w5.heap.size, 0, none⟩) sy.size cap]) (t := 124) (fr := (0, 0)) (heap_alloc_new w9 _)) (by simp [Value.oneCell']) (by omega) (by unfold maxLen; omega) (by omega) (Nat.le_trans hb9w.size (by simp)) (w9.heap.size + 1) (by simp) ?_
         intro gg cap2 wA hown5 hg5 hat5 hlt5
         have hkp11 : HeldX gi lb (lo + t * 7 + 6) (.int .i64 x) (.string sy) wA := HeldX.same hkp10 (hg5.block gi (Nat.lt_of_lt_of_le HK5.out.2 (Nat.le_trans hb9.size (by simp))) (fun e => by have h1 := HOB.out gi e.symm; have h2 := HGI.out; omega)) (hg5.block lb (Nat.lt_of_lt_of_le HLB.out (Nat.le_trans hb9.size (by simp))) (fun e => by have h1 := HOB2.out lb e.symm; have h2 := HL3.out; omega))
         refine hK.out _ _ ?_ (fun hHeld => ?_)
         ·(first | assumption | exact hkp8 | exact hkp10 | exact hkp11)
         clear hK K
         (try simp only [Act.put, List.setIfInBounds_toArray, List.set_cons_zero, List.set_cons_succ])
         refine tk 12 15 ?_
         refine doneT (by kernel_rfl) ?_ _
         have HHB := Lib.hid (And.intro hb9w (And.intro HS9.out hby))
         have HCC := Lib.hid (And.intro ho9 (And.intro hc9 hk9))
         have HAA := Lib.hid (And.intro hown5 (And.intro hg5 hat5))
         clear hHeld hb9 hcv hb9w hby ho9 hc9 hk9 hown5 hg5 hat5 hlt5
         go_wp2_with fail
         go_roundg (KN - (j + 1))
         case measure => omega
         case rel =>
          obtain ⟨hb9w, hs9, hby⟩ := HHB.out
          obtain ⟨ho9, hc9, hk9⟩ := HCC.out
          obtain ⟨hown5, hg5, hat5⟩ := HAA.out
          have hg9 : w9.grownBy wA (Value.slice A0 j c0').ownBlock := ⟨hg5.os, hg5.tape, hg5.output, Nat.le_trans (by simp) hg5.size, fun b hb hn => (hg5.block b (by simp; omega) hn).trans (Below.heap_alloc w9 _ b hb)⟩
          refine ⟨j + 1, by omega, rfl, by go_num, ?_, hb9w.grown hg9 hb9w.size (fun b e => (ho9.lt b e).1)⟩
          have hhj : HV[j]? = some ⟨x, px⟩ := by
           rw [HHV.out j hlj, HXJ.out]
           unfold pickF
           rw [Option.map_some, HFD.out.1, HFD.out.2]; rfl
          rw [take_more hhj]
          have hlt13 := ho9.lt
          refine OwnFg.push (h := ⟨x, px⟩) hk9 hc9 (by rw [HTJ.out]; exact ho9) HX64.out ?_ (by rw [HTJ.out]; exact hown5) hg9 ?_
          ·have hy : sy.data.toList = px := by rw [HSY.out]
           rw [hy] at hby
           refine hby.mono (fun b hb => ⟨by rw [hs9]; exact hb.2, fun e => ?_⟩)
           have h1 := HOB.out b e
           have h2 := HRW5.out.size
           have h3 := hb.1
           omega
          ·rcases hat5 with e | e
           ·exact .inl e.symm
           ·exact .inr (by rw [e]; rfl)
        exact AllReadyT.nil
       exact AllReadyT.nil
      exact AllReadyT.nil
     ·-- R1{
      obtain rfl : KN = j := by omega
      obtain ⟨p1, p2⟩ := HGP.out wr (HB63.out.trans (HBR.out.mono HB63.out.size))
      have hfrag := HO.out.fragS
      rw [List.take_of_length_le (by rw [HHL.out]; exact Nat.le_refl _)] at hfrag
      obtain ⟨DE, hDE⟩ : ∃ x, x = decE (KN : Int) MM HV := ⟨_, rfl⟩
      obtain ⟨RT, hRT⟩ : ∃ x, x = (wordT KN KM (decD KN HV) (rowLen HV)).take KN := ⟨_, rfl⟩
      have HDC := Lib.hid (fun vh (hh : FragS wr (Bl wr.heap.size) vh HV) => (show Calls Tryz.prog 56 #[.int .i64 (KN : Int), .int .i64 MM, vh] wr (fun e w' => ∃ v, e = .returned (.tuple #[v, .int .i64 DE]) ∧ (DE = 0 → MatS w' (Bl w'.heap.size) v RT) ∧ (DE ≠ 0 → v = .slice none 0 0) ∧ Below wr.heap.size wr w') from by
       have hd := decode_any (KN : Int) MM vh HV wr (by unfold I64; omega) (by have := HKM.out; unfold I64; omega) hh (by rw [HHL.out]; omega) HD16.out
       rw [← hDE, show ((KN : Int)).toNat = KN from by omega, show ((KN : Int) + MM).toNat = KM from by rw [hkm]; omega, ← hRT] at hd
       exact hd))
      have HFG := Lib.hid hfrag
      have HRT := Lib.hid (show RT.length = KN ∧ (∀ x ∈ RT, x.length = 16) from by
       rw [hRT]
       refine ⟨by rw [List.length_take, wordT_length]; have := HKM.out; omega, fun x hx => ?_⟩
       have h1 := wordT_wide KN KM (decD KN HV) (rowLen HV) x (List.mem_of_mem_take hx)
       rw [h1]; exact HROW.out)
      have HCS2 := Lib.hid (show (conS r v s up KN KM = if DE = 0 then RT.flatten else []) ∧ conE r v s up KN KM = DE from by rw [hDE, hRT]; exact HCS.out)
      clear hfrag hDE hRT
      go_wp2_with fail
      refine (HDC.out _ HFG.out).mono ?_
      rintro e w5 ⟨vr, rfl, hmat, hnil, hb5⟩
      have HB5 := Lib.hid (HB3.out.trans ((HBR.out.trans (hb5.mono HBR.out.size)).mono HB3.out.size))
      clear p1 p2
      by_cases hde : DE = 0
      ·-- D{
       have HMT := Lib.hid (hmat hde)
       obtain ⟨Av, cv', hvr, -, -⟩ := (hmat hde).form
       rw [HRT.out.1] at hvr
       subst hvr
       have HDE := Lib.hid hde
       subst hde
       clear hmat hnil hb5
       obtain ⟨W7, hW7⟩ : ∃ W, W = w5.alloc (.cells #[.pointer none, .slice none 0 0] 128) := ⟨_, rfl⟩
       obtain ⟨gb, hgb⟩ : ∃ q, q = w5.heap.size := ⟨_, rfl⟩
       have hb7 : Below w5.heap.size w5 W7 := by rw [hW7]; exact (Below.refl _ _).alloc (Nat.le_refl _) _
       have hgk : W7.heap[gb]? = some (.cells #[.pointer none, .slice none 0 0] 128 (0, 0)) := by rw [hW7, hgb]; exact heap_alloc_new _ _
       have HBL := Lib.hid (show Lib.IsBuilder 128 5 gb gb (bys []) W7 from .inl ⟨Nat.le_refl _, _, hgk, World.ownsRow_nil _ _ _ _, by intro e; cases e⟩)
       have HW7 := Lib.hid hW7
       have HGB := Lib.hid hgb
       have HB7 := Lib.hid hb7
       clear hW7 hgb hb7 hgk
       go_upto_region 19 with fail
       rw [← HW7.out, ← HGB.out]
       go_wp2_with fail
       go_loopg [103] KN (fun z v103 wr => ∃ j : Nat, j ≤ KN ∧ z = KN - j ∧ v103 = .int .i64 (j : Int) ∧ Hid (Lib.IsBuilder 128 5 gb gb (bys (RT.take j).flatten) wr) ∧ Hid (Below w5.heap.size w5 wr))
       case atStart => exact ⟨0, by omega, rfl, rfl, HBL.out, HB7.out⟩
       case round =>
        obtain ⟨j, hj, rfl, rfl, HIB, HBW⟩ := hrel
        by_cases hlj : j < KN
        ·-- L2{
         have hjl : j < RT.length := by rw [HRT.out.1]; exact hlj
         obtain ⟨b2, off2, va, hAv, hR2, hc2, hva⟩ := HMT.out.at_ (k := j) hjl
         subst hAv
         have l0 := (HBW.out.cell (p := ⟨b2, off2 + j, none⟩) hR2).trans hc2
         obtain ⟨row, hrow⟩ : ∃ x, x = RT[j] := ⟨_, rfl⟩
         rw [← hrow] at hva
         have hr16 : row.length = 16 := by rw [hrow]; exact HRT.out.2 _ (List.getElem_mem hjl)
         obtain ⟨A', c', e', h1', h2', h3'⟩ := hva
         obtain ⟨b3, off3, e3, hR3, hc3⟩ := h3' (by omega)
         rw [hr16] at e' h1'
         subst e3
         subst e'
         have htk : (RT.take (j + 1)).flatten = (RT.take j).flatten ++ row := by
          rw [List.take_succ_eq_append_getElem hjl, List.flatten_append, ← hrow]; simp
         have HTK := Lib.hid htk
         have hfl : (RT.take j).flatten.length = j * 16 := by
          have h := wide_sum (RT.take j) 16 (fun x hx => HRT.out.2 x (List.mem_of_mem_take hx))
          rw [List.length_flatten, h, List.length_take, HRT.out.1]; congr 1; omega
         have hbl : (bys (RT.take j).flatten).length = j * 16 := by unfold bys; rw [List.length_map, hfl]
         have HWR := Lib.hid (bwrite_any gb gb (bys (RT.take j).flatten) ⟨b3, off3, none⟩ 16 c' (bys row) wr HIB.out (by simp [bys, hr16]) (fun t u hu => by
          rw [Addr.add_mid]
          have ht : ∃ x, row[t]? = some x ∧ u = .int .u8 (x.toNat : Int) := by
           unfold bys at hu
           rw [List.getElem?_map] at hu
           obtain ⟨x, hx, e⟩ := Option.map_eq_some_iff.1 hu
           exact ⟨x, hx, e.symm⟩
          obtain ⟨x, hx, rfl⟩ := ht
          exact (HBW.out.cell (p := ⟨b3, off3 + t, none⟩) hR3).trans (hc3 t x hx)) (by rw [HGB.out]; exact hR3) (fun u hu => by unfold bys at hu; obtain ⟨x, -, rfl⟩ := List.mem_map.1 hu; rfl) (by rw [hbl]; omega) (by rw [HGB.out]; exact HBW.out.size))
         clear hR2 hc2 hrow hr16 h1' h2' h3' hR3 hc3 htk hfl hbl hjl
         go_wp2_with fail
         refine HWR.out.mono ?_
         rintro e w9 ⟨rfl, hbl9, hb9⟩
         have HBL9 := Lib.hid hbl9
         have HB9 := Lib.hid (show Below w5.heap.size w5 w9 from HBW.out.trans (by have h := hb9; rw [HGB.out] at h; exact h))
         clear hbl9 hb9 l0
         go_wp2_with fail
         go_roundg (KN - (j + 1))
         case measure => omega
         case rel => exact ⟨j + 1, by omega, rfl, by go_num, by rw [HTK.out, bys_append]; exact .inr HBL9.out, HB9.out⟩
        ·obtain rfl : KN = j := by omega
         have hib := HIB.out
         rw [List.take_of_length_le (by rw [HRT.out.1]; exact Nat.le_refl _)] at hib
         have HST := Lib.hid (bstring_any gb gb RT.flatten wr hib (by rw [HGB.out]; exact HBW.out.size))
         clear hib
         go_wp2_with fail
         refine HST.out.mono ?_
         rintro e w9 ⟨rfl, hb9⟩
         have HB9 := Lib.hid (show Below w5.heap.size w5 w9 from HBW.out.trans (by have h := hb9; rw [HGB.out] at h; exact h))
         clear hb9
         go_wp2_with fail
         go_ret2
         refine ⟨?_, HB0.out.trans ((HB5.out.trans (HB9.out.mono HB5.out.size)).mono HB0.out.size)⟩
         first | (rw [HCS2.out.1, HCS2.out.2, if_pos rfl]; rfl) | (rw [HCS2.out.1, HCS2.out.2]; rfl)
      ·-- E{
       have HDE := Lib.hid hde
       clear hmat hnil hb5
       go_wp2_with fail
       go_ret2
       refine ⟨?_, HB0.out.trans (HB5.out.mono HB0.out.size)⟩
       first | (rw [HCS2.out.1, HCS2.out.2, if_neg HDE.out]; rfl) | (rw [HCS2.out.1, HCS2.out.2]; rfl)
  exact AllReadyT.nil
 exact AllReadyT.nil
end Go.Proofs.YtmehadfhcdpfcaaGreat
