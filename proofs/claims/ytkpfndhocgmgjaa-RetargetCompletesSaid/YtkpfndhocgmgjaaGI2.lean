/- The reference's Invert, walked. -/
import Derived.Test.YtkpfndhocgmgjaaGRO
namespace Go.Proofs.Ytkpfndhocgmgjaa
open Go.RowKit
set_option linter.unusedVariables false
set_option linter.unusedSimpArgs false
theorem unit_take (n i d : Nat) (hd : d < n) : bys ((unitR n i).take d) ++ [Value.int .u8 (if i = d then 1 else 0)] = bys ((unitR n i).take (d + 1)) := by
  have hl : d < (unitR n i).length := by rw [unitR_length]; exact hd
  rw [List.take_succ_eq_append_getElem hl, bys_append]
  congr 1
  have e : (unitR n i)[d] = if d = i then 1 else 0 := by simp [unitR]
  rw [e]
  by_cases h : i = d
  · subst h; simp [bys]
  · rw [if_neg h, if_neg (fun e => h e.symm)]; rfl
theorem aug_take2 (A : Mat) (i : Nat) (hi : i < A.length) (row : List UInt8) (hr : row = A[i]) : (augT A).take i ++ [row ++ unitR A.length i] = (augT A).take (i + 1) := aug_take A _ i hi rfl row hr

set_option maxRecDepth 100000 in
set_option maxHeartbeats 6400000 in
theorem refinvert_any (va : Value) (A : Mat) (w : World) (ha : MatS w (Bl w.heap.size) va A) (h0 : 0 < A.length) (h32 : A.length ≤ 32) (hw : Wide A A.length) (hI : Inj A) :
    Calls Try.prog 25 #[va] w fun e w' => ∃ v, e = .returned (.tuple #[v, .int .i64 0]) ∧ MatS w' (Bl w'.heap.size) v (invT A) ∧ Below w.heap.size w w' := by
  obtain ⟨Aa, ca, rfl, hca, -⟩ := ha.form
  obtain ⟨n, hn⟩ : ∃ n, n = A.length := ⟨_, rfl⟩
  rw [← hn] at h0 h32 hw hca ⊢
  have HN := Lib.hid hn
  have HI := Lib.hid hI
  have HA := Lib.hid ha
  rw [← hn] at HA
  obtain ⟨ba, oa, va0, rfl, -, -, -⟩ := ha.at_ (k := 0) (by omega)
  obtain ⟨m, hm⟩ : ∃ m, m = n + n := ⟨_, rfl⟩
  have e2 : 2 * (n : Int) = (m : Int) := by omega
  have hm1 : m ≤ n + n := by omega
  have hm2 : n + n ≤ m := by omega
  have HM := Lib.hid hm
  have e0 : ¬ (n : Int) < 1 := by omega
  clear hn hI ha hm
  go_enter Try.func25, Try.ntmps25
  go_wp2
  go_loopg [5, 6] n (fun z v5 v6 wr => ∃ (c : Nat) (qs cs : List Nat) (xs : List Value), c ≤ n ∧ z = n - c ∧ v6 = .int .i64 (c : Int) ∧ Hid (∃ t, t = (augT A).take c ∧ RowsO wr w.heap.size qs cs t m) ∧ wr.ownsRow w.heap.size 25 1 v5 c xs ∧ Hid (∀ i, i < c → xs.getD i undef = rowC (qs.getD i 0) m (cs.getD i 0)) ∧ Below w.heap.size w wr)
  case atStart => exact ⟨0, [], [], [], by omega, rfl, rfl, ⟨[], by simp, RowsO.nil _ _ _⟩, World.ownsRow_nil _ _ _ _, (fun i hi => by omega), Below.refl _ _⟩
  case round =>
    obtain ⟨c, qs, cs, xs, hc, rfl, rfl, HR, hown, HX, hb⟩ := hrel
    obtain ⟨A5, c5, rfl⟩ := own_form hown
    by_cases hlt : c < n
    · obtain ⟨t, ht, hR⟩ := HR.out
      have htl : t.length = c := by rw [ht, List.length_take, aug_length, ← HN.out]; omega
      have HT := Lib.hid ht
      have HTL := Lib.hid htl
      have HRO := Lib.hid hR
      clear ht HR htl hR
      obtain ⟨b1, o1, vr, hA1, hR1, c1, hvr⟩ := HA.out.at_ (k := c) (by rw [← HN.out]; exact hlt)
      obtain ⟨rfl, rfl⟩ : ba = b1 ∧ oa = o1 := by injection hA1 with h; injection h with h1 h2; exact ⟨h1, h2⟩
      have hrl : A[c].length = n := hw _ (List.getElem_mem _)
      obtain ⟨row, hrow⟩ : ∃ row, row = A[c]'(by rw [← HN.out]; exact hlt) := ⟨_, rfl⟩
      rw [← hrow] at hvr hrl
      obtain ⟨Ar, cr, rfl, -, -⟩ := hvr.form
      rw [hrl] at c1 hvr
      obtain ⟨br, orr, rfl, hRr, hcells⟩ := hvr.all (by rw [hrl]; exact h0)
      have c1w := (hb.cell (p := ⟨ba, oa + c, none⟩) hR1).trans c1
      have hcw : ∀ k (h : k < row.length), wr.cell? ⟨br, orr + k, none⟩ = some (.int .u8 (row[k].toNat : Int)) := fun k h => (hb.cell (p := ⟨br, orr + k, none⟩) hRr).trans (hcells k h)
      have HCW := Lib.hid hcw
      have HROW := Lib.hid hrow
      have HRL := Lib.hid hrl
      have hr6 : row.length ≤ 65536 := by omega
      obtain ⟨wo, rfl⟩ : ∃ wo : World, wo = wr := ⟨_, rfl⟩
      clear hrow hrl hA1 c1 hvr hcells hcw
      go_wp2_with (at_builtin; refine app_copyO (.const (.slice none 0 0)) (.tmp 42) (by rfl) (by rfl) row br orr n cr (by rfl) (by rfl) HRL.out HCW.out hr6 ?_; intro v7 w7 hown7 hb7)
      have hszo := hb.size
      go_loopg [7, 8] n (fun z v7 v8 wr => ∃ d : Nat, d ≤ n ∧ z = n - d ∧ v8 = .int .i64 (d : Int) ∧ wr.ownsRow wo.heap.size 5 1 v7 (n + d) (bys (row ++ (unitR n c).take d)) ∧ Below wo.heap.size wo wr)
      case atStart => exact ⟨0, by omega, rfl, rfl, by rw [List.take_zero, List.append_nil]; exact hown7, hb7⟩
      case round =>
        clear hown7 hb7 c1w
        obtain ⟨d, hd, rfl, rfl, hownr, hbr⟩ := hrel
        have hszr := hbr.size
        by_cases hdn : d < n
        · have hut := unit_take n c d hdn
          by_cases hcd : c = d
          · have hce : ((c : Int) == (d : Int)) = true := by simp [hcd]
            rw [if_pos hcd] at hut
            have HUT := Lib.hid hut
            clear hcd hut
            go_wp2_with (at_builtin; refine app_u8 (.tmp 52) (.tmp 53) rfl rfl _ _ _ _ (by rfl) hownr (by rfl) rfl (by omega) hszr ?_; intro v' w1 hown' hg hat)
            go_roundg (n - (d + 1))
            case measure => omega
            case rel => exact ⟨d + 1, by omega, rfl, by go_num, by rw [bys_append, List.append_assoc, HUT.out, ← bys_append] at hown'; exact hown', hbr.grown hg hszr (fun b h => (hownr.lt b h).1)⟩
          · have hce : ((c : Int) == (d : Int)) = false := by simp; omega
            rw [if_neg hcd] at hut
            have HUT := Lib.hid hut
            clear hcd hut
            go_wp2_with (at_builtin; refine app_u8 (.tmp 55) (.tmp 56) rfl rfl _ _ _ _ (by rfl) hownr (by rfl) rfl (by omega) hszr ?_; intro v' w1 hown' hg hat)
            go_roundg (n - (d + 1))
            case measure => omega
            case rel => exact ⟨d + 1, by omega, rfl, by go_num, by rw [bys_append, List.append_assoc, HUT.out, ← bys_append] at hown'; exact hown', hbr.grown hg hszr (fun b h => (hownr.lt b h).1)⟩
        · have hdI : d = n := by omega
          rw [hdI, ← HM.out, List.take_of_length_le (by rw [unitR_length]; exact Nat.le_refl _)] at hownr
          have HDI := Lib.hid hdI
          clear hdI
          have hq : ∃ q cap, u7 = rowC q m cap := by
            rcases hownr.2 with ⟨-, h1⟩ | ⟨q, cap, cur, h1, -⟩
            · omega
            · exact ⟨q, cap, h1⟩
          obtain ⟨q, cap, hu7⟩ := hq
          have hu8 : u7 = .slice (some ⟨q, 0, none⟩) m cap := hu7
          clear hu7
          subst hu8
          have hown5 := own_below hown hbr
          have hR5 := HRO.out.below hbr
          have hlq := own_lt (q := q) (n := m) (c := cap) hownr
          have hR6 := hR5.push (own_base hownr hszo) (by rw [List.length_append, unitR_length, HRL.out, HM.out]) (fun i hi => Nat.lt_of_lt_of_le (own_lt (HRO.out.own i hi)).2 hlq.1)
          rw [HT.out, HN.out, aug_take2 A c (by rw [← HN.out]; exact hlt) row HROW.out] at hR6
          have hxl : xs.length = c := by have := hown.1; omega
          have hql : qs.length = c := by rw [HRO.out.len, HTL.out]
          have hcl : cs.length = c := by rw [HRO.out.lenc, HTL.out]
          have hX6 : ∀ i, i < c + 1 → (xs ++ [rowC q m cap]).getD i undef = rowC ((qs ++ [q]).getD i 0) m ((cs ++ [cap]).getD i 0) := by
            intro i hi
            by_cases h1 : i < c
            · rw [getD_append_lt _ _ _ (by omega), getD_append_lt _ _ _ (by omega), getD_append_lt _ _ _ (by omega)]; exact HX.out i h1
            · have h2 : i = c := by omega
              rw [h2, getD_last _ _ _ _ hxl, getD_last _ _ _ _ hql, getD_last _ _ _ _ hcl]
          have hone : (Value.slice (some ⟨q, 0, none⟩) m cap).oneCell' = true := rfl
          have HR6 := Lib.hid hR6
          have HX6 := Lib.hid hX6
          have hszw : w.heap.size ≤ wr.heap.size := Nat.le_trans hszo hszr
          clear hR5 hR6 hX6 hxl hql hcl hownr hlq
          go_wp2_with (at_builtin; refine app_row (.tmp 58) (.tmp 60) rfl rfl _ _ _ _ (by rfl) hown5 (by rfl) hone (by omega) hszw ?_; intro v' w1 hown' hg hat)
          have hR8 : RowsO w1 w.heap.size (qs ++ [q]) (cs ++ [cap]) ((augT A).take (c + 1)) m := HR6.out.kept hg (fun i hi e => own_apart (HR6.out.own i hi) hown5 (by decide) (g := (qs ++ [q]).getD i 0) (g' := (qs ++ [q]).getD i 0) rfl e rfl)
          go_roundg (n - (c + 1))
          case measure => omega
          case rel => exact ⟨c + 1, _, _, _, by omega, rfl, by go_num, ⟨_, rfl, hR8⟩, hown', HX6.out, (hb.trans (hbr.mono hszo)).grown hg hszw (fun b h => (hown5.lt b h).1)⟩
    · obtain rfl : n = c := by omega
      obtain ⟨t, ht, hR⟩ := HR.out
      have hta : t = augT A := by rw [ht, HN.out, ← aug_length A, List.take_length]
      have htl : t.length = n := by rw [hta, aug_length, ← HN.out]
      obtain ⟨g, hA5⟩ : ∃ g, A5 = some ⟨g, 0, none⟩ := by
        rcases hown.2 with ⟨-, h1⟩ | ⟨g, cap, cur, h1, -⟩
        · omega
        · injection h1 with h1; exact ⟨g, h1⟩
      subst hA5
      have hcap5 : n ≤ c5 := own_cap (q := g) hown
      have hMa : MatX wr w.heap.size g qs cs (gaussN (augT A) 0) m := by rw [← show t = gaussN (augT A) 0 from hta]; exact hR.matX (g := g) (cap := c5) hown htl.symm HX.out
      have hgw := hMa.bg
      clear hta ht hR htl hown HX HR
      obtain ⟨i, hi⟩ : ∃ i, i = n := ⟨_, rfl⟩
      subst hi
      go_wp2
      go_loopg [9] i (fun z v9 wx => ∃ (k : Nat) (ps es : List Nat), k ≤ i ∧ z = i - k ∧ v9 = .int .i64 (k : Int) ∧ MatX wx w.heap.size g ps es (gaussN (augT A) k) m ∧ Below w.heap.size w wx)
      case atStart => exact ⟨0, qs, cs, by omega, rfl, rfl, hMa, hb⟩
      case round =>
        clear hMa hb qs cs t xs
        obtain ⟨k, ps, es, hk, rfl, rfl, hM, hb⟩ := hrel
        have hgl : (gaussN (augT A) k).length = i := by rw [gaussN_length, aug_length, ← HN.out]
        by_cases hlt : k < i
        · -- R3{
          have hgi := gauss_inv A (by rw [← HN.out]; exact hw) HI.out k (by rw [← HN.out]; exact hk)
          rw [← HN.out] at hgi
          obtain ⟨-, hpv⟩ := hgi
          have hpv := hpv hlt
          have hps := piv_spec (gaussN (augT A) k) k (by omega)
          have hstep : gaussN (augT A) (k + 1) = gstep (gaussN (augT A) k) k := rfl
          have HSTEP := Lib.hid hstep
          generalize gaussN (augT A) k = t at *
          obtain ⟨p1, -, p3, p4⟩ := hps
          have p4 := p4 (by omega)
          obtain ⟨p, hp⟩ : ∃ p, p = piv t k := ⟨_, rfl⟩
          rw [← hp] at hpv p1 p3 p4
          have HPV := Lib.hid hp
          have P3 := Lib.hid p3
          have P4 := Lib.hid p4
          have HGL := Lib.hid hgl
          have hc0 := fun (a : Nat) (ha : a < i) => hM.cellO (i := a) (by omega)
          have hc1 := fun (a : Nat) (ha : a < i) => hM.cellI (i := a) (j := k) (by omega) (by omega)
          have HC0 := Lib.hid hc0
          have HC1 := Lib.hid hc1
          clear hp p3 p4 hgl hstep hc0 hc1
          go_wp2_with fail
          obtain ⟨wo, rfl⟩ : ∃ wo : World, wo = wr := ⟨_, rfl⟩
          go_loopg [10] (i - k) (fun z v10 wy => ∃ a : Nat, k ≤ a ∧ a ≤ p ∧ z = i - a ∧ v10 = .int .i64 (a : Int) ∧ wo = wy)
          case atStart => exact ⟨k, by omega, p1, rfl, rfl, rfl⟩
          case round =>
            obtain ⟨a, ha1, ha2, rfl, rfl, rfl⟩ := hrel
            have c0 := HC0.out a (by omega)
            have c1 := HC1.out a (by omega)
            generalize ps.getD a 0 = q at c0 c1
            generalize es.getD a 0 = ea0 at c0
            by_cases hap : a < p
            · have hz := P3.out a ha1 hap
              have h00 : ((UInt8.toNat 0 : Nat) : Int) = 0 := rfl
              rw [hz, h00] at c1
              clear hz h00
              go_wp2
              go_roundg (i - (a + 1))
              case measure => omega
              case rel => exact ⟨a + 1, by omega, by omega, rfl, by go_num, rfl⟩
            · obtain rfl : a = p := by omega
              have hne : (((en t a k).toNat : Int) == 0) = false := by
                rw [beq_eq_false_iff_ne]; intro e; apply P4.out; apply UInt8.toNat_inj.1; rw [show (0 : UInt8).toNat = 0 from rfl]; omega
              have hai : ((a : Int) == (i : Int)) = false := by simp; omega
              go_upto_region 26 with fail
              have d0 := hM.cellO (i := a) (by rw [HGL.out]; omega)
              have d1 := hM.cellO (i := k) (by rw [HGL.out]; omega)
              have fa := hM.freeO (i := a) (by rw [HGL.out]; omega)
              have fk := hM.freeO (i := k) (by rw [HGL.out]; omega)
              have i1 : (0 : Int) ≤ (a : Int) := by omega
              have i2 : (a : Int) < (i : Int) := by omega
              have i3 : (0 : Int) ≤ (k : Int) := by omega
              have i4 : (k : Int) < (i : Int) := by omega
              have hsw := hM.swap (a := a) (k := k) (by rw [HGL.out]; omega) (by rw [HGL.out]; omega)
              have hak2 : swapL t a a = t → True := fun _ => trivial
              clear c0 c1
              obtain ⟨qa, hqa⟩ : ∃ qa, qa = ps.getD a 0 := ⟨_, rfl⟩
              obtain ⟨qk, hqk⟩ : ∃ qk, qk = ps.getD k 0 := ⟨_, rfl⟩
              obtain ⟨ea, hea⟩ : ∃ ea, ea = es.getD a 0 := ⟨_, rfl⟩
              obtain ⟨ek, hek⟩ : ∃ ek, ek = es.getD k 0 := ⟨_, rfl⟩
              rw [← hqa, ← hqk, ← hea, ← hek] at hsw
              rw [← hqa, ← hea] at d0
              rw [← hqk, ← hek] at d1
              have HEA := Lib.hid hea
              have HEK := Lib.hid hek
              clear hea hek
              have HSW := Lib.hid hsw
              have HQA := Lib.hid hqa
              have HQK := Lib.hid hqk
              have HM0 := Lib.hid hM
              clear hsw hqa hqk hak2 hM
              go_cut [9, 10] from 86 to 99 (fun v8 v9 wc => v8 = .int .i64 (k : Int) ∧ v9 = .int .i64 (a : Int) ∧ MatX wc w.heap.size g (swapQ ps a k) (swapQ es a k) (swapL t a k) m ∧ Below w.heap.size w wc)
              case first =>
                -- R1{
                by_cases hak : a = k
                · have hqq : qa = qk := by rw [HQA.out, HQK.out, hak]
                  have hee : ea = ek := by rw [HEA.out, HEK.out, hak]
                  subst hak
                  subst hqq
                  subst hee
                  clear d1 fk i3 i4
                  go_region
                  all_goals
                    go_wp2_with fail
                    go_meet
                    exact ⟨rfl, rfl, HSW.out.drewN 1, ((hb.setCell hgw _).setCell hgw _).drew⟩
                · have hak1 : ¬ k = a := fun e => hak e.symm
                  go_region
                  all_goals
                    go_wp2_with fail
                    go_meet
                    exact ⟨rfl, rfl, HSW.out.drewN 1, ((hb.setCell hgw _).setCell hgw _).drew⟩
                -- }R1
              case rest =>
                clear HSW HM0 d0 d1 fa fk hb
                obtain ⟨rfl, rfl, hM, hb⟩ := hcut
                have hsl : (swapL t a k).length = i := by rw [swapL_length, HGL.out]
                obtain ⟨s, hs⟩ : ∃ s, s = swapL t a k := ⟨_, rfl⟩
                rw [← hs] at hM hsl
                have HS := Lib.hid hs
                have HSL := Lib.hid hsl
                generalize swapQ ps a k = rs at *
                generalize swapQ es a k = fs at *
                have hki : k < s.length := by omega
                have hrl := hM.rowlen hki
                have HRL := Lib.hid hrl
                clear hs
                have c0 := hM.cellO hki
                have c1 := hM.cellI (j := k) hki (by omega)
                obtain ⟨q, hq⟩ : ∃ q, q = rs.getD k 0 := ⟨_, rfl⟩
                rw [← hq] at c0 c1
                generalize fs.getD k 0 = cq0 at c0
                have HQ := Lib.hid hq
                obtain ⟨x, hx⟩ : ∃ x, x = en s k k := ⟨_, rfl⟩
                rw [← hx] at c1
                have HX := Lib.hid hx
                clear hq hx hsl hki hrl
                go_wp2_with fail
                refine (refinv_any x _).mono ?_
                rintro e w' ⟨rfl, rfl⟩
                obtain ⟨f, hf⟩ : ∃ f, f = ginv x := ⟨_, rfl⟩
                rw [← hf]
                have HF := Lib.hid hf
                clear hf
                go_wp2_with fail
                go_loopg [13] m (fun z v13 wr => ∃ j : Nat, j ≤ m ∧ z = m - j ∧ v13 = .int .i64 (j : Int) ∧ MatX wr w.heap.size g rs fs (s.set k ((s.getD k []).mapIdx fun i x => if i < j then gmul x f else x)) m ∧ Below w.heap.size w wr)
                case atStart => exact ⟨0, by omega, rfl, rfl, by rw [mapIdx_zero (fun _ x => gmul x f), set_getD_self]; exact hM, hb⟩
                case round =>
                  clear c0 c1 hM hb
                  obtain ⟨j, hj, rfl, rfl, hM, hb⟩ := hrel
                  have hki : k < (s.set k ((s.getD k []).mapIdx fun i x => if i < j then gmul x f else x)).length := by rw [set_length, HSL.out]; omega
                  have hki0 : k < s.length := by rw [HSL.out]; omega
                  by_cases hjm : j < m
                  · -- R2{
                    have hjr : j < (s.getD k []).length := by rw [HRL.out]; exact hjm
                    have c0 := hM.cellO hki
                    have c2 := hM.cellI (j := j) hki hjm
                    have f2 := hM.freeI hki hjm
                    have hp := hM.put (j := j) hki hjm (gmul ((s.getD k []).getD j 0) f)
                    have he : en (s.set k ((s.getD k []).mapIdx fun i x => if i < j then gmul x f else x)) k j = (s.getD k []).getD j 0 := by
                      unfold en
                      rw [getD_set _ _ _ _ _ hki0, if_pos rfl, getD_mapIdx _ _ 0 0 hjr, if_neg (by omega)]
                    have hpp : (s.set k ((s.getD k []).mapIdx fun i x => if i < j then gmul x f else x)).set k (((s.set k ((s.getD k []).mapIdx fun i x => if i < j then gmul x f else x)).getD k []).set j (gmul ((s.getD k []).getD j 0) f)) = s.set k ((s.getD k []).mapIdx fun i x => if i < j + 1 then gmul x f else x) := by
                      rw [getD_set _ _ _ _ _ hki0, if_pos rfl, List.set_set, getD_lt _ 0 hjr, mapIdx_step (fun _ x => gmul x f) _ _ hjr]
                    rw [hpp] at hp
                    rw [he] at c2
                    rw [← HQ.out] at c0 c2 f2 hp
                    generalize fs.getD k 0 = cq at c0
                    have hbq := hM.base k hki
                    rw [← HQ.out] at hbq
                    generalize (s.getD k []).getD j 0 = y at *
                    have HP := Lib.hid hp
                    clear hp hpp he hki hki0 hjr hM
                    go_wp2_with fail
                    go_still_tail 15, (by kernel_rfl)
                    still_call (Calls.eqw (refmul_any y f _))
                    repeat still_step
                    refine wpStill_nil ?_
                    change wpList _ _ _ _ _ (World.drew _)
                    go_wp2
                    go_roundg (m - (j + 1))
                    case measure => omega
                    case rel => exact ⟨j + 1, by omega, rfl, by go_num, HP.out.drewN 1, (hb.setCell hbq _).drew⟩
                    -- }R2
                  · obtain rfl : m = j := by omega
                    rw [mapIdx_all (fun _ x => gmul x f) _ _ (by rw [HRL.out]; exact Nat.le_refl _)] at hM
                    have hpr : (s.getD k []).mapIdx (fun _ x => gmul x f) = rowP s k := by unfold rowP scaleR; rw [HF.out, HX.out]
                    rw [hpr] at hM
                    obtain ⟨p, hp⟩ : ∃ p, p = rowP s k := ⟨_, rfl⟩
                    have hpl : p.length = m := by rw [hp, ← hpr, List.length_mapIdx, HRL.out]
                    obtain ⟨t5, ht5⟩ : ∃ t5, t5 = s.set k p := ⟨_, rfl⟩
                    rw [← hp, ← ht5] at hM
                    have ht5l : t5.length = i := by rw [ht5, set_length, HSL.out]
                    have hk5 : t5.getD k [] = p := by rw [ht5, getD_set _ _ _ _ _ hki0, if_pos rfl]
                    have hend : elimT t5 k p = gaussN (augT A) (k + 1) := by rw [HSTEP.out]; show _ = elimT ((swapL t (piv t k) k).set k (rowP (swapL t (piv t k) k) k)) k (rowP (swapL t (piv t k) k) k); rw [← HPV.out, ← HS.out, ht5, hp]
                    have HPL := Lib.hid hpl
                    have HT5 := Lib.hid ht5l
                    have HK5 := Lib.hid hk5
                    have HEND := Lib.hid hend
                    clear hpr hp ht5 ht5l hk5 hend hpl hki hki0 HSTEP HPV HRL HX HF HGL HC0 HC1 P3 P4
                    go_wp2_with fail
                    go_loopg [14] i (fun z v14 wr => ∃ c : Nat, c ≤ i ∧ z = i - c ∧ v14 = .int .i64 (c : Int) ∧ MatX wr w.heap.size g rs fs (t5.mapIdx fun i' r => if i' < c then (if i' = k then r else elimR (r.getD k 0) p r) else r) m ∧ Below w.heap.size w wr)
                    case atStart => exact ⟨0, by omega, rfl, rfl, by rw [mapIdx_zero (fun i' r => if i' = k then r else elimR (r.getD k 0) p r)]; exact hM, hb⟩
                    case round =>
                      clear hM hb
                      obtain ⟨c, hc, rfl, rfl, hM, hb⟩ := hrel
                      have hul : (t5.mapIdx fun i' r => if i' < c then (if i' = k then r else elimR (r.getD k 0) p r) else r).length = i := by rw [List.length_mapIdx, HT5.out]
                      by_cases hci : c < i
                      · have hcu : (t5.mapIdx fun i' r => if i' < c then (if i' = k then r else elimR (r.getD k 0) p r) else r).getD c [] = t5.getD c [] := by
                          rw [getD_mapIdx _ _ [] [] (by rw [HT5.out]; exact hci), if_neg (by omega)]
                        have hku : (t5.mapIdx fun i' r => if i' < c then (if i' = k then r else elimR (r.getD k 0) p r) else r).getD k [] = p := by
                          rw [getD_mapIdx _ _ [] [] (by rw [HT5.out]; omega), HK5.out]; split <;> simp
                        have hnext := mapIdx_step (fun i' r => if i' = k then r else elimR (r.getD k 0) p r) t5 c (by rw [HT5.out]; exact hci)
                        rw [← getD_lt t5 [] (by rw [HT5.out]; exact hci)] at hnext
                        generalize (t5.mapIdx fun i' r => if i' < c then (if i' = k then r else elimR (r.getD k 0) p r) else r) = u at *
                        have hrl := hM.rowlen (i := c) (by omega)
                        have c0 := hM.cellO (i := c) (by omega)
                        have c1 := hM.cellI (i := c) (j := k) (by omega) (by omega)
                        have hen : en u c k = (t5.getD c []).getD k 0 := by unfold en; rw [hcu]
                        rw [hen] at c1
                        rw [hcu] at hrl
                        generalize t5.getD c [] = row at *
                        obtain ⟨qc, hqc⟩ : ∃ qc, qc = rs.getD c 0 := ⟨_, rfl⟩
                        rw [← hqc] at c0 c1
                        generalize fs.getD c 0 = cc0 at c0
                        obtain ⟨y, hy⟩ : ∃ y, y = row.getD k 0 := ⟨_, rfl⟩
                        rw [← hy] at c1 hnext
                        have HQC := Lib.hid hqc
                        have HUL := Lib.hid hul
                        have HCU := Lib.hid hcu
                        have HKU := Lib.hid hku
                        have HNX := Lib.hid hnext
                        have HY := Lib.hid hy
                        have HRW := Lib.hid hrl
                        clear hqc hul hcu hku hnext hy hrl hen
                        by_cases hck : c = k
                        · have hb1 : ((c : Int) != (k : Int)) = false := by simp [hck]
                          have hsame : u.set c row = u := by rw [← HCU.out, set_getD_self]
                          have hn2 := HNX.out
                          rw [if_pos hck, hsame] at hn2
                          have HN2 := Lib.hid hn2
                          clear hck hn2 hsame
                          go_wp2_with fail
                          go_loopg [16] 0 (fun z v16 wr => v16 = .int .i64 0 ∧ z = 0 ∧ MatX wr w.heap.size g rs fs u m ∧ Below w.heap.size w wr)
                          case atStart => exact ⟨rfl, rfl, hM, hb⟩
                          case round =>
                            clear c0 c1 hM hb
                            obtain ⟨rfl, rfl, hM, hb⟩ := hrel
                            have hm0 : (0 : Int) < (m : Int) := by omega
                            go_wp2
                            go_roundg (i - (c + 1))
                            case measure => omega
                            case rel => exact ⟨c + 1, by omega, rfl, by go_num, by rw [← HN2.out]; exact hM, hb⟩
                        · have hb1 : ((c : Int) != (k : Int)) = true := by simp; omega
                          have hn2 := HNX.out
                          rw [if_neg hck] at hn2
                          · have HN2 := Lib.hid hn2
                            have HCK := Lib.hid hck
                            clear hck hn2
                            go_wp2_with fail
                            go_loopg [16] m (fun z v16 wr => ∃ j : Nat, j ≤ m ∧ z = m - j ∧ v16 = .int .i64 (j : Int) ∧ MatX wr w.heap.size g rs fs (u.set c (row.mapIdx fun i x => if i < j then x ^^^ gmul y (p.getD i 0) else x)) m ∧ Below w.heap.size w wr)
                            case atStart => exact ⟨0, by omega, rfl, rfl, by rw [mapIdx_zero (fun i x => x ^^^ gmul y (p.getD i 0)), ← HCU.out, set_getD_self]; exact hM, hb⟩
                            case round =>
                              clear c0 c1 hM hb
                              obtain ⟨j, hj, rfl, rfl, hM, hb⟩ := hrel
                              have hcu0 : c < u.length := by rw [HUL.out]; omega
                              have hci2 : c < (u.set c (row.mapIdx fun i x => if i < j then x ^^^ gmul y (p.getD i 0) else x)).length := by rw [set_length]; exact hcu0
                              have hki2 : k < (u.set c (row.mapIdx fun i x => if i < j then x ^^^ gmul y (p.getD i 0) else x)).length := by rw [set_length, HUL.out]; omega
                              by_cases hjm : j < m
                              · have hjr : j < row.length := by rw [HRW.out]; exact hjm
                                have c0 := hM.cellO hci2
                                have ck := hM.cellO hki2
                                have c2 := hM.cellI (j := j) hci2 hjm
                                have c3 := hM.cellI (j := j) hki2 hjm
                                have f2 := hM.freeI hci2 hjm
                                have hp := hM.put (j := j) hci2 hjm (row.getD j 0 ^^^ gmul y (p.getD j 0))
                                have he : en (u.set c (row.mapIdx fun i x => if i < j then x ^^^ gmul y (p.getD i 0) else x)) c j = row.getD j 0 := by
                                  unfold en
                                  rw [getD_set _ _ _ _ _ hcu0, if_pos rfl, getD_mapIdx _ _ 0 0 hjr, if_neg (by omega)]
                                have he2 : en (u.set c (row.mapIdx fun i x => if i < j then x ^^^ gmul y (p.getD i 0) else x)) k j = p.getD j 0 := by
                                  unfold en
                                  rw [getD_set _ _ _ _ _ hcu0, if_neg (fun e => HCK.out e.symm), HKU.out]
                                have hpp : (u.set c (row.mapIdx fun i x => if i < j then x ^^^ gmul y (p.getD i 0) else x)).set c (((u.set c (row.mapIdx fun i x => if i < j then x ^^^ gmul y (p.getD i 0) else x)).getD c []).set j (row.getD j 0 ^^^ gmul y (p.getD j 0))) = u.set c (row.mapIdx fun i x => if i < j + 1 then x ^^^ gmul y (p.getD i 0) else x) := by
                                  rw [getD_set _ _ _ _ _ hcu0, if_pos rfl, List.set_set, getD_lt row 0 hjr, mapIdx_step (fun i x => x ^^^ gmul y (p.getD i 0)) _ _ hjr]
                                rw [hpp] at hp
                                rw [he] at c2
                                rw [he2] at c3
                                have hbq := hM.base c hci2
                                rw [← HQC.out] at c0 c2 f2 hp hbq
                                generalize rs.getD k 0 = qk at *
                                generalize fs.getD k 0 = ck2 at ck
                                generalize fs.getD c 0 = cc2 at c0
                                generalize row.getD j 0 = z1 at *
                                generalize p.getD j 0 = z2 at *
                                have HP := Lib.hid hp
                                clear hp hpp he he2 hci2 hki2 hjr hM hcu0
                                go_wp2_with fail
                                go_still_tail 23, (by kernel_rfl)
                                still_call (Calls.eqw (refmul_any y z2 _))
                                repeat still_step
                                refine wpStill_nil ?_
                                change wpList _ _ _ _ _ (World.drew _)
                                go_wp2
                                go_roundg (m - (j + 1))
                                case measure => omega
                                case rel => exact ⟨j + 1, by omega, rfl, by go_num, by rw [xor_int]; exact HP.out.drewN 1, (hb.setCell hbq _).drew⟩
                              · obtain rfl : m = j := by omega
                                rw [mapIdx_all (fun i x => x ^^^ gmul y (p.getD i 0)) _ _ (by rw [HRW.out]; exact Nat.le_refl _)] at hM
                                have hM3 : MatX wr w.heap.size g rs fs (u.set c (elimR y p row)) m := hM
                                rw [HN2.out] at hM3
                                have HM3 := Lib.hid hM3
                                clear hM hM3
                                go_wp2
                                go_roundg (i - (c + 1))
                                case measure => omega
                                case rel => exact ⟨c + 1, by omega, rfl, by go_num, HM3.out, hb⟩
                      · obtain rfl : c = i := by omega
                        rw [mapIdx_all (fun i' r => if i' = k then r else elimR (r.getD k 0) p r) _ _ (by rw [HT5.out]; exact Nat.le_refl _)] at hM
                        go_wp2
                        go_roundg (c - (k + 1))
                        case measure => omega
                        case rel =>
                          have hM2 : MatX wr w.heap.size g rs fs (elimT t5 k p) m := hM
                          rw [HEND.out] at hM2
                          exact ⟨k + 1, rs, fs, by omega, rfl, by go_num, hM2, hb⟩
          -- }R3
        · obtain rfl : i = k := by omega
          have HMW := Lib.hid hM
          have HGL := Lib.hid hgl
          have hgW := block_lt_of_cell (hM.cellO (i := 0) (by rw [hgl]; omega))
          have hgW : g < wr.heap.size := hgW
          clear hM hgl
          go_wp2_with fail
          obtain ⟨wo, rfl⟩ : ∃ wo : World, wo = wr := ⟨_, rfl⟩
          go_loopg [17, 18] i (fun z v17 v18 wr => ∃ (c : Nat) (ys : List Value), c ≤ i ∧ z = i - c ∧ v18 = .int .i64 (c : Int) ∧ wr.ownsRow wo.heap.size 25 1 v17 c ys ∧ Hid (∀ j, j < c → ByS wr (fun b => b < wr.heap.size ∧ v17.ownBlock ≠ some b) (ys.getD j undef) ((invT A).getD j [])) ∧ Below wo.heap.size wo wr)
          case atStart => exact ⟨0, [], by omega, rfl, rfl, World.ownsRow_nil _ _ _ _, fun j hj => by omega, Below.refl _ _⟩
          case round =>
            obtain ⟨c, ys, hc, rfl, rfl, hownO, HV, hbo⟩ := hrel
            obtain ⟨A17, c17, rfl⟩ := own_form hownO
            have hszo := hbo.size
            by_cases hlt2 : c < i
            · have hinv := invT_getD A c (by rw [← HN.out]; exact hlt2)
              rw [← HN.out] at hinv
              have hrl := HMW.out.rowlen (i := c) (by rw [HGL.out]; exact hlt2)
              have c0 := HMW.out.cellO (i := c) (by rw [HGL.out]; exact hlt2)
              have hin := fun j (hj : j < m) => HMW.out.cellI (i := c) (j := j) (by rw [HGL.out]; exact hlt2) hj
              have hql := block_lt_of_cell (hin 0 (by omega))
              have hecap := HMW.out.cap c (by rw [HGL.out]; exact hlt2)
              have hen : ∀ j, en (gaussN (augT A) i) c j = ((gaussN (augT A) i).getD c []).getD j 0 := fun j => rfl
              simp only [hen] at hin
              generalize (gaussN (augT A) i).getD c [] = row at *
              generalize ps.getD c 0 = q at *
              generalize es.getD c 0 = ec at *
              have hql : q < wo.heap.size := hql
              have c1 := (hbo.cell (p := ⟨g, c, none⟩) hgW).trans c0
              have hll : (row.drop i).length = i := by rw [List.length_drop]; omega
              have hcells : ∀ j (hj : j < (row.drop i).length), wr.cell? ⟨q, i + j, none⟩ = some (.int .u8 ((row.drop i)[j].toNat : Int)) := by
                intro j hj
                rw [hll] at hj
                rw [hbo.cell (p := ⟨q, i + j, none⟩) hql, hin (i + j) (by omega), getD_lt _ _ (by omega), List.getElem_drop]
              have hll2 : (row.drop i).length ≤ 65536 := by omega
              have hmi : m - i = i := by omega
              have HLL := Lib.hid hll
              have HCE := Lib.hid hcells
              have HIN := Lib.hid hinv
              have HMI := Lib.hid hmi
              have hml : (i : Int) ≤ (m : Int) := by omega
              have hil : (i : Int) < (m : Int) := by omega
              have hme : (m : Int) ≤ (ec : Int) := by omega
              have hie : (i : Int) < (ec : Int) := by omega
              clear hcells hll hinv hmi c0 hrl hin hen
              generalize row.drop i = l at *
              go_wp2_with (first
                | (at_builtin; refine app_copyO (.const (.slice none 0 0)) (.tmp 189) (by rfl) (by rfl) l q i (m - i) (ec - i) (by rfl) (by rfl) (by rw [HLL.out, HMI.out]) HCE.out hll2 ?_; intro v7 w7 hown7 hb7; obtain ⟨A7, c7, rfl⟩ := own_form hown7; have hownX := own_below hownO hb7; have hsz7 := Nat.le_trans hszo hb7.size)
                | (at_builtin; refine app_row (.tmp 183) (.tmp 191) rfl rfl _ _ _ _ (by rfl) hownX (by rfl) rfl (by omega) hsz7 ?_; intro v' w1 hown' hg hat))
              go_roundg (i - (c + 1))
              case measure => omega
              case rel =>
                have hyl : ys.length = c := by have := hownO.1; omega
                have hsz1 := hg.size
                have hszb := hb7.size
                have hlt17 := hownO.lt
                have hkp : ∀ b, b < wr.heap.size → (Value.slice A17 c c17).ownBlock ≠ some b → w1.heap[b]? = wr.heap[b]? := fun b hb1 hb2 => (hg.block b (Nat.lt_of_lt_of_le hb1 hszb) (fun e => hb2 e.symm)).trans (hb7.block b hb1)
                have hnb : ∀ b, b < w7.heap.size → (Value.slice A17 c c17).ownBlock ≠ some b → v'.ownBlock ≠ some b := fun b hb1 hb2 => by
                  rcases hat with e | e
                  · rw [e]; exact hb2
                  · rw [e]; intro e2; injection e2 with e2; omega
                refine ⟨c + 1, _, by omega, rfl, by go_num, hown', ?_, (hbo.trans (hb7.mono hszo)).grown hg hsz7 (fun b h => (hownX.lt b h).1)⟩
                intro j hj
                by_cases hjc : j < c
                · rw [getD_append_lt _ _ _ (by omega)]
                  exact ((HV.out j hjc).keep (w' := w1) (fun b hb => hkp b hb.1 hb.2)).mono (fun b hb => ⟨Nat.lt_of_lt_of_le hb.1 (Nat.le_trans hszb hsz1), hnb b (Nat.lt_of_lt_of_le hb.1 hszb) hb.2⟩)
                · have hje : j = c := by omega
                  rw [hje, getD_last _ _ _ _ hyl, HIN.out]
                  have h0 := ByS.own (R := fun b => wr.heap.size ≤ b ∧ b < w7.heap.size) hown7 (fun b hb => hown7.lt b hb)
                  have hn17 : ∀ b, wr.heap.size ≤ b → (Value.slice A17 c c17).ownBlock ≠ some b := fun b hb1 e => by have := (hlt17 b e).2; omega
                  have h1 := h0.keep (w' := w1) (fun b hb => hg.block b hb.2 (fun e => hn17 b hb.1 e.symm))
                  exact h1.mono (fun b hb => ⟨Nat.lt_of_lt_of_le hb.2 hsz1, hnb b hb.2 (hn17 b hb.1)⟩)
            · have hcI : Hid (c = i) := (by omega : c = i)
              go_wp2
              go_ret2
              have e := hcI.out
              subst e
              have hil : (invT A).length = c := by rw [invT_length, ← HN.out]
              obtain ⟨h, cap, hcap, hA17⟩ : ∃ h cap, c ≤ cap ∧ Value.slice A17 c c17 = .slice (some ⟨h, 0, none⟩) c cap := by
                rcases hownO.2 with ⟨-, h1⟩ | ⟨h, cap, cur, h1, -, -, h2, -⟩
                · omega
                · exact ⟨h, cap, h2, h1⟩
              refine ⟨.slice A17 c c17, rfl, ?_, hb.trans (hbo.mono hb.size)⟩
              rw [hA17] at hownO ⊢
              refine ⟨some ⟨h, 0, none⟩, cap, by rw [hil], by rw [hil]; exact hcap, by rw [hil]; unfold maxLen; omega, fun _ => ⟨h, 0, rfl, (hownO.lt h rfl).2, fun j r hj => ?_⟩⟩
              have hjl : j < (invT A).length := (List.getElem?_eq_some_iff.1 hj).1
              have hjr : (invT A)[j] = r := (List.getElem?_eq_some_iff.1 hj).2
              have hyl : ys.length = c := by have := hownO.1; omega
              have h1 := HV.out j (by omega)
              rw [getD_lt _ _ hjl, hjr] at h1
              refine ⟨ys.getD j undef, ?_, h1.mono (fun b hb => hb.1)⟩
              rw [Nat.zero_add, hownO.cellAt j (by omega), List.getElem?_eq_getElem (by omega), getD_lt _ _ (by omega)]
end Go.Proofs.Ytkpfndhocgmgjaa
