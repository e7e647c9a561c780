/- The drives that hold a good piece: the program's Good, walked. -/
import Derived.Test.YtflembddbbkojaaMa12
namespace Go.Proofs.Ytflembddbbkojaa
open Go.RowKit
set_option linter.unusedVariables false
set_option linter.unusedSimpArgs false
set_option maxRecDepth 100000 in
set_option maxHeartbeats 800000 in
theorem sindex_any (v : Value) (xs : List Int) (x : Int) (R : Nat → Prop) (w : World) (h : IntS w R v xs) :
    Calls Try.prog 35 #[v, .int .i64 x] w fun e w' => (∃ i : Int, e = .returned (.int .i64 i) ∧ (0 ≤ i ↔ x ∈ xs)) ∧ w = w' := by
  obtain ⟨A, c, rfl, h1, h2⟩ := h.form7
  unfold maxLen at h2
  have HA := Lib.hid h
  clear h
  go_enter Try.func35, Try.ntmps35
  go_wp2_with fail
  go_loopg [8] xs.length (fun z v8 wr => w = wr ∧ ∃ j : Nat, j ≤ xs.length ∧ z = xs.length - j ∧ v8 = .int .i64 (j : Int) ∧ Hid (∀ i (h : i < xs.length), i < j → xs[i] ≠ x))
  case atStart => exact ⟨rfl, 0, by omega, rfl, rfl, fun i h h2 => by omega⟩
  case round =>
    obtain ⟨rfl, j, hj, rfl, rfl, HN⟩ := hrel
    by_cases hlt : j < xs.length
    · obtain ⟨b, off, rfl, hR, hc, hx⟩ := HA.out.at7 hlt
      have hmem : xs[j] ∈ xs := List.getElem_mem hlt
      have hnx : xs[j] ≠ x → ∀ i (h : i < xs.length), i < j + 1 → xs[i] ≠ x := fun hne i h1 h2 => by
        by_cases e : i = j
        · subst e; exact hne
        · exact HN.out i h1 (by omega)
      have HNX := Lib.hid hnx
      have HME := Lib.hid hmem
      generalize xs[j] = y at *
      clear hnx hmem hx
      by_cases he : x = y
      · have q1 : (x == y) = true := by simpa using he
        have HE := Lib.hid he
        clear he
        go_wp2_with fail
        go_ret
        exact ⟨⟨_, rfl, ⟨fun _ => by rw [HE.out]; exact HME.out, fun _ => by omega⟩⟩, rfl⟩
      · have q1 : (x == y) = false := by simpa using he
        have HN2 := Lib.hid (HNX.out (fun e => he e.symm))
        clear he
        go_wp2_with fail
        go_roundg (xs.length - (j + 1))
        case measure => omega
        case rel => exact ⟨rfl, j + 1, by omega, rfl, by go_num, HN2⟩
    · have hn : x ∉ xs := fun hm => by
        obtain ⟨i, hi, e⟩ := List.getElem_of_mem hm
        exact HN.out i hi (by omega) e
      have HNO := Lib.hid hn
      clear hn
      go_wp2_with fail
      go_ret
      exact ⟨⟨_, rfl, ⟨fun h => by omega, fun h => absurd h HNO.out⟩⟩, rfl⟩
set_option maxRecDepth 100000 in
set_option maxHeartbeats 800000 in
theorem contains_any (v : Value) (xs : List Int) (x : Int) (R : Nat → Prop) (w : World) (h : IntS w R v xs) :
    Calls Try.prog 20 #[v, .int .i64 x] w fun e w' => e = .returned (.bool (decide (x ∈ xs))) ∧ w = w' := by
  have HS := Lib.hid (sindex_any v xs x R w h)
  clear h
  go_enter Try.func20, Try.ntmps20
  go_wp2_with fail
  refine HS.out.mono ?_
  rintro e w2 ⟨⟨i, rfl, hi⟩, rfl⟩
  have HI := Lib.hid hi
  clear hi
  by_cases h0 : 0 ≤ i
  · go_wp2_with fail
    go_ret
    refine ⟨ret_bool ?_, rfl⟩
    rw [decide_eq_true (HI.out.1 h0)]
  · go_wp2_with fail
    go_ret
    refine ⟨ret_bool ?_, rfl⟩
    rw [decide_eq_false (fun h : x ∈ xs => by have := HI.out.2 h; omega)]
    exact decide_eq_false (by omega)
/-- The drives of the pieces of a stripe: one step. -/
def cStep (f : Int) (acc : List Int) (x : Fd) : List Int := if x.p.frag = f ∧ (x.drive : Int) ∉ acc then acc ++ [(x.drive : Int)] else acc
def goodC (f : Int) (l : List Fd) : List Int := l.foldl (cStep f) []
theorem goodC_succ (f : Int) (l : List Fd) (j : Nat) (h : j < l.length) : goodC f (l.take (j + 1)) = cStep f (goodC f (l.take j)) l[j] := by
  unfold goodC
  rw [List.take_succ_eq_append_getElem h, List.foldl_append]
  rfl
theorem cStep_length (f : Int) (acc : List Int) (x : Fd) : (cStep f acc x).length ≤ acc.length + 1 := by unfold cStep; split <;> simp
theorem goodC_length (f : Int) (l : List Fd) : (goodC f l).length ≤ l.length := by
  have : ∀ (l : List Fd) (acc : List Int), (l.foldl (cStep f) acc).length ≤ acc.length + l.length := by
    intro l
    induction l with
    | nil => intro acc; simp
    | cons x l ih =>
      intro acc
      have h1 := ih (cStep f acc x)
      have h2 := cStep_length f acc x
      simp only [List.foldl_cons, List.length_cons]
      omega
  simpa [goodC] using this l []
theorem goodC_mem (f : Int) (l : List Fd) : ∀ y ∈ goodC f l, ∃ x ∈ l, y = (x.drive : Int) := by
  have : ∀ (l : List Fd) (acc : List Int), ∀ y ∈ l.foldl (cStep f) acc, y ∈ acc ∨ ∃ x ∈ l, y = (x.drive : Int) := by
    intro l
    induction l with
    | nil => intro acc y hy; exact .inl hy
    | cons x l ih =>
      intro acc y hy
      rcases ih _ y hy with h | ⟨z, hz, e⟩
      · unfold cStep at h
        split at h
        · rcases List.mem_append.1 h with h | h
          · exact .inl h
          · exact .inr ⟨x, by simp, by simpa using h⟩
        · exact .inl h
      · exact .inr ⟨z, List.mem_cons_of_mem _ hz, e⟩
  intro y hy
  rcases this l [] y hy with h | h
  · cases h
  · exact h
/-- Pieces whose drives rise. -/
def Rise (l : List Fd) : Prop := l.Pairwise fun a b => a.drive ≤ b.drive
theorem drvP_all (acks : List Ac) (d : Nat) (l : List ByteArray) : ∀ x ∈ drvP acks d l, x.drive = d ∧ validP x.p = true ∧ verOf acks x.p.vol x.p.stripe = some x.p.ver := by
  intro x hx
  simp only [drvP, List.mem_filterMap] at hx
  obtain ⟨s, -, hs⟩ := hx
  cases hg : goodP acks s with
  | none => rw [hg] at hs; cases hs
  | some p =>
    rw [hg] at hs
    injection hs with hs
    subst hs
    unfold goodP at hg
    split at hg
    · rename_i h0
      injection hg with hg
      subst hg
      refine ⟨rfl, ?_, h0.2⟩
      have h1 := h0.1
      unfold decEr at h1
      split at h1
      · cases h1
      · split at h1
        · cases h1
        · split at h1
          · cases h1
          · split at h1
            · rename_i h2; exact h2.1
            · cases h1
    · cases hg
theorem piecesTo_all (r : Re) (d : Nat) : ∀ x ∈ piecesTo r d, validP x.p = true ∧ verOf r.acks x.p.vol x.p.stripe = some x.p.ver := by
  intro x hx
  simp only [piecesTo, List.mem_flatMap, List.mem_range] at hx
  obtain ⟨k, hk, hm⟩ := hx
  exact (drvP_all _ _ _ x hm).2
theorem piecesTo_rise (r : Re) : ∀ d, Rise (piecesTo r d) := by
  intro d
  induction d with
  | zero => exact List.Pairwise.nil
  | succ d ih =>
    rw [piecesTo_succ]
    refine List.pairwise_append.2 ⟨ih, ?_, fun a ha b hb => ?_⟩
    · refine List.pairwise_of_forall_mem_list fun a ha b hb => ?_
      rw [(drvP_all _ _ _ a ha).1, (drvP_all _ _ _ b hb).1]
      exact Nat.le_refl _
    · have h1 := piecesTo_drive r d a ha
      rw [(drvP_all _ _ _ b hb).1]
      omega
theorem isB_eq (p : Pc) (v f s : Int) : isB p v f s = ((p.vol == v && p.stripe == s) && p.frag == f) := by
  unfold isB
  cases p.vol == v <;> cases p.frag == f <;> cases p.stripe == s <;> rfl
theorem good_same (v f s : Int) : ∀ (l : List Fd) (acc : List Int), Rise l → acc.Pairwise (fun a b => a < b) → (∀ a ∈ acc, ∀ x ∈ l, a ≤ (x.drive : Int)) → l.foldl (gStep v f s) acc = (stripeP l v s).foldl (cStep f) acc
  | [], _, _, _, _ => rfl
  | x :: l, acc, hr, hs, hle => by
    have hr2 : Rise l := (List.pairwise_cons.1 hr).2
    have hx := (List.pairwise_cons.1 hr).1
    have hsp : stripeP (x :: l) v s = if (x.p.vol == v && x.p.stripe == s) = true then x :: stripeP l v s else stripeP l v s := by
      unfold stripeP; rw [List.filter_cons]
    rw [List.foldl_cons, hsp]
    by_cases hk : (x.p.vol == v && x.p.stripe == s) = true
    · rw [if_pos hk, List.foldl_cons]
      have hlast : (acc.getLast? ≠ some (x.drive : Int)) ↔ (x.drive : Int) ∉ acc := by
        constructor
        · intro h hm
          apply h
          have hne : acc ≠ [] := fun e => by rw [e] at hm; cases hm
          rw [List.getLast?_eq_some_getLast hne]
          congr 1
          have h1 := hle _ (List.getLast_mem hne) x (by simp)
          obtain ⟨i, hi, he⟩ := List.getElem_of_mem hm
          rw [List.getLast_eq_getElem] at h1 ⊢
          by_cases e : i = acc.length - 1
          · subst e; exact he
          · have h2 := List.pairwise_iff_getElem.1 hs i (acc.length - 1) hi (by omega) (by omega)
            omega
        · intro h e
          exact h (List.mem_of_getLast? e)
      have hstep : gStep v f s acc x = cStep f acc x := by
        unfold gStep cStep
        rw [isB_eq, hk]
        by_cases hf : x.p.frag = f
        · by_cases hm : (x.drive : Int) ∉ acc
          · rw [if_pos ⟨by simpa using hf, hlast.2 hm⟩, if_pos ⟨hf, hm⟩]
          · rw [if_neg (fun h => hm (hlast.1 h.2)), if_neg (fun h => hm h.2)]
        · rw [if_neg (fun h => hf (by simpa using h.1)), if_neg (fun h => hf h.1)]
      rw [hstep]
      refine good_same v f s l _ hr2 ?_ ?_
      · unfold cStep
        split
        · rename_i h
          refine List.pairwise_append.2 ⟨hs, by simp, fun a ha b hb => ?_⟩
          have hb' : b = (x.drive : Int) := by simpa using hb
          subst hb'
          have h1 := hle a ha x (by simp)
          have h2 : a ≠ (x.drive : Int) := fun e => h.2 (e ▸ ha)
          omega
        · exact hs
      · intro a ha y hy
        unfold cStep at ha
        split at ha
        · rcases List.mem_append.1 ha with h | h
          · exact hle a h y (List.mem_cons_of_mem _ hy)
          · have := hx y hy
            have h2 : a = (x.drive : Int) := by simpa using h
            omega
        · exact hle a ha y (List.mem_cons_of_mem _ hy)
    · rw [if_neg hk]
      have hstep : gStep v f s acc x = acc := by
        unfold gStep
        rw [isB_eq]
        have hk' : (x.p.vol == v && x.p.stripe == s) = false := by simpa using hk
        rw [hk', if_neg (fun h => by simp at h)]
      rw [hstep]
      exact good_same v f s l acc hr2 hs (fun a ha y hy => hle a ha y (List.mem_cons_of_mem _ hy))
theorem goodC_pieces (r : Re) (v f s : Int) : goodC f (stripeP (pieces r) v s) = goodI r v f s :=
  (good_same v f s (pieces r) [] (piecesTo_rise r _) List.Pairwise.nil (fun a ha => by cases ha)).symm
theorem Groups.at_ {w : World} {base : Nat} {acks : List Ac} {f : Int → Int → Option Value} {fs : List Fd} (h : Groups w base acks f fs) (hv : ∀ x ∈ fs, verOf acks x.p.vol x.p.stripe = some x.p.ver) {x y : Int} (hx : I64 x) (hy : I64 y) :
    OwnFd w base 84 ((f x y).getD (.slice none 0 0)) (stripeP fs x y) := by
  rcases h.1 x y hx hy with ⟨h1, h2⟩ | ⟨_, v, h2, h3⟩
  · have : stripeP fs x y = [] := by
      unfold stripeP
      rw [List.filter_eq_nil_iff]
      intro a ha he
      have he2 : a.p.vol = x ∧ a.p.stripe = y := by simpa using he
      have h3 := hv a ha
      rw [he2.1, he2.2, h1] at h3
      cases h3
    rw [this, h2]
    exact World.ownsRow_nil _ _ _ _
  · rw [h2]; exact h3
set_option maxRecDepth 100000 in
set_option maxHeartbeats 3200000 in
theorem good_any (vp vo va : Value) (r : Re) (v f s : Int) (w : World) (h : ReS w (Bl w.heap.size) vp vo va r) (hp : r.plat.length ≤ 1000) (hl : ∀ l ∈ r.plat, l.length ≤ 1000) (hac : r.acks.length ≤ 1000000) (hv : I64 v) (hs : I64 s) :
    Calls Try.prog 9 #[.agg #[vp, vo, va], .int .i64 v, .int .i64 f, .int .i64 s] w fun e w' => ∃ u, e = .returned u ∧ OwnI w' w.heap.size u (goodI r v f s) ∧ Below w.heap.size w w' := by
  have HIX := Lib.hid (fun w1 h1 => index_any vp vo va r w1 h1 hp hl hac)
  have hpa := piecesTo_all r r.plat.length
  have hpd := pieces_drive r (by omega)
  have hlen : (stripeP (pieces r) v s).length ≤ 1000000 := by
    have h0 := stripeP_length (pieces r) v s
    have h1 := piecesTo_length r 1000 hl r.plat.length
    have h2 : r.plat.length * 1000 ≤ 1000 * 1000 := Nat.mul_le_mul_right 1000 hp
    unfold pieces at h0 ⊢
    omega
  have hgd := goodC_pieces r v f s
  have hsd : ∀ x ∈ stripeP (pieces r) v s, x.drive ≤ 1048576 := fun x hx => hpd x (List.mem_filter.1 hx).1
  obtain ⟨l, hpl⟩ : ∃ l, l = stripeP (pieces r) v s := ⟨_, rfl⟩
  rw [← hpl] at hlen hgd hsd
  have HPA := Lib.hid hpa
  have HPL := Lib.hid hpl
  have HGD := Lib.hid hgd
  have HSD := Lib.hid hsd
  obtain ⟨W0, hW0⟩ : ∃ W0, W0 = w.alloc (.cells #[vp, vo, va] 27) := ⟨_, rfl⟩
  obtain ⟨q, hq⟩ : ∃ q, q = w.heap.size := ⟨_, rfl⟩
  have c0 : W0.cell? ⟨q, 0, none⟩ = some vp := by rw [hW0, hq]; simp
  have c1 : W0.cell? ⟨q, 1, none⟩ = some vo := by rw [hW0, hq]; simp
  have c2 : W0.cell? ⟨q, 2, none⟩ = some va := by rw [hW0, hq]; simp
  have hb0 : Below w.heap.size w W0 := by rw [hW0]; exact (Below.refl _ _).alloc (Nat.le_refl _) _
  have HQ := Lib.hid hq
  have HW0 := Lib.hid hW0
  have HB0 := Lib.hid hb0
  have HR0 := Lib.hid (h.below hb0)
  clear h hp hl hac hW0 hq hb0 hpl hpa hpd hgd hsd
  go_enter Try.func9, Try.ntmps9
  go_wp2_with fail
  rw [← HW0.out, ← HQ.out]
  refine (HIX.out _ HR0.out).mono ?_
  rintro e w1 ⟨b, n, fm, rfl, hbb, hM, hG, hb1⟩
  have hown := hG.at_ (fun x hx => (HPA.out x hx).2) hv hs
  rw [← (show stripeP (piecesTo r r.plat.length) v s = stripeP (pieces r) v s from rfl), show stripeP (piecesTo r r.plat.length) v s = l from HPL.out.symm] at hown
  obtain ⟨A, c, hfm⟩ := own_form hown
  have hLL : SlS 7 FdK w1 (Bl w1.heap.size) (.slice A l.length c) l := by rw [← hfm]; exact OwnFd.slBl hown HSD.out
  have hm : l.length ≤ 9223372036854775807 := by omega
  have HFM := Lib.hid hfm
  have HL := Lib.hid hLL
  have HMV := Lib.hid hM
  have HB1 := Lib.hid (HB0.out.trans (hb1.mono HB0.out.size))
  clear c0 c1 c2 hM hG hown hfm hLL hb1
  go_wp2_with (at_lookup; refine kv_look rfl _ _ _ 82 78 rfl key_two Try.underlying79 b n fm v s (.slice none 0 0) (by rfl) (by rfl) HMV.out (zero_fds _) hv hs _ HFM.out ?_)
  obtain ⟨W1, hW1⟩ : ∃ W1, W1 = w1 := ⟨_, rfl⟩
  rw [← hW1] at HL HB1 ⊢
  clear HMV
  subst hW1
  go_loopg [9, 19] l.length (fun z v9 v19 wr => ∃ j : Nat, j ≤ l.length ∧ z = l.length - j ∧ v19 = .int .i64 (j : Int) ∧ OwnI wr W1.heap.size v9 (goodC f (l.take j)) ∧ Below W1.heap.size W1 wr)
  case atStart => exact ⟨0, by omega, rfl, rfl, OwnI.nil _ _, Below.refl _ _⟩
  case round =>
    obtain ⟨j, hj, rfl, rfl, hO, hbr⟩ := hrel
    by_cases hlt : j < l.length
    · obtain ⟨b2, off, cs, rfl, hRb, -, hcs, hfk, hdr⟩ := HL.out.at_ hlt
      obtain ⟨k0, k1, k2, k3, k4, k5, k6⟩ := seven hcs hfk
      have hnx := goodC_succ f l j hlt
      have hlen2 : (goodC f (l.take j)).length + 1 ≤ 16777216 := by
        have h1 := goodC_length f (l.take j)
        have h2 : (l.take j).length ≤ j := List.length_take_le _ _
        omega
      have hmem : ∀ y ∈ goodC f (l.take j), I64 y := fun y hy => by
        obtain ⟨x, hx, rfl⟩ := goodC_mem f _ y hy
        have := HSD.out x (List.mem_of_mem_take hx)
        constructor <;> omega
      obtain ⟨x, hx⟩ : ∃ x, x = l[j] := ⟨_, rfl⟩
      rw [← hx] at k0 k1 k2 k3 k4 k5 k6 hdr hnx
      obtain ⟨xs, hxs⟩ : ∃ xs, xs = goodC f (l.take j) := ⟨_, rfl⟩
      rw [← hxs] at hnx hO hlen2 hmem
      have kk : ∀ i u, W1.cell? ⟨b2, i, none⟩ = some u → wr.cell? ⟨b2, i, none⟩ = some u := fun i u e => (hbr.cell (p := ⟨b2, i, none⟩) hRb).trans e
      obtain ⟨dr, ⟨pa, pb, pc, pg, pr, px⟩⟩ := x
      simp only at k0 k1 k2 k3 k4 k5 k6 hdr
      have m0 := kk _ _ k0
      have m1 := kk _ _ k1
      have m2 := kk _ _ k2
      have m3 := kk _ _ k3
      have m4 := kk _ _ k4
      have m5 := kk _ _ k5
      have m6 := kk _ _ k6
      obtain ⟨y, hy⟩ : ∃ y : ByteArray, y = ⟨px.toArray⟩ := ⟨_, rfl⟩
      rw [← hy] at m6
      have HNX := Lib.hid hnx
      have hsz := hbr.size
      obtain ⟨W3, hW3⟩ : ∃ W3, W3 = wr.alloc (.cells #[.int .i64 (dr : Int), .int .i64 pa, .int .i64 pb, .int .i64 pc, .int .i64 pg, .int .i64 pr, .string y] 84) := ⟨_, rfl⟩
      obtain ⟨g, hg⟩ : ∃ g, g = wr.heap.size := ⟨_, rfl⟩
      have n0 : W3.cell? ⟨g, 0, none⟩ = some (.int .i64 (dr : Int)) := by rw [hW3, hg]; simp
      have n2 : W3.cell? ⟨g, 2, none⟩ = some (.int .i64 pb) := by rw [hW3, hg]; simp
      have hb3 : Below W1.heap.size W1 W3 := by rw [hW3]; exact hbr.alloc hsz _
      obtain ⟨A3, c3, rfl⟩ := hO.form
      have hO3 : OwnI W3 W1.heap.size (.slice A3 xs.length c3) xs := by rw [hW3]; exact World.ownsRow.alloc hO _
      have HC := Lib.hid (contains_any _ xs (dr : Int) _ W3 (hO3.intS hmem))
      have HO3 := Lib.hid hO3
      have HB3 := Lib.hid hb3
      have HW3 := Lib.hid hW3
      have HG3 := Lib.hid hg
      have hsz3 := hb3.size
      have HX2 := Lib.hid (show xs.length + 1 ≤ 16777216 from hlen2)
      clear k0 k1 k2 k3 k4 k5 k6 hcs hfk hx hnx hy kk hxs cs hRb hO hO3 hb3 hW3 hg hmem hlen2
      by_cases hf : pb = f
      · have q1 : (pb == f) = true := by simpa using hf
        by_cases hm2 : (dr : Int) ∈ xs
        · have HN2 := Lib.hid (HNX.out.trans (show cStep f xs ⟨dr, ⟨pa, pb, pc, pg, pr, px⟩⟩ = xs from if_neg (fun h => h.2 hm2)))
          have q2 : decide ((dr : Int) ∈ xs) = true := decide_eq_true hm2
          rw [q2] at HC
          clear hf hm2 q2
          go_wp2_with fail
          rw [← HW3.out]
          refine HC.out.mono ?_
          rintro e w4 ⟨rfl, rfl⟩
          go_wp2_with fail
          go_roundg (l.length - (j + 1))
          case measure => omega
          case rel => exact ⟨j + 1, by omega, rfl, by go_num, by rw [HN2.out]; exact HO3.out, HB3.out⟩
        · have HN2 := Lib.hid (HNX.out.trans (show cStep f xs ⟨dr, ⟨pa, pb, pc, pg, pr, px⟩⟩ = xs ++ [(dr : Int)] from if_pos ⟨hf, hm2⟩))
          have q2 : decide ((dr : Int) ∈ xs) = false := decide_eq_false hm2
          rw [q2] at HC
          clear hf hm2 q2
          go_wp2_with fail
          rw [← HW3.out, ← HG3.out]
          refine HC.out.mono ?_
          rintro e w4 ⟨rfl, rfl⟩
          have hO4 : W3.ownsRow W1.heap.size 3 1 (.slice A3 xs.length c3) xs.length (xs.map (Value.int .i64)) := HO3.out
          go_wp2_with (at_builtin; refine app_i (dr : Int) (.tmp 35) (.tmp 38) rfl rfl W1.heap.size _ xs.length xs rfl (by rfl) hO4 (by rfl) HX2.out hsz3 ?_; intro v' w5 hown' hg hat)
          go_roundg (l.length - (j + 1))
          case measure => omega
          case rel => exact ⟨j + 1, by omega, rfl, by go_num, by rw [HN2.out]; exact hown', HB3.out.grown hg hsz3 (fun b h => (HO3.out.lt b h).1)⟩
      · have q1 : (pb == f) = false := by simpa using hf
        have HN2 := Lib.hid (HNX.out.trans (show cStep f xs ⟨dr, ⟨pa, pb, pc, pg, pr, px⟩⟩ = xs from if_neg (fun h => hf h.1)))
        clear hf
        go_wp2_with fail
        rw [← HW3.out]
        go_roundg (l.length - (j + 1))
        case measure => omega
        case rel => exact ⟨j + 1, by omega, rfl, by go_num, by rw [HN2.out]; exact HO3.out, HB3.out⟩
    · have hE : goodC f (l.take j) = goodI r v f s := by rw [List.take_of_length_le (by omega)]; exact HGD.out
      have HE := Lib.hid hE
      have HO := Lib.hid hO
      have hbz := HB1.out.trans (hbr.mono HB1.out.size)
      clear hE hO
      go_wp2_with fail
      go_ret
      refine ⟨_, rfl, ?_, hbz⟩
      have h1 := HO.out
      rw [HE.out] at h1
      exact h1.base HB1.out.size
end Go.Proofs.Ytflembddbbkojaa

namespace Go.Proofs.Ytflembddbbkojaa
open Go.RowKit
set_option linter.unusedVariables false
set_option linter.unusedSimpArgs false
/-- An array of eight bools. -/
def bools8 (js : Nat → Bool) : Array Value := #[.bool (js 0), .bool (js 1), .bool (js 2), .bool (js 3), .bool (js 4), .bool (js 5), .bool (js 6), .bool (js 7)]
def SetB (W : World) (g : Nat) (js : Nat → Bool) : Prop := W.heap[g]? = some (.cells (bools8 js) 121 (0, 0))
theorem index8_0 (js : Nat → Bool) (w : World) : (Instr.index 121 (.agg #[.bool (js 0), .bool (js 1), .bool (js 2), .bool (js 3), .bool (js 4), .bool (js 5), .bool (js 6), .bool (js 7)]) (.int .i64 0)).run Try.prog w = .ok (.bool (js 0)) w := by kernel_rfl
theorem index8_1 (js : Nat → Bool) (w : World) : (Instr.index 121 (.agg #[.bool (js 0), .bool (js 1), .bool (js 2), .bool (js 3), .bool (js 4), .bool (js 5), .bool (js 6), .bool (js 7)]) (.int .i64 1)).run Try.prog w = .ok (.bool (js 1)) w := by kernel_rfl
theorem index8_2 (js : Nat → Bool) (w : World) : (Instr.index 121 (.agg #[.bool (js 0), .bool (js 1), .bool (js 2), .bool (js 3), .bool (js 4), .bool (js 5), .bool (js 6), .bool (js 7)]) (.int .i64 2)).run Try.prog w = .ok (.bool (js 2)) w := by kernel_rfl
theorem index8_3 (js : Nat → Bool) (w : World) : (Instr.index 121 (.agg #[.bool (js 0), .bool (js 1), .bool (js 2), .bool (js 3), .bool (js 4), .bool (js 5), .bool (js 6), .bool (js 7)]) (.int .i64 3)).run Try.prog w = .ok (.bool (js 3)) w := by kernel_rfl
theorem index8_4 (js : Nat → Bool) (w : World) : (Instr.index 121 (.agg #[.bool (js 0), .bool (js 1), .bool (js 2), .bool (js 3), .bool (js 4), .bool (js 5), .bool (js 6), .bool (js 7)]) (.int .i64 4)).run Try.prog w = .ok (.bool (js 4)) w := by kernel_rfl
theorem index8_5 (js : Nat → Bool) (w : World) : (Instr.index 121 (.agg #[.bool (js 0), .bool (js 1), .bool (js 2), .bool (js 3), .bool (js 4), .bool (js 5), .bool (js 6), .bool (js 7)]) (.int .i64 5)).run Try.prog w = .ok (.bool (js 5)) w := by kernel_rfl
theorem index8_6 (js : Nat → Bool) (w : World) : (Instr.index 121 (.agg #[.bool (js 0), .bool (js 1), .bool (js 2), .bool (js 3), .bool (js 4), .bool (js 5), .bool (js 6), .bool (js 7)]) (.int .i64 6)).run Try.prog w = .ok (.bool (js 6)) w := by kernel_rfl
theorem index8_7 (js : Nat → Bool) (w : World) : (Instr.index 121 (.agg #[.bool (js 0), .bool (js 1), .bool (js 2), .bool (js 3), .bool (js 4), .bool (js 5), .bool (js 6), .bool (js 7)]) (.int .i64 7)).run Try.prog w = .ok (.bool (js 7)) w := by kernel_rfl
theorem index8 (js : Nat → Bool) (j : Nat) (hj : j < 8) (w : World) : (Instr.index 121 (.agg #[.bool (js 0), .bool (js 1), .bool (js 2), .bool (js 3), .bool (js 4), .bool (js 5), .bool (js 6), .bool (js 7)]) (.int .i64 (j : Int))).run Try.prog w = .ok (.bool (js j)) w := by
  match j, hj with
  | 0, _ => exact index8_0 js w
  | 1, _ => exact index8_1 js w
  | 2, _ => exact index8_2 js w
  | 3, _ => exact index8_3 js w
  | 4, _ => exact index8_4 js w
  | 5, _ => exact index8_5 js w
  | 6, _ => exact index8_6 js w
  | 7, _ => exact index8_7 js w
theorem SetB.cell {W : World} {g : Nat} {js : Nat → Bool} (h : SetB W g js) (j : Nat) (hj : j < 8) : W.cell? ⟨g, j, none⟩ = some (.bool (js j)) := by
  rw [cell_of_row W g j _ _ _ h]
  match j, hj with
  | 0, _ => rfl
  | 1, _ => rfl
  | 2, _ => rfl
  | 3, _ => rfl
  | 4, _ => rfl
  | 5, _ => rfl
  | 6, _ => rfl
  | 7, _ => rfl
theorem SetB.free {W : World} {g : Nat} {js : Nat → Bool} (h : SetB W g js) (j : Nat) : W.frozen? ⟨g, j, none⟩ = false := frozen_of_row W g j _ _ h
theorem SetB.set {W : World} {g : Nat} {js : Nat → Bool} (h : SetB W g js) (j : Nat) (hj : j < 8) : SetB (W.setCell ⟨g, j, none⟩ (.bool true)) g (fun i => if i = j then true else js i) := by
  have h1 := heap_setCell_same W g j _ _ (.bool true) h
  unfold SetB
  rw [h1]
  congr 2
  match j, hj with
  | 0, _ => rfl
  | 1, _ => rfl
  | 2, _ => rfl
  | 3, _ => rfl
  | 4, _ => rfl
  | 5, _ => rfl
  | 6, _ => rfl
  | 7, _ => rfl
theorem SetB.below {W W' : World} {g : Nat} {js : Nat → Bool} (h : SetB W g js) (hb : Below W.heap.size W W') : SetB W' g js := by
  have hlt : g < W.heap.size := (Array.getElem?_eq_some_iff.1 h).1
  exact (hb.block g hlt).trans h
/-- Is there a piece of fragment i that counts? -/
def hasB (r : Re) (up : Bool) (l : List Fd) (i : Nat) : Bool := l.any fun x => x.p.frag == (i : Int) && (!up || onB r x.drive)
theorem hasB_succ (r : Re) (up : Bool) (l : List Fd) (j : Nat) (h : j < l.length) (i : Nat) : hasB r up (l.take (j + 1)) i = (hasB r up (l.take j) i || (l[j].p.frag == (i : Int) && (!up || onB r l[j].drive))) := by
  unfold hasB
  rw [List.take_succ_eq_append_getElem h, List.any_append]
  simp
def outTo (r : Re) (up : Bool) (l : List Fd) (n : Int) (j : Nat) : List Int := (List.range j).filterMap fun i : Nat => if hasB r up l i = true ∧ (i : Int) < n then some (i : Int) else none
theorem outTo_succ (r : Re) (up : Bool) (l : List Fd) (n : Int) (j : Nat) : outTo r up l n (j + 1) = outTo r up l n j ++ (if hasB r up l j = true ∧ (j : Int) < n then [(j : Int)] else []) := by
  unfold outTo
  rw [List.range_succ, List.filterMap_append]
  congr 1
  by_cases h : hasB r up l j = true ∧ (j : Int) < n
  · simp [h]
  · rw [if_neg h]
    simp only [List.filterMap_cons, List.filterMap_nil]
    rw [if_neg h]
theorem outTo_yes {r : Re} {up : Bool} {l : List Fd} {n : Int} {j : Nat} (h : hasB r up l j = true) (h2 : (j : Int) < n) : outTo r up l n (j + 1) = outTo r up l n j ++ [(j : Int)] := by rw [outTo_succ, if_pos ⟨h, h2⟩]
theorem outTo_no {r : Re} {up : Bool} {l : List Fd} {n : Int} {j : Nat} (h : ¬ (hasB r up l j = true ∧ (j : Int) < n)) : outTo r up l n (j + 1) = outTo r up l n j := by rw [outTo_succ, if_neg h, List.append_nil]
theorem outTo_length {r : Re} {up : Bool} {l : List Fd} {n : Int} {j : Nat} : (outTo r up l n j).length ≤ j := by
  unfold outTo
  exact Nat.le_trans (List.length_filterMap_le _ _) (by simp)
theorem outTo_mem {r : Re} {up : Bool} {l : List Fd} {n : Int} {j : Nat} : ∀ x ∈ outTo r up l n j, 0 ≤ x ∧ x < j := by
  intro x hx
  simp only [outTo, List.mem_filterMap, List.mem_range] at hx
  obtain ⟨i, hi, he⟩ := hx
  by_cases h : hasB r up l i = true ∧ (i : Int) < n
  · rw [if_pos h] at he; simp at he; omega
  · rw [if_neg h] at he; cases he
theorem srcI_has (r : Re) (l : List Fd) (v f s : Int) (on : Bool) : 0 ≤ srcI r l v f s on ↔ l.any (srcB r v f s on) = true := by
  unfold srcI
  cases h : l.findIdx? (srcB r v f s on) with
  | none =>
    rw [List.findIdx?_eq_none_iff] at h
    constructor
    · intro h2; simp at h2
    · intro h2
      obtain ⟨x, hx, e⟩ := List.any_eq_true.1 h2
      rw [h x hx] at e; cases e
  | some i =>
    obtain ⟨hi, hb, -⟩ := List.findIdx?_eq_some_iff_getElem.1 h
    constructor
    · intro _; exact List.any_eq_true.2 ⟨l[i], List.getElem_mem hi, hb⟩
    · intro _; simp
theorem src_stripe (r : Re) (l : List Fd) (v s : Int) (on : Bool) (i : Nat) : l.any (srcB r v (i : Int) s on) = hasB r on (stripeP l v s) i := by
  unfold hasB stripeP
  rw [List.any_filter]
  congr 1
  funext x
  unfold srcB
  rw [isB_eq]
  cases (x.p.vol == v && x.p.stripe == s) <;> cases (x.p.frag == (i : Int)) <;> simp
theorem intTo_out (r : Re) (l : List Fd) (v s : Int) (on : Bool) (j : Nat) (n : Int) (hj : (j : Int) ≤ n) : intTo r l v s on j = outTo r on (stripeP l v s) n j := by
  induction j with
  | zero => rfl
  | succ j ih =>
    have h1 := srcI_has r l v (j : Int) s on
    rw [src_stripe] at h1
    rw [intTo_succ, outTo_succ, ih (by omega)]
    congr 1
    by_cases h : 0 ≤ srcI r l v (j : Int) s on
    · rw [if_pos h, if_pos ⟨h1.1 h, by omega⟩]
    · rw [if_neg h, if_neg (fun h2 => h (h1.2 h2.1))]
set_option maxRecDepth 100000 in
set_option maxHeartbeats 3200000 in
theorem intact_any (vp vo va vl : Value) (r : Re) (l : List Fd) (n : Int) (up : Bool) (w : World) (h : ReS w (Bl w.heap.size) vp vo va r) (hl : SlS 7 FdK w (Bl w.heap.size) vl l) (hfr : ∀ x ∈ l, 0 ≤ x.p.frag ∧ x.p.frag < 8) (hn : I64 n) :
    Calls Try.prog 23 #[.agg #[vp, vo, va], vl, .int .i64 n, .bool up] w fun e w' => ∃ u, e = .returned u ∧ OwnI w' w.heap.size u (outTo r up l n 8) ∧ Below w.heap.size w w' := by
  obtain ⟨Al, cl, rfl, -, hm⟩ := hl.form
  unfold maxLen at hm
  have HR := Lib.hid h
  have HL := Lib.hid hl
  have HFR := Lib.hid hfr
  obtain ⟨W0, hW0⟩ : ∃ W0, W0 = (w.alloc (.cells #[vp, vo, va] 27)).alloc (.cells #[.bool false, .bool false, .bool false, .bool false, .bool false, .bool false, .bool false, .bool false] 121) := ⟨_, rfl⟩
  obtain ⟨q, hq⟩ : ∃ q, q = w.heap.size := ⟨_, rfl⟩
  have c0 : W0.cell? ⟨q, 0, none⟩ = some vp := by rw [hW0, hq]; simp
  have c1 : W0.cell? ⟨q, 1, none⟩ = some vo := by rw [hW0, hq]; simp
  have c2 : W0.cell? ⟨q, 2, none⟩ = some va := by rw [hW0, hq]; simp
  have hb0 : Below w.heap.size w W0 := by rw [hW0]; exact ((Below.refl _ _).alloc (Nat.le_refl _) _).alloc (by simp) _
  have hs0 : SetB W0 (q + 1) (fun _ => false) := by rw [hW0, hq]; exact heap_alloc_at _ _ _ (by simp)
  have hq0 : W0.heap.size = q + 2 := by rw [hW0, hq]; simp
  have HQ := Lib.hid hq
  have HW0 := Lib.hid hW0
  have HB0 := Lib.hid hb0
  have HC := Lib.hid (⟨c0, c1, c2⟩ : _ ∧ _ ∧ _)
  have HS0 := Lib.hid hs0
  have HQ0 := Lib.hid hq0
  clear h hl hfr hW0 hq hb0 c0 c1 c2 hs0 hq0
  go_enter Try.func23, Try.ntmps23
  go_wp2_with fail
  rw [← HW0.out, ← HQ.out]
  go_loopg [17] l.length (fun z v17 wr => ∃ j : Nat, j ≤ l.length ∧ z = l.length - j ∧ v17 = .int .i64 (j : Int) ∧ Hid (SetB wr (q + 1) (hasB r up (l.take j))) ∧ Below (q + 1) W0 wr ∧ q + 2 ≤ wr.heap.size)
  case atStart => exact ⟨0, by omega, rfl, rfl, HS0.out, Below.refl _ _, by rw [HQ0.out]; exact Nat.le_refl _⟩
  case round =>
    obtain ⟨j, hj, rfl, rfl, HS, hbr, hsz⟩ := hrel
    have hqw : w.heap.size ≤ q + 1 := by rw [HQ.out]; omega
    have hbw := HB0.out.trans (hbr.mono hqw)
    by_cases hlt : j < l.length
    · -- L1{
      obtain ⟨b, off, cs, rfl, hRb, -, hcs, hfk, hdr⟩ := HL.out.at_ hlt
      obtain ⟨k0, k1, k2, k3, k4, k5, k6⟩ := seven hcs hfk
      have hnx := hasB_succ r up l j hlt
      have hfg := HFR.out _ (List.getElem_mem hlt)
      obtain ⟨x, hx⟩ : ∃ x, x = l[j] := ⟨_, rfl⟩
      rw [← hx] at k0 k1 k2 k3 k4 k5 k6 hdr hnx hfg
      have kk : ∀ i u, w.cell? ⟨b, i, none⟩ = some u → wr.cell? ⟨b, i, none⟩ = some u := fun i u e => (hbw.cell (p := ⟨b, i, none⟩) hRb).trans e
      obtain ⟨dr, ⟨pa, pb, pc, pg, pr, px⟩⟩ := x
      simp only at k0 k1 k2 k3 k4 k5 k6 hdr hfg hnx
      obtain ⟨fr, rfl⟩ : ∃ fr : Nat, pb = (fr : Int) := ⟨pb.toNat, by omega⟩
      have hfr8 : fr < 8 := by omega
      have m0 := kk _ _ k0
      have m1 := kk _ _ k1
      have m2 := kk _ _ k2
      have m3 := kk _ _ k3
      have m4 := kk _ _ k4
      have m5 := kk _ _ k5
      have m6 := kk _ _ k6
      obtain ⟨y, hy⟩ : ∃ y : ByteArray, y = ⟨px.toArray⟩ := ⟨_, rfl⟩
      rw [← hy] at m6
      obtain ⟨W3, hW3⟩ : ∃ W3, W3 = wr.alloc (.cells #[.int .i64 (dr : Int), .int .i64 pa, .int .i64 (fr : Int), .int .i64 pc, .int .i64 pg, .int .i64 pr, .string y] 84) := ⟨_, rfl⟩
      obtain ⟨g, hg⟩ : ∃ g, g = wr.heap.size := ⟨_, rfl⟩
      have n0 : W3.cell? ⟨g, 0, none⟩ = some (.int .i64 (dr : Int)) := by rw [hW3, hg]; simp
      have n2 : W3.cell? ⟨g, 2, none⟩ = some (.int .i64 (fr : Int)) := by rw [hW3, hg]; simp
      have hb3 : Below (q + 1) W0 W3 := by rw [hW3]; exact hbr.alloc (by omega) _
      have d0 := (hb3.cell (p := ⟨q, 0, none⟩) (show q < q + 1 by omega)).trans HC.out.1
      have d1 := (hb3.cell (p := ⟨q, 1, none⟩) (show q < q + 1 by omega)).trans HC.out.2.1
      have d2 := (hb3.cell (p := ⟨q, 2, none⟩) (show q < q + 1 by omega)).trans HC.out.2.2
      have hS3 : SetB W3 (q + 1) (hasB r up (l.take j)) := by rw [hW3]; exact HS.out.below ((Below.refl _ _).alloc (Nat.le_refl _) _)
      have hc3 := hS3.cell fr hfr8
      have hf3 := hS3.free fr
      have HST := Lib.hid (hS3.set fr hfr8)
      have hR3 : ReS W3 (Bl W3.heap.size) vp vo va r := HR.out.below (HB0.out.trans (hb3.mono hqw))
      have HON := Lib.hid (on_any vp vo va r dr W3 hR3 hdr)
      have hsz3 : q + 2 ≤ W3.heap.size := by rw [hW3]; simp; omega
      have HNX := Lib.hid hnx
      have HB3 := Lib.hid hb3
      have HS3 := Lib.hid hS3
      have HW3 := Lib.hid hW3
      have HG3 := Lib.hid hg
      have HONL := Lib.hid (online_any vp vo va r dr W3 hR3 hdr)
      clear k0 k1 k2 k3 k4 k5 k6 hcs hfk hx hnx hy kk cs hRb hb3 hS3 hW3 hg hR3 HON hfg
      have hyes : (!up || onB r dr) = true → ∀ i, (if i = fr then true else hasB r up (l.take j) i) = hasB r up (l.take (j + 1)) i := fun hb i => by
        rw [HNX.out i, hb]
        by_cases e : i = fr
        · rw [if_pos e, e]; simp
        · rw [if_neg e]
          have : ((fr : Int) == (i : Int)) = false := by rw [beq_eq_false_iff_ne]; omega
          rw [this]; simp
      have hno : (!up || onB r dr) = false → ∀ i, hasB r up (l.take j) i = hasB r up (l.take (j + 1)) i := fun hb i => by
        rw [HNX.out i, hb]; simp
      have HY := Lib.hid hyes
      have HNO := Lib.hid hno
      clear hyes hno
      cases up with
      | false =>
        have HF := Lib.hid (funext (HY.out rfl))
        -- V1{
        go_upto_region 5 with fail
        rw [← HW3.out, ← HG3.out]
        go_wp2_with fail
        go_roundg (l.length - (j + 1))
        case measure => omega
        case rel => exact ⟨j + 1, by omega, rfl, by go_num, by have h := HST.out; rw [HF.out] at h; exact h, HB3.out.setCell (by simp) _, by simpa using hsz3⟩
        -- }V1
      | true =>
        cases ho : onB r dr with
        | false =>
          have HF := Lib.hid (funext (HNO.out (by rw [ho]; rfl)))
          rw [ho] at HONL
          clear ho
          -- V2{
          go_upto_region 5 with fail
          rw [← HW3.out, ← HG3.out]
          go_wp2_with fail
          refine HONL.out.mono ?_
          rintro e w4 ⟨rfl, hb4⟩
          have hS4 := HS3.out.below hb4
          have hb5 := HB3.out.trans (hb4.mono (by omega))
          have hs4 := hb4.size
          have HS4 := Lib.hid hS4
          clear hS4
          go_wp2_with fail
          go_roundg (l.length - (j + 1))
          case measure => omega
          case rel => exact ⟨j + 1, by omega, rfl, by go_num, by have h := HS4.out; rw [HF.out] at h; exact h, hb5, by omega⟩
          -- }V2
        | true =>
          have HF := Lib.hid (funext (HY.out (by rw [ho]; rfl)))
          rw [ho] at HONL
          clear ho
          -- V3{
          go_upto_region 5 with fail
          rw [← HW3.out, ← HG3.out]
          go_wp2_with fail
          refine HONL.out.mono ?_
          rintro e w4 ⟨rfl, hb4⟩
          have hS4 := HS3.out.below hb4
          have hb5 := HB3.out.trans (hb4.mono (by omega))
          have hs4 := hb4.size
          have hg4 : g < W3.heap.size := by rw [HW3.out, HG3.out]; simp
          have p0 := (hb4.cell (p := ⟨g, 0, none⟩) hg4).trans n0
          have p2 := (hb4.cell (p := ⟨g, 2, none⟩) hg4).trans n2
          have hc4 := hS4.cell fr hfr8
          have hf4 := hS4.free fr
          have HST4 := Lib.hid (hS4.set fr hfr8)
          clear hS4
          go_wp2_with fail
          go_roundg (l.length - (j + 1))
          case measure => omega
          case rel => exact ⟨j + 1, by omega, rfl, by go_num, by have h := HST4.out; rw [HF.out] at h; exact h, hb5.setCell (by simp) _, by simpa using (by omega : q + 2 ≤ w4.heap.size)⟩
          -- }V3
      -- }L1
    · -- L2{
      have hS := HS.out
      rw [List.take_of_length_le (by omega)] at hS
      have s0 := hS.cell 0 (by omega)
      have s1 := hS.cell 1 (by omega)
      have s2 := hS.cell 2 (by omega)
      have s3 := hS.cell 3 (by omega)
      have s4 := hS.cell 4 (by omega)
      have s5 := hS.cell 5 (by omega)
      have s6 := hS.cell 6 (by omega)
      have s7 := hS.cell 7 (by omega)
      have hix := index8 (hasB r up l)
      have hoy := fun j h h2 => outTo_yes (r := r) (up := up) (l := l) (n := n) (j := j) h h2
      have hon := fun j h => outTo_no (r := r) (up := up) (l := l) (n := n) (j := j) h
      obtain ⟨js, hjs⟩ : ∃ js, js = hasB r up l := ⟨_, rfl⟩
      rw [← hjs] at s0 s1 s2 s3 s4 s5 s6 s7 hix
      have hjs2 : ∀ i, hasB r up l i = js i := fun i => by rw [hjs]
      have HOY := Lib.hid hoy
      have HON := Lib.hid hon
      have HJS := Lib.hid hjs2
      have HIX := Lib.hid hix
      have HBW := Lib.hid hbw
      have HB := Lib.hid hbr
      clear hS hoy hon hjs hjs2 hix HS hbw
      go_wp2_with fail
      obtain ⟨wo, rfl⟩ : ∃ wo : World, wo = wr := ⟨_, rfl⟩
      clear s0 s1 s2 s3 s4 s5 s6 s7
      go_loopg [12, 35] 8 (fun z v12 v35 wx => ∃ j : Nat, j ≤ 8 ∧ z = 8 - j ∧ v35 = .int .i64 (j : Int) ∧ OwnI wx wo.heap.size v12 (outTo r up l n j) ∧ Below wo.heap.size wo wx)
      case atStart => exact ⟨0, by omega, rfl, rfl, OwnI.nil _ _, Below.refl _ _⟩
      case round =>
        obtain ⟨j2, hj2, rfl, rfl, hO, hbx⟩ := hrel
        have hszx := hbx.size
        by_cases hlt2 : j2 < 8
        · have hix2 := HIX.out j2 hlt2
          have hlen : (outTo r up l n j2).length + 1 ≤ 16777216 := by have := outTo_length (r := r) (up := up) (l := l) (n := n) (j := j2); omega
          have hy2 := HOY.out j2
          have hn2 := HON.out j2
          obtain ⟨xs, hxs⟩ : ∃ xs, xs = outTo r up l n j2 := ⟨_, rfl⟩
          rw [← hxs] at hO hlen hy2 hn2
          rw [HJS.out j2] at hy2 hn2
          have HY2 := Lib.hid hy2
          have HN2 := Lib.hid hn2
          obtain ⟨A3, c3, rfl⟩ := hO.form
          have HO := Lib.hid hO
          obtain ⟨bj, hbj⟩ : ∃ bj, bj = js j2 := ⟨_, rfl⟩
          rw [← hbj] at hix2 HY2 HN2
          clear hy2 hn2 hxs hO hbj
          cases bj with
          | false =>
            have HE := Lib.hid (HN2.out (fun h => by cases h.1))
            go_wp2_with fail
            go_roundg (8 - (j2 + 1))
            case measure => omega
            case rel => exact ⟨j2 + 1, by omega, rfl, by go_num, by rw [HE.out]; exact HO.out, hbx⟩
          | true =>
            by_cases hjn : (j2 : Int) < n
            · have HE := Lib.hid (HY2.out rfl hjn)
              have hO3 : wr.ownsRow wo.heap.size 3 1 (.slice A3 xs.length c3) xs.length (xs.map (Value.int .i64)) := HO.out
              go_wp2_with (at_builtin; refine app_i (j2 : Int) (.tmp 45) (.tmp 47) rfl rfl wo.heap.size _ xs.length xs rfl (by rfl) hO3 (by rfl) hlen hszx ?_; intro v' w5 hown' hg hat)
              go_roundg (8 - (j2 + 1))
              case measure => omega
              case rel => exact ⟨j2 + 1, by omega, rfl, by go_num, by rw [HE.out]; exact hown', hbx.grown hg hszx (fun b h => (HO.out.lt b h).1)⟩
            · have HE := Lib.hid (HN2.out (fun h => hjn h.2))
              go_wp2_with fail
              go_roundg (8 - (j2 + 1))
              case measure => omega
              case rel => exact ⟨j2 + 1, by omega, rfl, by go_num, by rw [HE.out]; exact HO.out, hbx⟩
        · obtain rfl : j2 = 8 := by omega
          have HO := Lib.hid hO
          have hbz := HBW.out.trans (hbx.mono HBW.out.size)
          clear hO
          go_wp2_with fail
          go_ret
          exact ⟨_, rfl, HO.out.base HBW.out.size, hbz⟩
      -- }L2
end Go.Proofs.Ytflembddbbkojaa

namespace Go.Proofs.Ytflembddbbkojaa
open Go.RowKit
set_option linter.unusedVariables false
set_option linter.unusedSimpArgs false
set_option maxRecDepth 100000 in
set_option maxHeartbeats 1600000 in
theorem Intact_any (vp vo va : Value) (r : Re) (v s : Int) (up : Bool) (w : World) (h : ReS w (Bl w.heap.size) vp vo va r) (hp : r.plat.length ≤ 1000) (hl : ∀ l ∈ r.plat, l.length ≤ 1000) (hac : r.acks.length ≤ 1000000) (hv : I64 v) (hs : I64 s) :
    Calls Try.prog 11 #[.agg #[vp, vo, va], .int .i64 v, .int .i64 s, .bool up] w fun e w' => ∃ u, e = .returned u ∧ OwnI w' w.heap.size u (intI r v s up) ∧ Below w.heap.size w w' := by
  have HR := Lib.hid h
  have HIX := Lib.hid (fun w1 h1 => index_any vp vo va r w1 h1 hp hl hac)
  have hpa := piecesTo_all r r.plat.length
  have hpd := pieces_drive r (by omega)
  have heq : outTo r up (stripeP (pieces r) v s) 8 8 = intI r v s up := (intTo_out r (pieces r) v s up 8 8 (by omega)).symm
  have hsd : ∀ x ∈ stripeP (pieces r) v s, x.drive ≤ 1048576 := fun x hx => hpd x (List.mem_filter.1 hx).1
  have hfr : ∀ x ∈ stripeP (pieces r) v s, 0 ≤ x.p.frag ∧ x.p.frag < 8 := fun x hx => by
    have h1 := validP_iff.1 (hpa x (List.mem_filter.1 hx).1).1
    exact ⟨h1.2.2.1, h1.2.2.2.1⟩
  obtain ⟨l, hpl⟩ : ∃ l, l = stripeP (pieces r) v s := ⟨_, rfl⟩
  rw [← hpl] at heq hsd hfr
  have HPA := Lib.hid hpa
  have HPL := Lib.hid hpl
  have HEQ := Lib.hid heq
  have HSD := Lib.hid hsd
  have HFR := Lib.hid hfr
  obtain ⟨W0, hW0⟩ : ∃ W0, W0 = w.alloc (.cells #[vp, vo, va] 27) := ⟨_, rfl⟩
  obtain ⟨q, hq⟩ : ∃ q, q = w.heap.size := ⟨_, rfl⟩
  have c0 : W0.cell? ⟨q, 0, none⟩ = some vp := by rw [hW0, hq]; simp
  have c1 : W0.cell? ⟨q, 1, none⟩ = some vo := by rw [hW0, hq]; simp
  have c2 : W0.cell? ⟨q, 2, none⟩ = some va := by rw [hW0, hq]; simp
  have hb0 : Below w.heap.size w W0 := by rw [hW0]; exact (Below.refl _ _).alloc (Nat.le_refl _) _
  have hq0 : q < W0.heap.size := by rw [hW0, hq]; simp
  have HQ := Lib.hid hq
  have HW0 := Lib.hid hW0
  have HB0 := Lib.hid hb0
  have HS0 := Lib.hid (⟨c0, c1, c2, (Below.refl _ _).drew⟩ : HeldR W0 q vp vo va W0.drew)
  clear h hp hl hac hpa hpd heq hpl hsd hfr hW0 hq hb0 c0 c1 c2
  go_enter Try.func11, Try.ntmps11
  go_upto_region 1 with fail
  rw [← HW0.out, ← HQ.out]
  refine wp_region_held_drew (S := (fun w' => w'.cell? ⟨q, 0, none⟩ = some vp ∧ w'.cell? ⟨q, 1, none⟩ = some vo ∧ w'.cell? ⟨q, 2, none⟩ = some va ∧ Below W0.heap.size W0 w')) (by kernel_rfl) HS0.out (fun hHeld => ?_)
  refine takeD (i := 0) (d := 9) (v := ?_) rfl rfl (by kernel_rfl) (by kernel_rfl) (by kernel_rfl) (fun _ _ _ h => h) (Or.inl ⟨by rfl, ?_⟩) (by assumption) ?_
  rotate_left
  · (intro w hSw; (try dsimp only at hSw); go_simp; first | done | with_reducible rfl)
  (try simp only [Act.put, List.setIfInBounds_toArray, List.set_cons_zero, List.set_cons_succ])
  refine takeD (i := 1) (d := 10) (v := ?_) rfl rfl (by kernel_rfl) (by kernel_rfl) (by kernel_rfl) (fun _ _ _ h => h) (Or.inl ⟨by rfl, ?_⟩) (by assumption) ?_
  rotate_left
  · (intro w hSw; (try dsimp only at hSw); go_simp; first | done | with_reducible rfl)
  (try simp only [Act.put, List.setIfInBounds_toArray, List.set_cons_zero, List.set_cons_succ])
  refine takeD (i := 3) (d := 12) (v := ?_) rfl rfl (by kernel_rfl) (by kernel_rfl) (by kernel_rfl) (fun _ _ _ h => h) (Or.inl ⟨by rfl, ?_⟩) (by assumption) ?_
  rotate_left
  · (intro w hSw; (try dsimp only at hSw); go_simp; first | done | with_reducible rfl)
  (try simp only [Act.put, List.setIfInBounds_toArray, List.set_cons_zero, List.set_cons_succ])
  refine takeD (i := 4) (d := 13) (v := ?_) rfl rfl (by kernel_rfl) (by kernel_rfl) (by kernel_rfl) (fun _ _ _ h => h) (Or.inl ⟨by rfl, ?_⟩) (by assumption) ?_
  rotate_left
  · (intro w hSw; (try dsimp only at hSw); go_simp; first | done | with_reducible rfl)
  (try simp only [Act.put, List.setIfInBounds_toArray, List.set_cons_zero, List.set_cons_succ])
  refine takeD (i := 5) (d := 14) (v := ?_) rfl rfl (by kernel_rfl) (by kernel_rfl) (by kernel_rfl) (fun _ _ _ h => h) (Or.inl ⟨by rfl, ?_⟩) (by assumption) ?_
  rotate_left
  · (intro w hSw; (try dsimp only at hSw); go_simp; first | done | with_reducible rfl)
  (try simp only [Act.put, List.setIfInBounds_toArray, List.set_cons_zero, List.set_cons_succ])
  refine takeD (i := 7) (d := 16) (v := ?_) rfl rfl (by kernel_rfl) (by kernel_rfl) (by kernel_rfl) (fun _ _ _ h => h) (Or.inl ⟨by rfl, ?_⟩) (by assumption) ?_
  rotate_left
  · (intro w hSw; (try dsimp only at hSw); go_simp; first | done | with_reducible rfl)
  (try simp only [Act.put, List.setIfInBounds_toArray, List.set_cons_zero, List.set_cons_succ])
  refine wpAnyH_ready (rs := [2]) (by kernel_rfl) (by simp) ?_
  refine AllReadyH.cons rfl (fun K hK => ?_) ?_
  · go_simp
    (go_at_call 19; refine (HIX.out _ (HeldR.re (by assumption) HR.out HB0.out)).mono ?_; rintro e w2 ⟨b, n, fm, rfl, hbb, hM, hG, hb2⟩)
    go_wp2_with fail
    have hown := hG.at_ (fun x hx => (HPA.out x hx).2) hv hs
    have hlk := hM.look key_two Try.underlying79 (zero_fds w2) hv hs
    rw [show stripeP (pieces r) v s = l from HPL.out.symm] at hown
    obtain ⟨A, c, hfm⟩ := own_form hown
    rw [hfm] at hown hlk
    unfold kv at hlk
    have HL2 := Lib.hid (OwnFd.slBl hown HSD.out)
    clear hM hG hown hfm
    refine hK.out _ _ ?_ (fun hHeld => ?_)
    · (first | assumption | exact HeldR.below (by assumption) hb2 hq0 | exact HeldR.below (by assumption) hb3 hq0)
    clear hK K
    (try simp only [Act.put, List.setIfInBounds_toArray, List.set_cons_zero, List.set_cons_succ])
    refine wpAnyH_ready (rs := [6]) (by kernel_rfl) (by simp) ?_
    refine AllReadyH.cons rfl (fun K hK => ?_) ?_
    · go_simp
      refine hK.out _ _ ?_ (fun hHeld => ?_)
      · (first | assumption | exact HeldR.below (by assumption) hb2 hq0 | exact HeldR.below (by assumption) hb3 hq0)
      clear hK K
      (try simp only [Act.put, List.setIfInBounds_toArray, List.set_cons_zero, List.set_cons_succ])
      refine wpAnyH_ready (rs := [8]) (by kernel_rfl) (by simp) ?_
      refine AllReadyH.cons rfl (fun K hK => ?_) ?_
      · go_simp
        (go_at_call 23; refine (intact_any vp vo va (.slice A l.length c) r l 8 up _ (HeldR.re (by assumption) HR.out HB0.out) HL2.out HFR.out (by unfold I64; omega)).mono ?_; rintro e w3 ⟨u3, rfl, hO3, hb3⟩)
        go_wp2_with fail
        refine hK.out _ _ ?_ (fun hHeld => ?_)
        · (first | assumption | exact HeldR.below (by assumption) hb2 hq0 | exact HeldR.below (by assumption) hb3 hq0)
        clear hK K
        (try simp only [Act.put, List.setIfInBounds_toArray, List.set_cons_zero, List.set_cons_succ])
        refine takeD (i := 9) (d := 8) (v := ?_) rfl rfl (by kernel_rfl) (by kernel_rfl) (by kernel_rfl) (fun _ _ _ h => h) (Or.inl ⟨by rfl, ?_⟩) (by assumption) ?_
        rotate_left
        · (intro w hSw; (try dsimp only at hSw); go_simp; first | done | with_reducible rfl)
        (try simp only [Act.put, List.setIfInBounds_toArray, List.set_cons_zero, List.set_cons_succ])
        refine wpAnyH_done (by kernel_rfl) ?_ _
        have hbz := HeldR.bl (q := q) (by assumption)
        have hbz2 := HB0.out.trans (hbz.mono HB0.out.size)
        have hbl := HeldR.bl (W0 := W0) (q := q) (wc := w2) (by assumption)
        go_wp2_with fail
        go_ret
        refine ⟨_, rfl, ?_, hbz2⟩
        have h1 := hO3
        rw [HEQ.out] at h1
        exact h1.base (Nat.le_trans HB0.out.size hbl.size)
      exact AllReadyH.nil
    exact AllReadyH.nil
  exact AllReadyH.nil
end Go.Proofs.Ytflembddbbkojaa

namespace Go.Proofs.Ytflembddbbkojaa
open Go.RowKit
set_option linter.unusedVariables false
set_option linter.unusedSimpArgs false
def awP : Pc := ⟨1, 2, 0, 9, 5, [48, 49, 50, 51, 52, 53, 54, 55, 56, 57, 97, 98, 99, 100, 101, 102]⟩
def awR (s : ByteArray) : Re := ⟨[[], [s]], [false, false], [⟨1, 0, 5, 0⟩]⟩
theorem aw_valid : validP awP = true := by decide
theorem aw_len : (encB awP).length = 36 := by kernel_rfl
theorem aw_good1 : goodI (awR ⟨(encB awP).toArray⟩) 1 2 0 = [1] := by kernel_rfl
theorem aw_good2 : goodI (awR ⟨(encB awP).toArray⟩) 1 1 0 = [] := by kernel_rfl
theorem aw_int1 : intI (awR ⟨(encB awP).toArray⟩) 1 0 false = [2] := by kernel_rfl
theorem aw_int2 : intI (awR ⟨(encB awP).toArray⟩) 1 0 true = [] := by kernel_rfl
theorem aw_one {α : Type} {x y : α} {k : Nat} (h : [x][k]? = some y) : k = 0 ∧ y = x := by
  match k with
  | 0 => simp at h; exact ⟨rfl, h.symm⟩
  | k + 1 => simp at h
theorem aw_two {α : Type} {x1 x2 y : α} {k : Nat} (h : [x1, x2][k]? = some y) : (k = 0 ∧ y = x1) ∨ (k = 1 ∧ y = x2) := by
  match k with
  | 0 => simp at h; exact .inl ⟨rfl, h.symm⟩
  | 1 => simp at h; exact .inr ⟨rfl, h.symm⟩
  | k + 2 => simp at h
theorem aw_four {α : Type} {x1 x2 x3 x4 y : α} {k : Nat} (h : [x1, x2, x3, x4][k]? = some y) : (k = 0 ∧ y = x1) ∨ (k = 1 ∧ y = x2) ∨ (k = 2 ∧ y = x3) ∨ (k = 3 ∧ y = x4) := by
  match k with
  | 0 => simp at h; exact .inl ⟨rfl, h.symm⟩
  | 1 => simp at h; exact .inr (.inl ⟨rfl, h.symm⟩)
  | 2 => simp at h; exact .inr (.inr (.inl ⟨rfl, h.symm⟩))
  | 3 => simp at h; exact .inr (.inr (.inr ⟨rfl, h.symm⟩))
  | k + 4 => simp at h
theorem aw_re (W : World) (s : ByteArray) (n1 n2 n3 n4 : Nat) (hs : s.size = 36) (h1 : W.cell? ⟨n1, 0, none⟩ = some (.string s)) (h20 : W.cell? ⟨n2, 0, none⟩ = some (.slice none 0 0)) (h21 : W.cell? ⟨n2, 1, none⟩ = some (.slice (some ⟨n1, 0, none⟩) 1 1))
    (h30 : W.cell? ⟨n3, 0, none⟩ = some (.bool false)) (h31 : W.cell? ⟨n3, 1, none⟩ = some (.bool false)) (h40 : W.cell? ⟨n4, 0, none⟩ = some (.int .i64 1)) (h41 : W.cell? ⟨n4, 1, none⟩ = some (.int .i64 0)) (h42 : W.cell? ⟨n4, 2, none⟩ = some (.int .i64 5)) (h43 : W.cell? ⟨n4, 3, none⟩ = some (.int .i64 0)) :
    ReS W (Bl W.heap.size) (.slice (some ⟨n2, 0, none⟩) 2 2) (.slice (some ⟨n3, 0, none⟩) 2 2) (.slice (some ⟨n4, 0, none⟩) 1 1) (awR s) := by
  refine ⟨⟨_, 2, rfl, Nat.le_refl _, by unfold maxLen; simp [awR], fun _ => ⟨n2, 0, rfl, block_lt_of_cell h20, fun k a hk => ?_⟩⟩, ⟨_, 2, rfl, Nat.le_refl _, by unfold maxLen; simp [awR], fun _ => ⟨n3, 0, rfl, block_lt_of_cell h30, fun k a hk => ?_⟩⟩, ⟨_, 1, rfl, Nat.le_refl _, by unfold maxLen; simp [awR], fun _ => ⟨n4, 0, rfl, block_lt_of_cell h40, fun k a hk => ?_⟩⟩⟩
  · rcases aw_two hk with ⟨rfl, rfl⟩ | ⟨rfl, rfl⟩
    · exact ⟨[_], rfl, fun i c hc => by obtain ⟨rfl, rfl⟩ := aw_one hc; exact h20, _, rfl, Row.nil _ _ _⟩
    · refine ⟨[_], rfl, fun i c hc => by obtain ⟨rfl, rfl⟩ := aw_one hc; exact h21, _, rfl, _, 1, rfl, Nat.le_refl _, by unfold maxLen; simp, fun _ => ⟨n1, 0, rfl, block_lt_of_cell h1, fun k a hk => ?_⟩⟩
      obtain ⟨rfl, rfl⟩ := aw_one hk
      exact ⟨[_], rfl, fun i c hc => by obtain ⟨rfl, rfl⟩ := aw_one hc; exact h1, rfl, by rw [hs]; unfold maxLen; decide⟩
  · rcases aw_two hk with ⟨rfl, rfl⟩ | ⟨rfl, rfl⟩
    · exact ⟨[_], rfl, fun i c hc => by obtain ⟨rfl, rfl⟩ := aw_one hc; exact h30, rfl⟩
    · exact ⟨[_], rfl, fun i c hc => by obtain ⟨rfl, rfl⟩ := aw_one hc; exact h31, rfl⟩
  · obtain ⟨rfl, rfl⟩ := aw_one hk
    refine ⟨[_, _, _, _], rfl, fun i c hc => ?_, rfl, by unfold I64; decide, by unfold I64; decide, by unfold I64; decide, by unfold I64; decide⟩
    rcases aw_four hc with ⟨rfl, rfl⟩ | ⟨rfl, rfl⟩ | ⟨rfl, rfl⟩ | ⟨rfl, rfl⟩
    · exact h40
    · exact h41
    · exact h42
    · exact h43
theorem aw_new (w : World) (cs : Array Value) (t : TypeId) (b i : Nat) (h : b = w.heap.size) : (w.alloc (.cells cs t)).cell? ⟨b, i, none⟩ = cs[i]? := by
  subst h
  exact cell_of_row _ _ _ _ _ _ (heap_alloc_new w (.cells cs t))
theorem aw_old (w : World) (o : Obj) (b i : Nat) (h : b < w.heap.size) : (w.alloc o).cell? ⟨b, i, none⟩ = w.cell? ⟨b, i, none⟩ := World.cell?_of_block (w := w) (Below.heap_alloc w o b h)
theorem aw_lit {w : World} {g : Nat} {x : Int} (h : w.cell? ⟨g, 0, none⟩ = some (.int .i64 x)) (hx : I64 x) : IntS w (Bl w.heap.size) (.slice (some ⟨g, 0, none⟩) 1 1) [x] :=
  ⟨⟨_, 1, rfl, Nat.le_refl _, by unfold maxLen; simp, fun _ => ⟨g, 0, rfl, block_lt_of_cell h, fun k a hk => by obtain ⟨rfl, rfl⟩ := aw_one hk; exact h⟩⟩, fun y hy => by rw [List.mem_singleton.1 hy]; exact hx⟩
set_option maxRecDepth 100000 in
set_option maxHeartbeats 1600000 in
theorem awake_any (w : World) : Calls Try.prog 5 #[] w fun e w' => e = .returned (.bool true) ∧ Below w.heap.size w w' := by
  have henc := fun w => refsenc_any awP w (by unfold PcI I64 maxLen; decide) (by decide)
  rw [show encS awP = encB awP by unfold encS; rw [if_pos aw_valid], show encE awP = 0 by unfold encE; rw [if_pos aw_valid]] at henc
  have hsz : (⟨(encB awP).toArray⟩ : ByteArray).size = 36 := by rw [size_of]; exact aw_len
  have hg1 := aw_good1
  have hg2 := aw_good2
  have hi1 := aw_int1
  have hi2 := aw_int2
  obtain ⟨X, hX⟩ : ∃ X : ByteArray, X = ⟨(encB awP).toArray⟩ := ⟨_, rfl⟩
  rw [← hX] at henc hsz hg1 hg2 hi1 hi2
  have HEN := Lib.hid henc
  have HSZ := Lib.hid hsz
  have HG1 := Lib.hid hg1
  have HG2 := Lib.hid hg2
  have HI1 := Lib.hid hi1
  have HI2 := Lib.hid hi2
  clear henc hsz hg1 hg2 hi1 hi2 hX
  go_enter Try.func5, Try.ntmps5
  go_wp2_with fail
  refine (HEN.out _).mono ?_
  rintro e w1 ⟨rfl, hb1⟩
  go_wp2_with fail
  obtain ⟨n, hn⟩ : ∃ n, n = w1.heap.size := ⟨_, rfl⟩
  rw [← hn]
  obtain ⟨W, hW⟩ : ∃ W, W = (((((w1.alloc (.cells #[.string X] 9)).alloc (.cells #[.slice none 0 0, .slice (some ⟨n, 0, none⟩) 1 1] 46)).alloc (.cells #[.bool false, .bool false] 4)).alloc (.cells #[.int .i64 1, .int .i64 0, .int .i64 5, .int .i64 0] 53)).alloc (.cells #[.slice (some ⟨n + 1, 0, none⟩) 2 2, .slice (some ⟨n + 1 + 1, 0, none⟩) 2 2, .slice (some ⟨n + 1 + 1 + 1, 0, none⟩) 1 1] 27)) := ⟨_, rfl⟩
  rw [← hW]
  have hre := aw_re W X n (n + 1) (n + 1 + 1) (n + 1 + 1 + 1) HSZ.out (by rw [hW, hn]; rw [aw_old _ _ _ _ (by first | (simp; done) | (simp; omega)), aw_old _ _ _ _ (by first | (simp; done) | (simp; omega)), aw_old _ _ _ _ (by first | (simp; done) | (simp; omega)), aw_old _ _ _ _ (by first | (simp; done) | (simp; omega)), aw_new _ _ _ _ _ (by simp)]; rfl) (by rw [hW, hn]; rw [aw_old _ _ _ _ (by first | (simp; done) | (simp; omega)), aw_old _ _ _ _ (by first | (simp; done) | (simp; omega)), aw_old _ _ _ _ (by first | (simp; done) | (simp; omega)), aw_new _ _ _ _ _ (by simp)]; rfl) (by rw [hW, hn]; rw [aw_old _ _ _ _ (by first | (simp; done) | (simp; omega)), aw_old _ _ _ _ (by first | (simp; done) | (simp; omega)), aw_old _ _ _ _ (by first | (simp; done) | (simp; omega)), aw_new _ _ _ _ _ (by simp)]; rfl) (by rw [hW, hn]; rw [aw_old _ _ _ _ (by first | (simp; done) | (simp; omega)), aw_old _ _ _ _ (by first | (simp; done) | (simp; omega)), aw_new _ _ _ _ _ (by simp)]; rfl) (by rw [hW, hn]; rw [aw_old _ _ _ _ (by first | (simp; done) | (simp; omega)), aw_old _ _ _ _ (by first | (simp; done) | (simp; omega)), aw_new _ _ _ _ _ (by simp)]; rfl) (by rw [hW, hn]; rw [aw_old _ _ _ _ (by first | (simp; done) | (simp; omega)), aw_new _ _ _ _ _ (by simp)]; rfl) (by rw [hW, hn]; rw [aw_old _ _ _ _ (by first | (simp; done) | (simp; omega)), aw_new _ _ _ _ _ (by simp)]; rfl) (by rw [hW, hn]; rw [aw_old _ _ _ _ (by first | (simp; done) | (simp; omega)), aw_new _ _ _ _ _ (by simp)]; rfl) (by rw [hW, hn]; rw [aw_old _ _ _ _ (by first | (simp; done) | (simp; omega)), aw_new _ _ _ _ _ (by simp)]; rfl)
  have hbW : Below w1.heap.size w1 W := by rw [hW]; exact (((((Below.refl _ _).alloc (Nat.le_refl _) _).alloc (by simp) _).alloc (by simp; omega) _).alloc (by simp; omega) _).alloc (by simp; omega) _
  obtain ⟨q, hq⟩ : ∃ q, q = n + 1 + 1 + 1 + 1 := ⟨_, rfl⟩
  rw [← hq]
  have c0 : W.cell? ⟨q, 0, none⟩ = some (.slice (some ⟨n + 1, 0, none⟩) 2 2) := by rw [hW, hq, hn]; rw [aw_new _ _ _ _ _ (by simp)]; rfl
  have c1 : W.cell? ⟨q, 1, none⟩ = some (.slice (some ⟨n + 1 + 1, 0, none⟩) 2 2) := by rw [hW, hq, hn]; rw [aw_new _ _ _ _ _ (by simp)]; rfl
  have c2 : W.cell? ⟨q, 2, none⟩ = some (.slice (some ⟨n + 1 + 1 + 1, 0, none⟩) 1 1) := by rw [hW, hq, hn]; rw [aw_new _ _ _ _ _ (by simp)]; rfl
  obtain ⟨v1, hv1⟩ : ∃ v, v = Value.slice (some ⟨n + 1, 0, none⟩) 2 2 := ⟨_, rfl⟩
  obtain ⟨v2, hv2⟩ : ∃ v, v = Value.slice (some ⟨n + 1 + 1, 0, none⟩) 2 2 := ⟨_, rfl⟩
  obtain ⟨v3, hv3⟩ : ∃ v, v = Value.slice (some ⟨n + 1 + 1 + 1, 0, none⟩) 1 1 := ⟨_, rfl⟩
  have hs1 := block_lt_of_cell c0
  have HH := Lib.hid (show HeldR W q _ _ _ W from ⟨c0, c1, c2, Below.refl _ _⟩)
  rw [← hv1, ← hv2, ← hv3] at hre HH ⊢
  rw [← hv1] at c0
  rw [← hv2] at c1
  rw [← hv3] at c2
  have HRE := Lib.hid hre
  have HB := Lib.hid (hb1.trans (hbW.mono hb1.size))
  have HQ := Lib.hid hs1
  clear hW hbW hb1 hn hq hv1 hv2 hv3 hre hs1
  refine (good_any v1 v2 v3 (awR X) 1 2 0 W HRE.out (by simp [awR]) (by simp [awR]) (by simp [awR]) (by unfold I64; decide) (by unfold I64; decide)).mono ?_
  rintro e w2 ⟨u, rfl, hO, hb2⟩
  have HH2 := Lib.hid (HH.out.below hb2 HQ.out)
  rw [HG1.out] at hO
  have hx2 := hO.intS (by simp [I64])
  obtain ⟨A2, c2', rfl⟩ := hO.form
  have HX2 := Lib.hid hx2
  clear hO hx2 hb2 c0 c1 c2
  obtain ⟨W2, hW2⟩ : ∃ x, x = w2.alloc (.cells #[.int .i64 1] 3) := ⟨_, rfl⟩
  have hl2 := aw_lit (w := W2) (g := w2.heap.size) (x := 1) (by rw [hW2]; simp) (by unfold I64; decide)
  have hk2 : Below w2.heap.size w2 W2 := by rw [hW2]; exact (Below.refl _ _).alloc (Nat.le_refl _) _
  have hx2' := HX2.out.keep (w' := W2) (fun b hb => hk2.block b hb.2)
  have HSI := Lib.hid (sameints_any _ _ _ _ _ W2 hx2' hl2)
  have HH3 := Lib.hid (HH2.out.below hk2 HQ.out)
  clear hl2 hk2 hx2'
  go_wp2_with fail
  rw [← hW2]
  clear hW2
  refine HSI.out.mono ?_
  rintro e w3 ⟨rfl, k, rfl⟩
  have HH4 := Lib.hid (HH3.out.below (Below.drewN' (Below.refl _ _) k) HQ.out)
  obtain ⟨W4, hW4⟩ : ∃ x, x = W2.drewN k := ⟨_, rfl⟩
  rw [← hW4] at HH4 ⊢
  clear hW4
  obtain ⟨d0, d1, d2, hb4⟩ := HH4.out
  have HRE4 := Lib.hid (HRE.out.below hb4)
  clear hb4
  go_wp2_with fail
  refine (Intact_any v1 v2 v3 (awR X) 1 0 false W4 HRE4.out (by simp [awR]) (by simp [awR]) (by simp [awR]) (by unfold I64; decide) (by unfold I64; decide)).mono ?_
  rintro e w5 ⟨u, rfl, hO, hb5⟩
  have HH5 := Lib.hid (HH4.out.below hb5 HQ.out)
  rw [HI1.out] at hO
  have hx5 := hO.intS (by simp [I64])
  obtain ⟨A5, c5', rfl⟩ := hO.form
  have HX5 := Lib.hid hx5
  clear hO hx5 hb5 d0 d1 d2
  obtain ⟨W5, hW5⟩ : ∃ x, x = w5.alloc (.cells #[.int .i64 2] 3) := ⟨_, rfl⟩
  have hl2 := aw_lit (w := W5) (g := w5.heap.size) (x := 2) (by rw [hW5]; simp) (by unfold I64; decide)
  have hk2 : Below w5.heap.size w5 W5 := by rw [hW5]; exact (Below.refl _ _).alloc (Nat.le_refl _) _
  have hx2' := HX5.out.keep (w' := W5) (fun b hb => hk2.block b hb.2)
  have HSI2 := Lib.hid (sameints_any _ _ _ _ _ W5 hx2' hl2)
  have HH6 := Lib.hid (HH5.out.below hk2 HQ.out)
  clear hl2 hk2 hx2'
  go_wp2_with fail
  rw [← hW5]
  clear hW5
  refine HSI2.out.mono ?_
  rintro e w6 ⟨rfl, k6, rfl⟩
  have HH7 := Lib.hid (HH6.out.below (Below.drewN' (Below.refl _ _) k6) HQ.out)
  obtain ⟨W7, hW7⟩ : ∃ x, x = W5.drewN k6 := ⟨_, rfl⟩
  rw [← hW7] at HH7 ⊢
  clear hW7
  obtain ⟨d0, d1, d2, hb7⟩ := HH7.out
  have HRE7 := Lib.hid (HRE.out.below hb7)
  clear hb7
  go_wp2_with fail
  refine (Intact_any v1 v2 v3 (awR X) 1 0 true W7 HRE7.out (by simp [awR]) (by simp [awR]) (by simp [awR]) (by unfold I64; decide) (by unfold I64; decide)).mono ?_
  rintro e w8 ⟨u, rfl, hO, hb8⟩
  have HH8 := Lib.hid (HH7.out.below hb8 HQ.out)
  rw [HI2.out] at hO
  obtain ⟨A8, c8', rfl⟩ := hO.form
  clear hO hb8 d0 d1 d2
  obtain ⟨d0, d1, d2, hb8⟩ := HH8.out
  have HRE8 := Lib.hid (HRE.out.below hb8)
  clear hb8
  go_wp2_with fail
  refine (good_any v1 v2 v3 (awR X) 1 1 0 w8 HRE8.out (by simp [awR]) (by simp [awR]) (by simp [awR]) (by unfold I64; decide) (by unfold I64; decide)).mono ?_
  rintro e w9 ⟨u, rfl, hO, hb9⟩
  rw [HG2.out] at hO
  obtain ⟨A9, c9', rfl⟩ := hO.form
  have HB9 := Lib.hid (HH8.out.bl.trans (hb9.mono HH8.out.bl.size))
  clear hO hb9 d0 d1 d2
  go_wp2_with fail
  go_ret
  exact ⟨rfl, HB.out.trans (HB9.out.mono HB.out.size)⟩
end Go.Proofs.Ytflembddbbkojaa
