/- The names of a made fleet are names, and differ. -/
import Derived.Test.YtmehadfhcdpfcaaGreatMc12
import Derived.Test.YtmehadfhcdpfcaaGreatMc19
namespace Go.Proofs.YtmehadfhcdpfcaaGreat
open Go.RowKit
set_option linter.unusedVariables false
set_option linter.unusedSimpArgs false
theorem nameL_inj {c c' : UInt8} {i j : Nat} (hi : i < 676) (hj : j < 676) (h : (⟨(nameL c i).toArray⟩ : ByteArray) = ⟨(nameL c' j).toArray⟩) : c = c' ∧ i = j := by
 have h1 : nameL c i = nameL c' j := by
  have := congrArg (fun b : ByteArray => b.data.toList) h
  simpa using this
 unfold nameL at h1
 simp only [List.cons.injEq, and_true] at h1
 obtain ⟨h2, h3, h4⟩ := h1
 have h3 := congrArg UInt8.toNat h3
 have h4 := congrArg UInt8.toNat h4
 rw [UInt8.toNat_ofNat', UInt8.toNat_ofNat'] at h3 h4
 exact ⟨h2, by omega⟩
theorem nameL_low {c : UInt8} (i : Nat) (h1 : 97 ≤ c.toNat) (h2 : c.toNat ≤ 122) : LowN ⟨(nameL c i).toArray⟩ := by
 refine ⟨by show 1 ≤ (nameL c i).toArray.size; simp [nameL], by show (nameL c i).toArray.size ≤ 16; simp [nameL], fun x hx => ?_⟩
 have hx : x ∈ nameL c i := by simpa using hx
 unfold nameL at hx
 simp at hx
 rcases hx with rfl | rfl | rfl
 ·exact ⟨h1, h2⟩
 ·rw [UInt8.toNat_add, UInt8.toNat_ofNat']
  have : ((97 : UInt8).toNat) = 97 := rfl
  rw [this]
  omega
 ·rw [UInt8.toNat_add, UInt8.toNat_ofNat']
  have : ((97 : UInt8).toNat) = 97 := rfl
  rw [this]
  omega
theorem nodup_names (L : List ByteArray) (c : Nat → UInt8) (n : Nat → Nat) (h : ∀ t (ht : t < L.length), L[t] = ⟨(nameL (c t) (n t)).toArray⟩ ∧ n t < 676) (hinj : ∀ s t, s < t → t < L.length → c s ≠ c t ∨ n s ≠ n t) : L.Nodup := by
 refine List.pairwise_iff_getElem.2 fun s t hs ht hst e => ?_
 obtain ⟨h1, h2⟩ := h s hs
 obtain ⟨h3, h4⟩ := h t ht
 rw [h1, h3] at e
 obtain ⟨e1, e2⟩ := nameL_inj h2 h4 e
 rcases hinj s t hst ht with h5 | h5
 ·exact h5 e1
 ·exact h5 e2
def nodeN (F : FltM) : List ByteArray := (F.doms.drop 1).map (·.name) ++ F.dves.map (·.name)
theorem nodeN_at {N : Nat} {F : FltM} (hok : FleetOk N F) (t : Nat) (ht : t < (nodeN F).length) : (nodeN F)[t] = ⟨(nameL (if t < F.doms.length - 1 then 110 else 100) (if t < F.doms.length - 1 then t + 1 else t - (F.doms.length - 1))).toArray⟩ ∧ (if t < F.doms.length - 1 then t + 1 else t - (F.doms.length - 1)) < 676 := by
 have hd := hok.domN
 have hv := hok.dveN
 have hl : ((F.doms.drop 1).map (·.name)).length = F.doms.length - 1 := by simp
 have htl : t < (F.doms.length - 1) + F.dves.length := by
  unfold nodeN at ht
  rw [List.length_append, hl, List.length_map] at ht
  exact ht
 by_cases h : t < F.doms.length - 1
 ·rw [if_pos h, if_pos h]
  refine ⟨?_, by omega⟩
  have h1 : (nodeN F)[t] = (F.doms[t + 1]'(by omega)).name := by
   have h2 : (nodeN F)[t]? = some (F.doms[t + 1]'(by omega)).name := by
    unfold nodeN
    rw [List.getElem?_append_left (by rw [hl]; exact h), List.getElem?_map, List.getElem?_drop, Nat.add_comm 1 t, List.getElem?_eq_getElem (by omega)]
    rfl
   exact (List.getElem?_eq_some_iff.1 h2).2
  rw [h1]
  exact (hok.doms.rest (t + 1) F.doms[t + 1] (List.getElem?_eq_getElem (by omega)) (by omega)).1
 ·rw [if_neg h, if_neg h]
  refine ⟨?_, by omega⟩
  have h1 : (nodeN F)[t] = (F.dves[t - (F.doms.length - 1)]'(by omega)).name := by
   have h2 : (nodeN F)[t]? = some (F.dves[t - (F.doms.length - 1)]'(by omega)).name := by
    unfold nodeN
    rw [List.getElem?_append_right (by rw [hl]; omega), hl, List.getElem?_map, List.getElem?_eq_getElem (by omega)]
    rfl
   exact (List.getElem?_eq_some_iff.1 h2).2
  rw [h1]
  exact (hok.dves (t - (F.doms.length - 1)) _ (List.getElem?_eq_getElem (by omega))).1
theorem nodeN_low {N : Nat} {F : FltM} (hok : FleetOk N F) : ∀ s ∈ nodeN F, LowN s := fun s hs => by
 obtain ⟨t, ht, rfl⟩ := List.getElem_of_mem hs
 rw [(nodeN_at hok t ht).1]
 exact nameL_low _ (by split <;> decide) (by split <;> decide)
theorem nodeN_nodup {N : Nat} {F : FltM} (hok : FleetOk N F) : (nodeN F).Nodup := nodup_names _ _ _ (nodeN_at hok) fun s t hst ht => by
 have hd := hok.domN
 by_cases h1 : s < F.doms.length - 1
 ·by_cases h2 : t < F.doms.length - 1
  ·rw [if_pos h1, if_pos h2, if_pos h1, if_pos h2]; right; omega
  ·rw [if_pos h1, if_neg h2]; left; decide
 ·rw [if_neg h1, if_neg (by omega), if_neg h1, if_neg (by omega)]; right; omega
theorem nodeN_length (F : FltM) : (nodeN F).length = (F.doms.length - 1) + F.dves.length := by unfold nodeN; simp
theorem polN_at {N : Nat} {F : FltM} (hok : FleetOk N F) (t : Nat) (ht : t < (F.pols.map (·.name)).length) : (F.pols.map (·.name))[t] = ⟨(nameL 112 (F.pols.length - t)).toArray⟩ ∧ F.pols.length - t < 676 := by
 have h2 := hok.polN
 rw [List.length_map] at ht
 rw [List.getElem_map]
 exact ⟨(hok.pols t _ (List.getElem?_eq_getElem ht)).2.1, by omega⟩
theorem polN_low {N : Nat} {F : FltM} (hok : FleetOk N F) : ∀ s ∈ F.pols.map (·.name), LowN s := fun s hs => by
 obtain ⟨t, ht, rfl⟩ := List.getElem_of_mem hs
 rw [(polN_at hok t ht).1]
 exact nameL_low _ (by decide) (by decide)
theorem polN_nodup {N : Nat} {F : FltM} (hok : FleetOk N F) : (F.pols.map (·.name)).Nodup := nodup_names _ (fun _ => 112) (fun t => F.pols.length - t) (polN_at hok) fun s t hst ht => by
 rw [List.length_map] at ht
 right; omega
theorem volN_at {N : Nat} {F : FltM} (hN : N ≤ 12) (hok : FleetOk N F) (t : Nat) (ht : t < (F.vols.map (·.name)).length) : (F.vols.map (·.name))[t] = ⟨(nameL 118 (F.vols.length - t)).toArray⟩ ∧ F.vols.length - t < 676 := by
 have h2 := hok.volN
 rw [List.length_map] at ht
 rw [List.getElem_map]
 exact ⟨(hok.vols t _ (List.getElem?_eq_getElem ht)).2.1, by omega⟩
theorem volN_low {N : Nat} {F : FltM} (hN : N ≤ 12) (hok : FleetOk N F) : ∀ s ∈ F.vols.map (·.name), LowN s := fun s hs => by
 obtain ⟨t, ht, rfl⟩ := List.getElem_of_mem hs
 rw [(volN_at hN hok t ht).1]
 exact nameL_low _ (by decide) (by decide)
theorem volN_nodup {N : Nat} {F : FltM} (hN : N ≤ 12) (hok : FleetOk N F) : (F.vols.map (·.name)).Nodup := nodup_names _ (fun _ => 118) (fun t => F.vols.length - t) (volN_at hN hok) fun s t hst ht => by
 rw [List.length_map] at ht
 right; omega
theorem lawN_ok {N : Nat} {F : FltM} (hok : FleetOk N F) : (∀ s ∈ F.laws.map (·.name), LowN s) ∧ (F.laws.map (·.name)).Nodup ∧ F.laws.length = 1 := by
 obtain ⟨r, -, h⟩ := hok.laws
 rw [h]
 refine ⟨fun s hs => ?_, by simp, rfl⟩
 simp at hs
 subst hs
 refine ⟨by decide, by decide, fun x hx => ?_⟩
 simp at hx
 rcases hx with rfl | rfl | rfl | rfl <;> decide
theorem modN_ok {N : Nat} {F : FltM} (hok : FleetOk N F) : (∀ s ∈ F.models.map (·.name), LowN s) ∧ (F.models.map (·.name)).Nodup ∧ F.models.length = 2 := by
 obtain ⟨a, b, c, d, -, -, -, -, h⟩ := hok.models
 rw [h]
 refine ⟨fun s hs => ?_, by simp, rfl⟩
 simp at hs
 rcases hs with rfl | rfl
 ·refine ⟨by decide, by decide, fun x hx => ?_⟩
  simp at hx
  rcases hx with rfl | rfl | rfl <;> decide
 ·refine ⟨by decide, by decide, fun x hx => ?_⟩
  simp at hx
  rcases hx with rfl | rfl | rfl <;> decide
theorem modN_at {N : Nat} {F : FltM} (hok : FleetOk N F) : ∀ x ∈ F.models, 1 ≤ x.ext ∧ x.ext ≤ 16 ∧ 1 ≤ x.port ∧ x.port ≤ 64 ∧ x.law = 0 := by
 obtain ⟨a, b, c, d, ha, hb, hc, hd, h⟩ := hok.models
 rw [h]
 intro x hx
 simp at hx
 rcases hx with rfl | rfl <;> (refine ⟨?_, ?_, ?_, ?_, rfl⟩ <;> simp only <;> omega)
def OwnS (w : World) (base : Nat) (v : Value) (l : List ByteArray) : Prop := w.ownsRow base 9 1 v l.length (l.map Value.string)
theorem OwnS.nil (w : World) (base : Nat) : OwnS w base (.slice none 0 0) [] := World.ownsRow_nil _ _ _ _
theorem OwnS.lt {w : World} {base : Nat} {v : Value} {l : List ByteArray} (h : OwnS w base v l) : ∀ b, v.ownBlock = some b → base ≤ b ∧ b < w.heap.size := World.ownsRow.lt h
theorem OwnS.below {w w2 : World} {base : Nat} {v : Value} {l : List ByteArray} (h : OwnS w base v l) (hb : Below w.heap.size w w2) : OwnS w2 base v l := own_below h hb
theorem OwnS.form {w : World} {base : Nat} {v : Value} {l : List ByteArray} (h : OwnS w base v l) : ∃ A c, v = .slice A l.length c := own_form h
theorem info_strV : (Tryz.prog.info? 9).map (fun i => (i.zero, i.size, i.bytes)) = some (some (.string ⟨#[]⟩), 1, 16) := by kernel_rfl
theorem OwnS.slS {w : World} {base : Nat} {v : Value} {l : List ByteArray} (h : OwnS w base v l) (hs : ∀ s ∈ l, s.size ≤ maxLen) : SlS 1 StrK w (Bl w.heap.size) v l := by
 refine OwnK.slS (R := Bl w.heap.size) strK ⟨l.map Value.string, h, fun j s hj => ⟨[.string s], rfl, fun i u hu => ?_, rfl, hs s (List.mem_of_getElem? hj)⟩⟩ (fun _ h => h) (fun b hb => (h.lt b hb).2)
 have hi : i = 0 := by have := (List.getElem?_eq_some_iff.1 hu).1; simp at this; exact this
 subst hi
 simp at hu
 rw [Nat.mul_one, Nat.add_zero, List.getElem?_map, hj, ← hu]; rfl
theorem app_s {ops : Array Oper} {rest : List Oper} {o : Oper} {a : Act} {Q : Exit → Act → World → Prop} {w : World} (x0 : ByteArray) (s x : Operand) (hgd : o.guard = none) (ho : o.op = .call { callee := .builtin .append, args := #[s, x], argTypes := #[50, 50] })
  (base : Nat) (v : Value) (n : Nat) (xs : List ByteArray) (hl : xs.length = n) (hs : a.eval s = v) (hown : w.ownsRow base 9 1 v n (xs.map Value.string))
  (hx : a.eval x = .slice (some ⟨w.heap.size, 0, none⟩) 1 1) (hn : n + 1 ≤ 16777216) (hbase : base ≤ w.heap.size)
  (h : ∀ v' w', OwnS w' base v' (xs ++ [x0]) → w.grownBy w' v.ownBlock → (v'.ownBlock = v.ownBlock ∨ v'.ownBlock = some (w.heap.size + 1)) → wpList Tryz.prog ops Q rest (a.put o.dst v') w') :
  wpList Tryz.prog ops Q (o :: rest) a (w.alloc (.cells #[.string x0] 9)) := by
 obtain ⟨i0, hi0, hz0, hz1, hz2⟩ := info_parts info_strV
 refine wpList_append1 hgd s x _ ho base i0 _ 1 16 Tryz.underlying50 hi0 hz0 hz1 hz2 rfl (by omega) (by omega) v n _ hs hown hx rfl (by simp; rfl) hn hbase (fun v' w' h1 => h v' w' ?_)
 unfold OwnS
 rw [List.length_append, hl, List.map_append]
 exact h1
end Go.Proofs.YtmehadfhcdpfcaaGreat
