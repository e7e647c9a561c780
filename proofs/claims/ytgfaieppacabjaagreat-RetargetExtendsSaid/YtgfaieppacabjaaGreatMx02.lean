/- Grids of numbers whose rows are one's own; plain.Rows, walked. -/
import Derived.Test.YtgfaieppacabjaaGreatMw01
import Derived.Test.YtgfaieppacabjaaGreatMw02
import Derived.Test.YtgfaieppacabjaaGreatMw03
import Derived.Test.YtgfaieppacabjaaGreatMw04
import Derived.Test.YtgfaieppacabjaaGreatMw05
import Derived.Test.YtgfaieppacabjaaGreatMw06
import Derived.Test.YtgfaieppacabjaaGreatMw07
import Derived.Test.YtgfaieppacabjaaGreatMw08
import Derived.Test.YtgfaieppacabjaaGreatMw09
import Derived.Test.YtgfaieppacabjaaGreatMw10
import Derived.Test.YtgfaieppacabjaaGreatMw11
import Derived.Test.YtgfaieppacabjaaGreatMw12
import Derived.Test.YtgfaieppacabjaaGreatMw13
import Derived.Test.YtgfaieppacabjaaGreatMw14
import Derived.Test.YtgfaieppacabjaaGreatMw15
import Derived.Test.YtgfaieppacabjaaGreatMw16
import Derived.Test.YtgfaieppacabjaaGreatMw17
import Derived.Test.YtgfaieppacabjaaGreatMw18
import Derived.Test.YtgfaieppacabjaaGreatMw19
import Derived.Test.YtgfaieppacabjaaGreatMw20
import Derived.Test.YtgfaieppacabjaaGreatMw21
import Derived.Test.YtgfaieppacabjaaGreatMw22
import Derived.BigQuiet
import Derived.Deep.QuietTactic
import Derived.Deep.MidRow
import Derived.Test.YtgfaieppacabjaaGreatMx01
set_option linter.unusedSectionVars false
set_option maxRecDepth 100000
set_option maxHeartbeats 12800000
namespace Go.Proofs.YtgfaieppacabjaaGreat
open Go.RowKit
set_option linter.unusedVariables false
set_option linter.unusedSimpArgs false
structure GridA (w:World) (g n B:Nat) (vs:List Value) (L:List (List Int)):Prop where
 len:vs.length=L.length
 room:L.length≤n
 most:n≤maxLen
 low:g<B
 outer:∃cs:Array Value,w.heap[g]?=some (.cells cs 22 (0,0))∧cs.size=n∧∀(k:Nat) v,vs[k]?=some v→cs[k]?=some v
 own:∀(k:Nat) v l,vs[k]?=some v→L[k]?=some l→w.ownsRow B 3 1 v l.length (l.map (Value.int .i64))
 apart:∀(i j:Nat) vi vj,i≠j→vs[i]?=some vi→vs[j]?=some vj→∀b,vi.ownBlock=some b→vj.ownBlock≠some b
section
variable {w : World} {g n B : Nat} {vs : List Value} {L : List (List Int)}
theorem GridA.lt(h:GridA w g n B vs L):g<w.heap.size:=by
 obtain⟨cs,h1,-⟩:=h.outer
 exact(Array.getElem?_eq_some_iff.1 h1).1
theorem GridA.below(h:GridA w g n B vs L) {w':World} (hb:Below w.heap.size w w'):GridA w' g n B vs L:=by
 have hl:=h.lt
 obtain⟨cs,h1,h2,h3⟩:=h.outer
 exact⟨h.len,h.room,h.most,h.low,⟨cs,(hb.block g hl).trans h1,h2,h3⟩,fun k v l hv hl=>own_below (h.own k v l hv hl) hb,h.apart⟩
theorem GridA.cell(h:GridA w g n B vs L) {k:Nat} {v:Value} (hv:vs[k]?=some v):w.cell? ⟨g,k,none⟩=some v∧w.frozen? ⟨g,k,none⟩=false:=by
 obtain⟨cs,h1,h2,h3⟩:=h.outer
 exact⟨by rw[cell_of_row _ _ _ _ _ _ h1];exact h3 k v hv,frozen_of_row _ _ _ _ _ h1⟩
theorem GridA.there(h:GridA w g n B vs L) {k:Nat} (hk:k<n):(w.cell? ⟨g,k,none⟩).isSome=true∧w.frozen? ⟨g,k,none⟩=false:=by
 obtain⟨cs,h1,h2,h3⟩:=h.outer
 exact⟨by rw[cell_of_row _ _ _ _ _ _ h1,Array.getElem?_eq_getElem (by omega)];rfl,frozen_of_row _ _ _ _ _ h1⟩
theorem GridA.at_(h:GridA w g n B vs L) {k:Nat} {l:List Int} (hl:L[k]?=some l):∃v,vs[k]?=some v∧w.ownsRow B 3 1 v l.length (l.map (Value.int .i64)):=by
 have hk:=(List.getElem?_eq_some_iff.1 hl).1
 obtain⟨v,hv⟩:∃v,vs[k]?=some v:=⟨_,List.getElem?_eq_getElem (by rw[h.len];exact hk)⟩
 exact⟨_,hv,h.own k _ l hv hl⟩
theorem GridA.push(h:GridA w g n B vs L) {v:Value} {l:List Int} (hr:L.length<n) (ho:w.ownsRow B 3 1 v l.length (l.map (Value.int .i64))) (hnew:∀(k:Nat) u,vs[k]?=some u→∀b,u.ownBlock=some b→v.ownBlock≠some b):GridA (w.setCell ⟨g,L.length,none⟩ v) g n B (vs++[v]) (L++[l]):=by
 obtain⟨cs,h1,h2,h3⟩:=h.outer
 have hl:=h.lt
 have hlow:=h.low
 have hat:∀{k:Nat} {u:Value},(vs++[v])[k]?=some u→(vs[k]?=some u∧k<vs.length)∨(k=vs.length∧u=v):=fun {k u} hu=>by
  rcases Nat.lt_or_ge k vs.length with hk | hk
  ·rw[List.getElem?_append_left hk] at hu;exact .inl ⟨hu,hk⟩
  ·have hk2:k=vs.length:=by
    have:=(List.getElem?_eq_some_iff.1 hu).1
    simp at this;omega
   subst hk2
   rw[List.getElem?_append_right (Nat.le_refl _),Nat.sub_self] at hu
   simp at hu
   exact .inr ⟨rfl,hu.symm⟩
 have hown:∀u (m:Nat) xs,w.ownsRow B 3 1 u m xs→(w.setCell ⟨g,L.length,none⟩ v).ownsRow B 3 1 u m xs:=fun u m xs hu=>ownsRow_setCell_below hu hlow _
 refine⟨by simp[h.len],by simp;omega,h.most,hlow,⟨cs.setIfInBounds L.length v,heap_setCell_same w g L.length cs _ v h1,by simp[h2],fun k u hu=>?_⟩,fun k u m hu hm=>?_,fun i j vi vj hij hi hj b hb=>?_⟩
 ·rcases hat hu with ⟨hu,hk⟩ | ⟨rfl,rfl⟩
  ·rw[Array.getElem?_setIfInBounds,if_neg (by rw[←h.len];omega)];exact h3 k u hu
  ·rw[h.len,Array.getElem?_setIfInBounds,if_pos rfl,if_pos (by omega)]
 ·rcases hat hu with ⟨hu,hk⟩ | ⟨rfl,rfl⟩
  ·rw[List.getElem?_append_left (by rw[←h.len];exact hk)] at hm
   exact hown _ _ _ (h.own k u m hu hm)
  ·rw[h.len,List.getElem?_append_right (Nat.le_refl _),Nat.sub_self] at hm
   simp at hm
   subst hm
   exact hown _ _ _ ho
 ·rcases hat hi with ⟨hi',hik⟩ | ⟨hie,hiv⟩
  ·rcases hat hj with ⟨hj',hjk⟩ | ⟨hje,hjv⟩
   ·exact h.apart i j vi vj hij hi' hj' b hb
   ·rw[hjv];exact hnew i vi hi' b hb
  ·rcases hat hj with ⟨hj',hjk⟩ | ⟨hje,hjv⟩
   ·rw[hiv] at hb
    intro e
    exact hnew j vj hj' b e hb
   ·exact absurd (hie.trans hje.symm) hij
theorem GridA.app(h:GridA w g n B vs L) {k:Nat} {v v':Value} {l l':List Int} (hv:vs[k]?=some v) (hl:L[k]?=some l) {w':World} (hg:w.grownBy w' v.ownBlock) (ho:w'.ownsRow B 3 1 v' l'.length (l'.map (Value.int .i64))) (hat:v'.ownBlock=v.ownBlock∨v'.ownBlock=some w.heap.size) (hne:∀b,v.ownBlock=some b→B≤b) :
  GridA (w'.setCell ⟨g,k,none⟩ v') g n B (vs.set k v') (L.set k l'):=by
 obtain⟨cs,h1,h2,h3⟩:=h.outer
 have hlow:=h.low
 have hgl:=h.lt
 have hk:=(List.getElem?_eq_some_iff.1 hl).1
 have hkv:=(List.getElem?_eq_some_iff.1 hv).1
 have hg1:w'.heap[g]?=some (.cells cs 22 (0,0)):=(hg.block g hgl (fun e=>by have:=hne g e.symm;omega)).trans h1
 have hown:∀u (m:Nat) xs,w'.ownsRow B 3 1 u m xs→(w'.setCell ⟨g,k,none⟩ v').ownsRow B 3 1 u m xs:=fun u m xs hu=>ownsRow_setCell_below hu hlow _
 refine⟨by simp[h.len],by simp;exact h.room,h.most,hlow,⟨cs.setIfInBounds k v',heap_setCell_same w' g k cs _ v' hg1,by simp[h2],fun i u hu=>?_⟩,fun i u m hu hm=>?_,fun i j vi vj hij hi hj b hb=>?_⟩
 ·by_cases hik:k=i
  ·subst hik
   rw[List.getElem?_set_self hkv] at hu
   injection hu with hu
   subst hu
   rw[Array.getElem?_setIfInBounds,if_pos rfl,if_pos (by have:=h.room;omega)]
  ·rw[List.getElem?_set_ne hik] at hu
   rw[Array.getElem?_setIfInBounds,if_neg hik];exact h3 i u hu
 ·by_cases hik:k=i
  ·subst hik
   rw[List.getElem?_set_self hkv] at hu
   rw[List.getElem?_set_self hk] at hm
   injection hu with hu
   injection hm with hm
   subst hu hm
   exact hown _ _ _ ho
  ·rw[List.getElem?_set_ne hik] at hu hm
   refine hown _ _ _ ((h.own i u m hu hm).kept hg ?_)
   cases hb:u.ownBlock with
   | none=>exact .inl rfl
   | some b=>exact .inr (fun e=>h.apart i k u v (fun e2=>hik e2.symm) hu hv b hb e.symm)
 ·have hlt:∀(i:Nat) u,vs[i]?=some u→∀b,u.ownBlock=some b→b<w.heap.size:=fun i u hu b hb=>by
   have hi:=(List.getElem?_eq_some_iff.1 hu).1
   obtain⟨m,hm⟩:∃m,L[i]?=some m:=⟨_,List.getElem?_eq_getElem (by rw[←h.len];exact hi)⟩
   exact((h.own i u m hu hm).lt b hb).2
  by_cases hik:k=i
  ·subst hik
   rw[List.getElem?_set_self hkv] at hi
   injection hi with hi
   subst hi
   rw[List.getElem?_set_ne hij] at hj
   rcases hat with e | e
   ·rw[e] at hb
    exact h.apart k j v vj hij hv hj b hb
   ·rw[e] at hb
    injection hb with hb
    subst hb
    intro e2
    exact absurd (hlt j vj hj _ e2) (Nat.lt_irrefl _)
  ·rw[List.getElem?_set_ne hik] at hi
   by_cases hjk:k=j
   ·subst hjk
    rw[List.getElem?_set_self hkv] at hj
    injection hj with hj
    subst hj
    rcases hat with e | e
    ·rw[e]
     exact h.apart i k vi v hij hi hv b hb
    ·rw[e]
     intro e2
     injection e2 with e2
     subst e2
     exact absurd (hlt i vi hi _ hb) (Nat.lt_irrefl _)
   ·rw[List.getElem?_set_ne hjk] at hj
    exact h.apart i j vi vj hij hi hj b hb
theorem GridA.slS(h:GridA w g n B vs L) (hx:∀l∈L,∀x∈l,I64 x) {R:Nat→Prop} (hR:∀b,g≤b→b<w.heap.size→R b):SlS 1 RowIK w R (.slice (some ⟨g,0,none⟩) L.length n) L:=by
 refine⟨_,n,rfl,h.room,Nat.le_trans h.room h.most,fun _=>⟨g,0,rfl,hR g (Nat.le_refl _) h.lt,fun k l hl=>?_⟩⟩
 obtain⟨v,hv,ho⟩:=h.at_ hl
 refine⟨[v],rfl,fun i u hu=>?_,v,rfl,IntS.own ho (fun b hb=>hR b (by have:=(ho.lt b hb).1;have:=h.low;omega) (ho.lt b hb).2) (hx l (List.mem_of_getElem? hl))⟩
 cases i with
 | zero =>
  simp at hu
  subst hu
  simpa using (h.cell hv).1
 | succ i=>simp at hu
end
theorem mk_rowsL(n:Nat) (hn:n≤1000):∃cs:Array Value,cs.size=n∧∀w:World,(Instr.makeSlice 36 (.int .i64 (n:Int)) (.int .i64 (n:Int))).run Tryz.prog w=.ok (.slice (some ⟨w.heap.size,0,none⟩) n n) (w.alloc (.cells cs 22)):=by
 obtain⟨i0,hi0,hz0,hz1,hz2⟩:=info_parts info_ints
 refine⟨madeCells (Value.slice none 0 0).cells (n * 1),by simpa using size_madeCells (Value.slice none 0 0).cells (n * 1),fun w=>?_⟩
 have h:=run_make (P:=Tryz.prog) w 36 22 i0 _ Tryz.underlying36 hi0 hz0 .i64 .i64 (n:Int) (n:Int) (by omega) (by omega) (by rw[hz2];omega) (by omega)
 rw[hz1] at h
 simpa using h
theorem take_pushL{α:Type} {L:List α} {j:Nat} {x:α} (h:L[j]?=some x):L.take (j+1)=L.take j++[x]:=by
 obtain⟨hj,e⟩:=List.getElem?_eq_some_iff.1 h
 rw[List.take_succ_eq_append_getElem hj,e]
theorem prows_any(v:Value) (L:List (List Int)) (w:World) (h:SlS 1 RowIK w (Bl w.heap.size) v L) (hn:L.length≤1000) (hrow:∀l∈L,0<l.length∧l.length≤1000) :
  Calls Tryz.prog 49 #[v] w fun e w'=>∃g B vs,e=.returned (.slice (some ⟨g,0,none⟩) L.length L.length)∧w.heap.size≤g∧GridA w' g L.length B vs L∧Below w.heap.size w w':=by
 obtain⟨A,c,rfl,-,hm⟩:=h.form
 obtain⟨LN,hL⟩:=zx L.length
 obtain⟨cs0,hz0,hmk⟩:=mk_rowsL LN (by omega)
 obtain⟨W0,hW0⟩:=zx (w.alloc (.cells cs0 22))
 obtain⟨g,hg⟩:=zx w.heap.size
 rw[←hL] at hn hm ⊢
 have hb0:Below w.heap.size w W0:=by rw[hW0];exact(Below.refl _ _).alloc (Nat.le_refl _) _
 have hgk:W0.heap[g]?=some (.cells cs0 22 (0,0)):=by rw[hW0,hg];exact heap_alloc_new _ _
 obtain⟨B,hB⟩:=zx W0.heap.size
 have hgB:g<B:=by rw[hB];exact(Array.getElem?_eq_some_iff.1 hgk).1
 have HG0:=zh (show GridA W0 g LN B [] [] from⟨rfl,by simp,by unfold maxLen;omega,hgB,⟨cs0,hgk,hz0,fun k v h=>by simp at h⟩,fun k v l h=>by simp at h,fun i j vi vj _ h=>by simp at h⟩)
 have HB0:=zh hb0
 have HS:=zh h
 have HRW:=zh hrow
 have HL:=zh hL
 have HW0:=zh hW0
 have HG:=zh (show g=w.heap.size∧g<B∧B=W0.heap.size from⟨hg,hgB,hB⟩)
 clear h hrow hL hW0 hg hb0 hgk hz0 hgB hB
 go_enter Tryz.func49,Tryz.ntmps49
 go_wp2_with fail
 clear hmk
 rw[←HW0.out,←HG.out.1]
 go_loopg [11] LN (fun z v11 wr=>∃(j:Nat) (vs:List Value),j≤LN∧z=LN - j∧v11=.int .i64 (j:Int)∧Hid (Below w.heap.size w wr)∧Hid (B≤wr.heap.size∧GridA wr g LN B vs (L.take j)))
 case atStart=>exact⟨0,[],by omega,rfl,rfl,HB0,zh ⟨by rw[HG.out.2.2];exact Nat.le_refl _,HG0.out⟩⟩
 case round =>
  obtain⟨j,vs,hj,rfl,rfl,HB,HGR⟩:=hrel
  obtain⟨W1,hW1⟩:=zx wr
  rw[←hW1] at HB HGR ⊢
  clear hW1
  by_cases hlt:j<LN
  ·have hjl:j<L.length:=by rw[←HL.out];exact hlt
   obtain⟨b,off,cs,hAe,hR,hcl,hc,hK⟩:=HS.out.at_ (k:=j) hjl
   obtain⟨l,hl⟩:∃l,L[j]?=some l:=⟨_,List.getElem?_eq_getElem hjl⟩
   rw[(List.getElem?_eq_some_iff.1 hl).2] at hK
   obtain⟨vr,rfl,hr⟩:=hK
   subst hAe
   have hrl:=HRW.out l (List.mem_of_getElem? hl)
   have HCL:=zh (clone_int vr l W1 (Bl w.heap.size) (hr.keep (fun b hb=>HB.out.block b hb)) hrl.1 (by omega))
   obtain⟨A1,n1,c1,rfl⟩:∃A n c,vr=.slice A n c:=by obtain⟨A,c,e,-⟩:=hr.1;exact⟨A,_,c,e⟩
   have e0:W1.cell? ⟨b,off+j,none⟩=some (.slice A1 n1 c1):=(HB.out.cell (p:=⟨b,off+j,none⟩) hR).trans (by have:=hc 0 _ rfl;simpa using this)
   have lj:(j:Int)<(LN:Int):=by omega
   have ln:(LN:Int)≤1000:=by omega
   have HX:=zh hl
   have htl:(L.take j).length=j:=by rw[List.length_take];omega
   have HTL:=zh htl
   clear hjl hR hcl hc hl hr hrl htl
   go_wp2_with fail
   refine HCL.out.mono ?_
   rintro e w2 ⟨v2,rfl,ho2,hb2⟩
   obtain⟨A2,c2,rfl⟩:=own_form ho2
   obtain⟨NL,hNL⟩:=zx l.length
   have hgr2:=HGR.out.2.below hb2
   have hpush:=hgr2.push (l:=l) (v:=.slice A2 l.length c2) (by rw[HTL.out];exact hlt) (own_base ho2 HGR.out.1) (fun k u hu b hb e=>by
    have h1:=ho2.lt b e
    have hk:=(List.getElem?_eq_some_iff.1 hu).1
    obtain⟨m,hm⟩:∃m,(L.take j)[k]?=some m:=⟨_,List.getElem?_eq_getElem (by rw[←HGR.out.2.len];exact hk)⟩
    have h2:=(HGR.out.2.own k u m hu hm).lt b hb
    omega)
   rw[HTL.out,←take_pushL HX.out] at hpush
   have hth:=hgr2.there hlt
   rw[←hNL] at hpush ⊢
   have hbl:g<w2.heap.size:=hgr2.lt
   have HP:=zh (show B≤(w2.setCell ⟨g,j,none⟩ (.slice A2 NL c2)).heap.size∧GridA (w2.setCell ⟨g,j,none⟩ (.slice A2 NL c2)) g LN B (vs++[.slice A2 NL c2]) (L.take (j+1)) from⟨by simp;exact Nat.le_trans HGR.out.1 hb2.size,hpush⟩)
   have HB3:=zh (show Below w.heap.size w (w2.setCell ⟨g,j,none⟩ (.slice A2 NL c2)) from(HB.out.trans (hb2.mono HB.out.size)).setCell (show w.heap.size≤g by have:=HG.out.1;omega) _)
   obtain⟨x1,hx1⟩:=Option.isSome_iff_exists.1 hth.1
   have z1:=hth.2
   clear ho2 hb2 hgr2 hpush hth hbl e0 hNL HCL
   go_wp2_with fail
   go_roundg (LN - (j+1))
   case measure=>omega
   case rel=>exact⟨j+1,_,by omega,rfl,by go_num,HB3,HP⟩
  ·have HJE:=zh (show j=LN by omega)
   go_wp2_with fail
   go_ret
   have hgr:=HGR.out.2
   rw[HJE.out,HL.out,List.take_length,←HL.out] at hgr
   exact⟨g,B,vs,rfl,by have:=HG.out.1;omega,hgr,HB.out⟩
def extL(G:FltM) (L:List (List Int)):List (List Int):=L.mapIdx fun v l=>l++List.replicate (szN G v - l.length) (-1)
theorem extL_len(G:FltM) (L:List (List Int)):(extL G L).length=L.length:=by unfold extL;simp
theorem extL_at{G:FltM} {L:List (List Int)} {v:Nat} {l:List Int} (h:L[v]?=some l):(extL G L)[v]?=some (l++List.replicate (szN G v - l.length) (-1)):=by
 unfold extL
 rw[List.getElem?_mapIdx,h];rfl
def partL(G:FltM) (L:List (List Int)) (j:Nat):List (List Int):=(extL G L).take j++L.drop j
theorem partL_len(G:FltM) (L:List (List Int)) (j:Nat):(partL G L j).length=L.length:=by
 unfold partL
 rw[List.length_append,List.length_take,List.length_drop,extL_len];omega
theorem partL_zero(G:FltM) (L:List (List Int)):partL G L 0=L:=by unfold partL;simp
theorem partL_all(G:FltM) (L:List (List Int)):partL G L L.length=extL G L:=by
 unfold partL
 rw[List.drop_length,List.append_nil,←extL_len G L,List.take_length]
theorem partL_at{G:FltM} {L:List (List Int)} {j:Nat} (hj:j<L.length):(partL G L j)[j]?=L[j]?:=by
 have hl:((extL G L).take j).length=j:=by rw[List.length_take,extL_len];omega
 unfold partL
 rw[List.getElem?_append_right (by omega),hl,Nat.sub_self,List.getElem?_drop,Nat.add_zero]
theorem partL_set{G:FltM} {L:List (List Int)} {j:Nat} {l:List Int} (h:L[j]?=some l):(partL G L j).set j (l++List.replicate (szN G j - l.length) (-1))=partL G L (j+1):=by
 have hj:=(List.getElem?_eq_some_iff.1 h).1
 apply List.ext_getElem?
 intro i
 have hl:((extL G L).take j).length=j:=by rw[List.length_take,extL_len];omega
 have hl1:((extL G L).take (j+1)).length=j+1:=by rw[List.length_take,extL_len];omega
 by_cases hi:j=i
 ·subst hi
  rw[List.getElem?_set_self (by rw[partL_len];exact hj)]
  unfold partL
  rw[List.getElem?_append_left (by omega),List.getElem?_take,if_pos (by omega),extL_at h]
 ·rw[List.getElem?_set_ne hi]
  unfold partL
  rcases Nat.lt_or_ge i j with h1 | h1
  ·rw[List.getElem?_append_left (by omega),List.getElem?_append_left (by omega),List.getElem?_take,List.getElem?_take,if_pos h1,if_pos (by omega)]
  ·rw[List.getElem?_append_right (by omega),List.getElem?_append_right (by omega),hl,hl1,List.getElem?_drop,List.getElem?_drop]
   congr 1
   omega
theorem ext_ok{F G:FltM} {L:List (List Int)} (h:LayOk F F.vols.length L) (hv:F.vols.length=G.vols.length) (hd:F.dves.length=G.dves.length) (hs:∀v,v<F.vols.length→szN F v≤szN G v):LayOk G G.vols.length (extL G L):=by
 refine⟨by rw[extL_len,h.1,hv],fun v l hl=>?_⟩
 have hvl:=(List.getElem?_eq_some_iff.1 hl).1
 rw[extL_len] at hvl
 obtain⟨m,hm⟩:∃m,L[v]?=some m:=⟨_,List.getElem?_eq_getElem hvl⟩
 rw[extL_at hm] at hl
 injection hl with hl
 subst hl
 obtain⟨h1,h2⟩:=h.2 v m hm
 have h3:=hs v (by rw[←h.1];exact hvl)
 refine⟨by rw[List.length_append,List.length_replicate];omega,fun x hx=>?_⟩
 rcases List.mem_append.1 hx with hx | hx
 ·have:=h2 x hx;omega
 ·rw[List.eq_of_mem_replicate hx];omega
theorem lay_i64{F:FltM} {n:Nat} {L:List (List Int)} (h:LayOk F n L) (hd:F.dves.length≤9):∀l∈L,∀x∈l,I64 x:=fun l hl x hx=>by
 obtain⟨v,hv,rfl⟩:=List.mem_iff_getElem.1 hl
 have:=(h.2 v _ (List.getElem?_eq_getElem hv)).2 x hx
 unfold I64;omega
theorem own_newL{w:World} {base:Nat} {e:TypeId} {size:Nat} {v:Value} {n:Nat} {xs:List Value} (h:w.ownsRow base e size v n xs) (h0:0<n):∃q c,v=.slice (some ⟨q,0,none⟩) n c∧base≤q:=by
 rcases h.2 with ⟨-,h3⟩ | ⟨g,cap,cur,e1,e2,-⟩
 ·omega
 ·exact⟨g,cap,e1,e2⟩
theorem set_hereL{α:Type} {es:List α} {k:Nat} {y:α} (h:es[k]?=some y):es.set k y=es:=by
 apply List.ext_getElem?
 intro i
 by_cases hi:k=i
 ·subst hi
  rw[List.getElem?_set_self (List.getElem?_eq_some_iff.1 h).1,h]
 ·rw[List.getElem?_set_ne hi]
theorem info_intL:(Tryz.prog.info? 3).map (fun i=>(i.zero,i.size,i.bytes))=some (some (.int .i64 0),1,8):=by kernel_rfl
theorem pextend_any(N:Nat) (hN:N≤12) (vl vm vd vv vp vo ul um ud uv up uo vL:Value) (F G:FltM) (L:List (List Int)) (w:World) (hf:FleetS w (Bl w.heap.size) vl vm vd vv vp vo F) (hok:FleetOk N F) (hg:FleetS w (Bl w.heap.size) ul um ud uv up uo G) (hgk:FleetOk N G)
  (hvo:F.vols.length=G.vols.length) (hdv:F.dves.length=G.dves.length) (hl:SlS 1 RowIK w (Bl w.heap.size) vL L) (hlo:LayOk F F.vols.length L) :
  Calls Tryz.prog 18 #[.agg #[.int .i64 F.ext,vl,vm,vd,vv,vp,vo],.agg #[.int .i64 G.ext,ul,um,ud,uv,up,uo],vL] w fun e w'=>Below w.heap.size w w' ∧
   ((e=.returned (.tuple #[.slice none 0 0,.int .i64 1])∧∃v,v<F.vols.length∧szN G v<szN F v)∨(∃A n c,e=.returned (.tuple #[.slice A n c,.int .i64 0])∧SlS 1 RowIK w' (Bl w'.heap.size) (.slice A n c) (extL G L)∧∀v,v<F.vols.length→szN F v≤szN G v)):=by
 have HVF:=zh (fun(w':World) (hb:Below w.heap.size w w')=>fvalidate_any N hN _ _ _ _ _ _ F w' (hf.below hb) hok)
 have HVG:=zh (fun(w':World) (hb:Below w.heap.size w w')=>fvalidate_any N hN _ _ _ _ _ _ G w' (hg.below hb) hgk)
 have HSH:=zh (fun(w':World) (hb:Below w.heap.size w w')=>tshaped_any N hN _ _ _ _ _ _ vL F L w' (hf.below hb) hok (SlS.below rowIK hl hb) hlo)
 have HRW:=zh (fun(w':World) (hb:Below w.heap.size w w')=>prows_any vL L w' (SlS.below rowIK hl hb) (by rw[hlo.1];have:=hok.volN;omega) (fun l hm=>by
  obtain⟨v,hv,rfl⟩:=List.mem_iff_getElem.1 hm
  have h1:=(hlo.2 v _ (List.getElem?_eq_getElem hv)).1
  have h2:=szN_range hok (v:=v) (by rw[←hlo.1];exact hv)
  omega))
 have HFR:=zh (fun(v:Nat) (w':World) (hb:Below w.heap.size w w') (hv:v<F.vols.length)=>tfragments_any N hN _ _ _ _ _ _ G v w' (hg.below hb) hgk (by rw[←hvo];exact hv))
 have HSF:=zh (fun(v:Nat) (hv:v<F.vols.length)=>And.intro (szN_range hok hv) (szN_range hgk (v:=v) (by rw[←hvo];exact hv)))
 obtain⟨Al,nl,cl,rfl⟩:=hf.1.form3
 obtain⟨Am,nm,cm,rfl⟩:=hf.2.1.form3
 obtain⟨Ad,nd,cd,rfl⟩:=hf.2.2.1.form3
 obtain⟨Av,cv,hvv,-⟩:=hf.2.2.2.1.form
 subst hvv
 obtain⟨Ap,np,cp,rfl⟩:=hf.2.2.2.2.1.form3
 obtain⟨Ao,co,hvoo,-⟩:=hf.2.2.2.2.2.form
 subst hvoo
 obtain⟨Bl',ml,kl,rfl⟩:=hg.1.form3
 obtain⟨Bm,mm,km,rfl⟩:=hg.2.1.form3
 obtain⟨Bd,md,kd,rfl⟩:=hg.2.2.1.form3
 obtain⟨Bv,kv,huv,-⟩:=hg.2.2.2.1.form
 subst huv
 obtain⟨Bp,mp,kp,rfl⟩:=hg.2.2.2.2.1.form3
 obtain⟨Bo,ko,huo,-⟩:=hg.2.2.2.2.2.form
 subst huo
 obtain⟨AL,nL,cL,rfl⟩:=hl.form3
 obtain⟨EX,hEX⟩:=zx F.ext
 obtain⟨EG,hEG⟩:=zx G.ext
 obtain⟨NV,hNV⟩:=zx F.dves.length
 obtain⟨no,hNO⟩:=zx F.vols.length
 have hpos:0<no:=by rw[hNO];have:=hok.vol1;omega
 have hno:no≤12∧NV≤9:=by rw[hNO,hNV];have:=hok.volN;have:=hok.dveN;omega
 rw[←hvo,←hdv] at HVG HFR ⊢
 rw[←hEX,←hNV,←hNO] at HVF HSH
 rw[←hEG,←hNV,←hNO] at HVG HFR
 rw[hlo.1,←hNO] at HRW
 rw[←hNO] at HSF
 rw[←hEX,←hEG,←hNV,←hNO]
 have HLO:=zh hlo
 have HVO:=zh (show F.vols.length=G.vols.length∧F.dves.length=G.dves.length∧no=F.vols.length∧NV=F.dves.length from⟨hvo,hdv,hNO,hNV⟩)
 have b1:((no:Int) != (no:Int))=false:=by simp
 have b2:((NV:Int) != (NV:Int))=false:=by simp
 obtain⟨W1,hW1⟩:=zx ((w.alloc (.cells #[.int .i64 EX,.slice Al nl cl,.slice Am nm cm,.slice Ad nd cd,.slice Av NV cv,.slice Ap np cp,.slice Ao no co] 35)).alloc (.cells #[.int .i64 EG,.slice Bl' ml kl,.slice Bm mm km,.slice Bd md kd,.slice Bv NV kv,.slice Bp mp kp,.slice Bo no ko] 35))
 obtain⟨gA,hgA⟩:=zx w.heap.size
 obtain⟨gB,hgB⟩:=zx (w.heap.size+1)
 have hb1:Below w.heap.size w W1:=by rw[hW1];exact((Below.refl _ _).alloc (Nat.le_refl _) _).alloc (by simp) _
 have i1:W1.heap[gA]?=some (.cells #[.int .i64 EX,.slice Al nl cl,.slice Am nm cm,.slice Ad nd cd,.slice Av NV cv,.slice Ap np cp,.slice Ao no co] 35 (0,0)):=by rw[hW1,hgA];exact(Below.heap_alloc _ _ _ (by simp)).trans (heap_alloc_new _ _)
 have i2:W1.heap[gB]?=some (.cells #[.int .i64 EG,.slice Bl' ml kl,.slice Bm mm km,.slice Bd md kd,.slice Bv NV kv,.slice Bp mp kp,.slice Bo no ko] 35 (0,0)):=by rw[hW1,hgB];exact heap_alloc_at _ _ _ (by simp)
 have l1:=(Array.getElem?_eq_some_iff.1 i1).1
 have l2:=(Array.getElem?_eq_some_iff.1 i2).1
 have HK:=zh (show ∀w',Below W1.heap.size W1 w'→(w'.heap[gA]?=some (.cells #[.int .i64 EX,.slice Al nl cl,.slice Am nm cm,.slice Ad nd cd,.slice Av NV cv,.slice Ap np cp,.slice Ao no co] 35 (0,0))∧w'.heap[gB]?=some (.cells #[.int .i64 EG,.slice Bl' ml kl,.slice Bm mm km,.slice Bd md kd,.slice Bv NV kv,.slice Bp mp kp,.slice Bo no ko] 35 (0,0))∧Below w.heap.size w w') from fun w' hb=>⟨(hb.block gA l1).trans i1,(hb.block gB l2).trans i2,hb1.trans (hb.mono hb1.size)⟩)
 have HW:=zh (And.intro hW1 (And.intro hgA hgB))
 have HNO:=zh hno
 have HPOS:=zh hpos
 clear hf hok hg hgk hvo hdv hl hlo hEX hEG hNV hNO hW1 hgA hgB hb1 i1 i2 l1 l2 hno hpos
 go_enter Tryz.func18,Tryz.ntmps18
 go_upto_region 1 with fail
 rw[←HW.out.1,←HW.out.2.1,show gA+1=gB by (have:=HW.out;omega)]
 obtain⟨c0,c1,c2,c3,c4,c5,c6⟩:=cells7 (HK.out W1 (Below.refl _ _)).1
 go_wp2_with fail
 refine(HVF.out W1 (HK.out W1 (Below.refl _ _)).2.2).mono ?_
 rintro e w2 ⟨rfl,hb2⟩
 have HB2:=zh hb2
 clear hb2 c0 c1 c2 c3 c4 c5 c6
 obtain⟨d0,d1,d2,d3,d4,d5,d6⟩:=cells7 (HK.out w2 HB2.out).2.1
 go_wp2_with fail
 refine(HVG.out w2 (HK.out w2 HB2.out).2.2).mono ?_
 rintro e w3 ⟨rfl,hb3⟩
 have HB3:=zh (HB2.out.trans (hb3.mono HB2.out.size))
 clear hb3 d0 d1 d2 d3 d4 d5 d6
 obtain⟨c0,c1,c2,c3,c4,c5,c6⟩:=cells7 (HK.out w3 HB3.out).1
 obtain⟨d0,d1,d2,d3,d4,d5,d6⟩:=cells7 (HK.out w3 HB3.out).2.1
 go_wp2_with fail
 refine(HSH.out w3 (HK.out w3 HB3.out).2.2).mono ?_
 rintro e w4 ⟨rfl,hb4⟩
 have HB4:=zh (HB3.out.trans (hb4.mono HB3.out.size))
 clear hb4 c0 c1 c2 c3 c4 c5 c6 d0 d1 d2 d3 d4 d5 d6
 go_wp2_with fail
 refine(HRW.out w4 (HK.out w4 HB4.out).2.2).mono ?_
 rintro e w5 ⟨gO,B,vs,rfl,hgO,hgr,hb5⟩
 have HB5:=zh (HB4.out.trans (hb5.mono HB4.out.size))
 have hp0:=hgr
 rw[←partL_zero G L] at hp0
 have HG5:=zh hp0
 have HGO:=zh (show W1.heap.size≤gO∧gO<B∧w.heap.size≤gO from⟨Nat.le_trans HB4.out.size hgO,hgr.low,Nat.le_trans (HK.out w4 HB4.out).2.2.size hgO⟩)
 have hBz:B≤w5.heap.size:=by
  obtain⟨l,hl⟩:∃l,L[0]?=some l:=⟨_,List.getElem?_eq_getElem (by rw[HLO.out.1,←HVO.out.2.2.1];exact HPOS.out)⟩
  obtain⟨v,-,ho⟩:=hgr.at_ hl
  obtain⟨q,c,rfl,hq⟩:=own_newL ho (by have h1:=(HLO.out.2 0 l hl).1;have h2:=(HSF.out 0 HPOS.out).1;omega)
  have:=(ho.lt q rfl).2
  omega
 have HBZ:=zh hBz
 clear hb5 hp0 hgr hgO hBz b1 b2
 go_wp2_with fail
 go_loopg [47] no (fun z v47 wr=>∃(j:Nat) (vs:List Value),j≤no∧z=no - j∧v47=.int .i64 (j:Int)∧Hid (Below W1.heap.size W1 wr)∧Hid (B≤wr.heap.size∧GridA wr gO no B vs (partL G L j))∧Hid (∀k,k<j→szN F k≤szN G k))
 case atStart=>exact⟨0,vs,by omega,rfl,rfl,HB5,zh ⟨HBZ.out,HG5.out⟩,zh (fun k hk=>absurd hk (Nat.not_lt_zero _))⟩
 case round =>
  obtain⟨j,vs',hj,rfl,rfl,HB,HGR,HLE⟩:=hrel
  obtain⟨W6,hW6⟩:=zx wr
  rw[←hW6] at HB HGR ⊢
  clear hW6
  by_cases hlt:j<no
  ·have hjl:j<L.length:=by rw[HLO.out.1,←HVO.out.2.2.1];exact hlt
   obtain⟨l,hl⟩:∃l,L[j]?=some l:=⟨_,List.getElem?_eq_getElem hjl⟩
   obtain⟨d0,d1,d2,d3,d4,d5,d6⟩:=cells7 (HK.out W6 HB.out).2.1
   have hsf:=HSF.out j hlt
   have hll:=(HLO.out.2 j l hl).1
   obtain⟨SG,hSG⟩:=zx (szN G j)
   obtain⟨NL,hNL⟩:=zx l.length
   have HFG:=zh (HFR.out j W6 (HK.out W6 HB.out).2.2 hlt)
   rw[←hSG] at HFG
   have HLX:=zh (And.intro hl (And.intro hSG (And.intro hNL hll)))
   have HSZ:=zh (show NL≤6∧1≤NL∧SG≤6∧NL=szN F j from⟨by omega,by omega,by omega,by omega⟩)
   clear hl hsf hll hSG hNL hjl
   have lj:(j:Int)<(no:Int):=by omega
   have l12:(no:Int)≤12:=by have:=HNO.out.1;omega
   go_wp2_with fail
   refine HFG.out.mono ?_
   rintro e w7 ⟨rfl,hb7⟩
   have HB7:=zh (HB.out.trans (hb7.mono HB.out.size))
   have hgr7:=HGR.out.2.below hb7
   obtain⟨v,hv,ho⟩:=hgr7.at_ (k:=j) (l:=l) (by rw[partL_at (by have:=(List.getElem?_eq_some_iff.1 HLX.out.1).1;exact this)];exact HLX.out.1)
   obtain⟨A2,c2,rfl⟩:=own_form ho
   rw[←HLX.out.2.2.1] at hv
   have e1:=(hgr7.cell hv).1
   have HG7:=zh (show B≤w7.heap.size∧GridA w7 gO no B vs' (partL G L j) from⟨Nat.le_trans HGR.out.1 hb7.size,hgr7⟩)
   clear d0 d1 d2 d3 d4 d5 d6 hb7 hgr7 hv ho HFG
   by_cases hsm:SG<NL
   ·have k1:((SG:Int)<(NL:Int)):=by omega
    go_wp2_with fail
    exact bodyPost_ret (v:=.tuple #[.slice none 0 0,.int .i64 1]) (by simp[results,Tryz.results18]) rfl ⟨(HK.out w7 HB7.out).2.2,.inl ⟨rfl,j,hlt,by have h1:=HLX.out.2.1;have h2:=HSZ.out.2.2.2;omega⟩⟩
   ·have k1:decide (SG<NL)=false:=decide_eq_false hsm
    have k4:decide ((SG:Int)<(NL:Int))=false:=decide_eq_false (by omega)
    obtain⟨KN,hK⟩:=zx (SG - NL)
    have k2:IntKind.i64.wrap ((SG:Int) - (NL:Int))=(KN:Int):=by rw[hK];rw[IntWalk.i64_in _ (by have:=HSZ.out;omega)];omega
    have k3:wrap64 ((SG:Int) - (NL:Int))=(KN:Int):=by rw[hK];rw[IntWalk.wrap64_in _ (by have:=HSZ.out;omega)];omega
    have hset0:(partL G L j).set j (l++List.replicate 0 (-1))=partL G L j:=by
     rw[List.replicate_zero,List.append_nil]
     exact set_hereL (by rw[partL_at (List.getElem?_eq_some_iff.1 HLX.out.1).1];exact HLX.out.1)
    have HKK:=zh (show KN=SG - NL∧NL+KN=SG∧KN≤6 from⟨hK,by omega,by have:=HSZ.out;omega⟩)
    have HS0:=zh hset0
    clear hK hset0 hsm
    go_wp2_with fail
    clear e1 k1 k2 k3 k4
    go_loopg [67] KN (fun z v67 wr=>∃(i:Nat) (vs:List Value),i≤KN∧z=KN - i∧v67=.int .i64 (i:Int)∧Hid (Below W1.heap.size W1 wr)∧Hid (B≤wr.heap.size∧GridA wr gO no B vs ((partL G L j).set j (l++List.replicate i (-1)))))
    case atStart=>exact⟨0,vs',by omega,rfl,rfl,HB7,zh (by rw[HS0.out];exact HG7.out)⟩
    case round =>
     obtain⟨i,ws,hi,rfl,rfl,HB,HGI⟩:=hrel
     obtain⟨W8,hW8⟩:=zx wr
     rw[←hW8] at HB HGI ⊢
     clear hW8
     by_cases hlt2:i<KN
     ·obtain⟨v,hv,ho⟩:=HGI.out.2.at_ (k:=j) (l:=l++List.replicate i (-1)) (by rw[List.getElem?_set_self (by rw[partL_len];exact(List.getElem?_eq_some_iff.1 HLX.out.1).1)])
      obtain⟨A3,c3,rfl⟩:=own_form ho
      obtain⟨N3,hN3⟩:=zx ((l++List.replicate i (-1:Int)).length)
      rw[←hN3] at hv ho
      have e1:=(HGI.out.2.cell hv).1
      have HV:=zh hv
      have HO:=zh ho
      have HN3:=zh (show N3=(l++List.replicate i (-1:Int)).length∧N3≤12 from⟨hN3,by rw[hN3,List.length_append,List.length_replicate];have:=HLX.out;have:=HSZ.out;have:=HKK.out;omega⟩)
      have li:(i:Int)<(KN:Int):=by omega
      have lk:(KN:Int)≤6:=by have:=HKK.out;omega
      clear hv ho hN3
      go_upto_region 12 with fail
      refine wp_region_lit ?_
      refine wpList_plain rfl (fun K hK=>?_)
      go_simp
      refine hK _ _ ?_
      clear hK
      (try simp only[Act.put,z1,z2,z3])
      refine wpList_plain rfl (fun K hK=>?_)
      go_simp
      refine hK _ _ ?_
      clear hK
      (try simp only[Act.put,z1,z2,z3])
      refine wpList_plain rfl (fun K hK=>?_)
      go_simp
      refine hK _ _ ?_
      clear hK
      (try simp only[Act.put,z1,z2,z3])
      refine wpList_plain rfl (fun K hK=>?_)
      go_simp
      refine hK _ _ ?_
      clear hK
      (try simp only[Act.put,z1,z2,z3])
      refine wpList_plain rfl (fun K hK=>?_)
      go_simp
      refine hK _ _ ?_
      clear hK
      (try simp only[Act.put,z1,z2,z3])
      refine wpList_plain rfl (fun K hK=>?_)
      go_simp
      refine hK _ _ ?_
      clear hK
      (try simp only[Act.put,z1,z2,z3])
      clear e1
      refine wpList_plain rfl (fun K hK=>?_)
      go_simp
      refine hK _ _ ?_
      clear hK
      (try simp only[Act.put,z1,z2,z3])
      obtain⟨W9,hW9⟩:=zx (W8.alloc (.cells #[.int .i64 (-1)] 3))
      have hb9:Below W8.heap.size W8 W9:=by rw[hW9];exact(Below.refl _ _).alloc (Nat.le_refl _) _
      have hs9:W9.heap.size=W8.heap.size+1:=by rw[hW9];simp
      have HW9:=zh hW9
      have HB9:=zh hb9
      have HS9:=zh hs9
      clear hW9 hb9 hs9
      refine app_lit [.int .i64 (-1)] 3 22 info_intL Tryz.underlying22 rfl (by omega) (by omega) rfl (fun u hu=>by rw[List.mem_singleton.1 hu];rfl) (.tmp 74) (.tmp 75) rfl rfl B (.slice A3 N3 c3) N3 ((l++List.replicate i (-1)).map (Value.int .i64)) (by rfl) HO.out (by rfl) (by have:=HN3.out.2;omega) HGI.out.1 ?_
      intro v' w' ho' hg' hat'
      have hg9:W9.grownBy w' (Value.slice A3 N3 c3).ownBlock:=by rw[HW9.out];exact hg'
      have hgi9:=HGI.out.2.below HB9.out
      have hown:∀b,(Value.slice A3 N3 c3).ownBlock=some b→B≤b:=fun b hb=>(HO.out.lt b hb).1
      have hl2:(l++List.replicate (i+1) (-1:Int))=(l++List.replicate i (-1))++[-1]:=by rw[List.replicate_succ',List.append_assoc]
      have ho2:w'.ownsRow B 3 1 v' (l++List.replicate (i+1) (-1:Int)).length ((l++List.replicate (i+1) (-1:Int)).map (Value.int .i64)):=by
       rw[hl2,List.length_append,←HN3.out.1,List.map_append]
       exact ho'
      have happ:=hgi9.app (k:=j) (l':=l++List.replicate (i+1) (-1)) HV.out (by rw[List.getElem?_set_self (by rw[partL_len];exact(List.getElem?_eq_some_iff.1 HLX.out.1).1)]) hg9 ho2 (by rw[HS9.out];exact hat') hown
      rw[List.set_set] at happ
      obtain⟨A4,c4,rfl⟩:=own_form ho'
      have hgl:=hgi9.lt
      have hlow:=hgi9.low
      have hbk:w'.heap[gO]?=W9.heap[gO]?:=hg9.block gO hgl (fun e=>by have:=hown gO e.symm;omega)
      have x1:w'.cell? ⟨gO,j,none⟩=some (.slice A3 N3 c3):=(World.cell?_of_block (a:=⟨gO,j,none⟩) hbk).trans (hgi9.cell HV.out).1
      have z1:w'.frozen? ⟨gO,j,none⟩=false:=by
       obtain⟨cs,h1,-⟩:=hgi9.outer
       exact frozen_of_row _ _ _ _ _ (hbk.trans h1)
      have hbw:Below W1.heap.size W1 w':=Below.grown (HB.out.trans (HB9.out.mono HB.out.size)) hg9 (Nat.le_trans HB.out.size HB9.out.size) (fun k hk=>by have:=hown k hk;have:=HGO.out;omega)
      have HB10:=zh (show Below W1.heap.size W1 (w'.setCell ⟨gO,j,none⟩ (.slice A4 (N3+1) c4)) from hbw.setCell (show W1.heap.size≤gO from HGO.out.1) _)
      have HG10:=zh (show B≤(w'.setCell ⟨gO,j,none⟩ (.slice A4 (N3+1) c4)).heap.size∧GridA (w'.setCell ⟨gO,j,none⟩ (.slice A4 (N3+1) c4)) gO no B (ws.set j (.slice A4 (N3+1) c4)) ((partL G L j).set j (l++List.replicate (i+1) (-1))) from⟨by simp;exact Nat.le_trans HGI.out.1 (Nat.le_trans HB9.out.size hg9.size),happ⟩)
      clear ho' hg' hat' hg9 hgi9 hown hl2 ho2 happ hgl hlow hbk hbw
      (try simp only[Act.put,z1,z2,z3])
      go_wp2_with fail
      clear x1 z1
      go_roundg (KN - (i+1))
      case measure=>omega
      case rel=>exact⟨i+1,_,by omega,rfl,by go_num,HB10,HG10⟩
     ·have hie:i=KN:=by omega
      have hset:(partL G L j).set j (l++List.replicate i (-1))=partL G L (j+1):=by
       rw[hie,HKK.out.1,HLX.out.2.1,HLX.out.2.2.1]
       exact partL_set HLX.out.1
      have HG9:=zh HGI.out
      rw[hset] at HG9
      have HLE2:=zh (show ∀k,k<j+1→szN F k≤szN G k from fun k hk=>by
       rcases Nat.lt_or_ge k j with h | h
       ·exact HLE.out k h
       ·have:k=j:=by omega
        subst this
        have h1:=HLX.out.2.1;have h2:=HSZ.out.2.2.2;have h3:=HKK.out.2.1;omega)
      clear hset hie HLE HGI
      go_wp2_with fail
      go_roundg (no - (j+1))
      case measure=>omega
      case rel=>exact⟨j+1,ws,by omega,rfl,by go_num,HB,HG9,HLE2⟩
  ·have HJE:=zh (show j=no by omega)
   go_wp2_with fail
   have hgr:=HGR.out.2
   have hle:=HLE.out
   rw[HJE.out] at hgr hle
   rw[show no=L.length from by rw[HLO.out.1,HVO.out.2.2.1],partL_all,←(show no=L.length from by rw[HLO.out.1,HVO.out.2.2.1])] at hgr
   have hok2:=ext_ok HLO.out HVO.out.1 HVO.out.2.1 (by rw[←HVO.out.2.2.1];exact hle)
   have hsl:=GridA.slS hgr (lay_i64 hok2 (by have:=HVO.out;have:=HNO.out.2;omega)) (R:=Bl W6.heap.size) (fun b _ hb=>hb)
   rw[extL_len,HLO.out.1,←HVO.out.2.2.1] at hsl
   exact bodyPost_ret (v:=.tuple #[.slice (some ⟨gO,0,none⟩) no no,.int .i64 0]) (by simp[results,Tryz.results18]) rfl ⟨(HK.out W6 HB.out).2.2,.inr ⟨_,_,_,rfl,hsl,hle⟩⟩
theorem ints_src{w:World} {R:Nat→Prop} {A:Option Addr} {n c:Nat} {l:List Int} (h:IntS w R (.slice A n c) l) (h0:0<l.length):∃b off,A=some ⟨b,off,none⟩∧R b∧∀(i:Nat) u,(l.map (Value.int .i64))[i]?=some u→w.cell? ((⟨b,off,none⟩:Addr).add i)=some u:=by
 obtain⟨b,off,hA,hR,-,-⟩:=h.at7 (k:=0) h0
 refine⟨b,off,hA,hR,fun i u hu=>?_⟩
 rw[List.getElem?_map] at hu
 cases hl:l[i]? with
 | none=>rw[hl] at hu;simp at hu
 | some x =>
  rw[hl] at hu
  injection hu with hu
  subst hu
  have hi:=(List.getElem?_eq_some_iff.1 hl).1
  obtain⟨b2,off2,hA2,-,hc,-⟩:=h.at7 (k:=i) hi
  rw[hA] at hA2
  injection hA2 with hA2
  injection hA2 with e1 e2
  subst e1 e2
  rw[(List.getElem?_eq_some_iff.1 hl).2] at hc
  rw[Addr.add_mid]
  exact hc
theorem rextend_any(N:Nat) (hN:N≤12) (vl vm vd vv vp vo ul um ud uv up uo vL:Value) (F G:FltM) (L:List (List Int)) (w:World) (hf:FleetS w (Bl w.heap.size) vl vm vd vv vp vo F) (hok:FleetOk N F) (hg:FleetS w (Bl w.heap.size) ul um ud uv up uo G) (hgk:FleetOk N G)
  (hvo:F.vols.length=G.vols.length) (hdv:F.dves.length=G.dves.length) (hl:SlS 1 RowIK w (Bl w.heap.size) vL L) (hlo:LayOk F F.vols.length L) :
  Calls Tryz.prog 19 #[.agg #[.int .i64 F.ext,vl,vm,vd,vv,vp,vo],.agg #[.int .i64 G.ext,ul,um,ud,uv,up,uo],vL] w fun e w'=>Below w.heap.size w w' ∧
   ((e=.returned (.tuple #[.slice none 0 0,.int .i64 1])∧∃v,v<F.vols.length∧szN G v<szN F v)∨(∃A n c,e=.returned (.tuple #[.slice A n c,.int .i64 0])∧SlS 1 RowIK w' (Bl w'.heap.size) (.slice A n c) (extL G L)∧∀v,v<F.vols.length→szN F v≤szN G v)):=by
 have HVF:=zh (fun(w':World) (hb:Below w.heap.size w w')=>rvalidate_k N hN _ _ _ _ _ _ F w' (hf.below hb) hok)
 have HVG:=zh (fun(w':World) (hb:Below w.heap.size w w')=>rvalidate_k N hN _ _ _ _ _ _ G w' (hg.below hb) hgk)
 have HSH:=zh (fun(w':World) (hb:Below w.heap.size w w')=>rshaped_any N hN _ _ _ _ _ _ vL F L w' (hf.below hb) hok (SlS.below rowIK hl hb) hlo)
 have HRS:=zh hl
 have HFF:=zh (fun(v:Nat) (w':World) (hb:Below w.heap.size w w') (hv:v<F.vols.length)=>rsize38_any N hN _ _ _ _ _ _ F v w' (hf.below hb) hok hv)
 have HFR:=zh (fun(v:Nat) (w':World) (hb:Below w.heap.size w w') (hv:v<F.vols.length)=>rsize38_any N hN _ _ _ _ _ _ G v w' (hg.below hb) hgk (by rw[←hvo];exact hv))
 have HSF:=zh (fun(v:Nat) (hv:v<F.vols.length)=>And.intro (szN_range hok hv) (szN_range hgk (v:=v) (by rw[←hvo];exact hv)))
 obtain⟨Al,nl,cl,rfl⟩:=hf.1.form3
 obtain⟨Am,nm,cm,rfl⟩:=hf.2.1.form3
 obtain⟨Ad,nd,cd,rfl⟩:=hf.2.2.1.form3
 obtain⟨Av,cv,hvv,-⟩:=hf.2.2.2.1.form
 subst hvv
 obtain⟨Ap,np,cp,rfl⟩:=hf.2.2.2.2.1.form3
 obtain⟨Ao,co,hvoo,-⟩:=hf.2.2.2.2.2.form
 subst hvoo
 obtain⟨Bl',ml,kl,rfl⟩:=hg.1.form3
 obtain⟨Bm,mm,km,rfl⟩:=hg.2.1.form3
 obtain⟨Bd,md,kd,rfl⟩:=hg.2.2.1.form3
 obtain⟨Bv,kv,huv,-⟩:=hg.2.2.2.1.form
 subst huv
 obtain⟨Bp,mp,kp,rfl⟩:=hg.2.2.2.2.1.form3
 obtain⟨Bo,ko,huo,-⟩:=hg.2.2.2.2.2.form
 subst huo
 obtain⟨AL,cL,hvL,-,-⟩:=hl.form
 subst hvL
 obtain⟨EX,hEX⟩:=zx F.ext
 obtain⟨EG,hEG⟩:=zx G.ext
 obtain⟨NV,hNV⟩:=zx F.dves.length
 obtain⟨no,hNO⟩:=zx F.vols.length
 have hpos:0<no:=by rw[hNO];have:=hok.vol1;omega
 have hno:no≤12∧NV≤9:=by rw[hNO,hNV];have:=hok.volN;have:=hok.dveN;omega
 rw[←hvo,←hdv] at HVG HFR ⊢
 rw[hlo.1] at HSH HRS ⊢
 rw[←hEX,←hNV,←hNO] at HVF HSH HFF
 rw[←hNO] at HRS
 rw[←hEG,←hNV,←hNO] at HVG HFR
 rw[←hNO] at HSF
 rw[←hEX,←hEG,←hNV,←hNO]
 have HLO:=zh hlo
 have HVO:=zh (show F.vols.length=G.vols.length∧F.dves.length=G.dves.length∧no=F.vols.length∧NV=F.dves.length from⟨hvo,hdv,hNO,hNV⟩)
 have b1:((no:Int) != (no:Int))=false:=by simp
 have b2:((NV:Int) != (NV:Int))=false:=by simp
 obtain⟨W1,hW1⟩:=zx ((w.alloc (.cells #[.int .i64 EX,.slice Al nl cl,.slice Am nm cm,.slice Ad nd cd,.slice Av NV cv,.slice Ap np cp,.slice Ao no co] 35)).alloc (.cells #[.int .i64 EG,.slice Bl' ml kl,.slice Bm mm km,.slice Bd md kd,.slice Bv NV kv,.slice Bp mp kp,.slice Bo no ko] 35))
 obtain⟨gA,hgA⟩:=zx w.heap.size
 obtain⟨gB,hgB⟩:=zx (w.heap.size+1)
 have hb1:Below w.heap.size w W1:=by rw[hW1];exact((Below.refl _ _).alloc (Nat.le_refl _) _).alloc (by simp) _
 have i1:W1.heap[gA]?=some (.cells #[.int .i64 EX,.slice Al nl cl,.slice Am nm cm,.slice Ad nd cd,.slice Av NV cv,.slice Ap np cp,.slice Ao no co] 35 (0,0)):=by rw[hW1,hgA];exact(Below.heap_alloc _ _ _ (by simp)).trans (heap_alloc_new _ _)
 have i2:W1.heap[gB]?=some (.cells #[.int .i64 EG,.slice Bl' ml kl,.slice Bm mm km,.slice Bd md kd,.slice Bv NV kv,.slice Bp mp kp,.slice Bo no ko] 35 (0,0)):=by rw[hW1,hgB];exact heap_alloc_at _ _ _ (by simp)
 have l1:=(Array.getElem?_eq_some_iff.1 i1).1
 have l2:=(Array.getElem?_eq_some_iff.1 i2).1
 have HK:=zh (show ∀w',Below W1.heap.size W1 w'→(w'.heap[gA]?=some (.cells #[.int .i64 EX,.slice Al nl cl,.slice Am nm cm,.slice Ad nd cd,.slice Av NV cv,.slice Ap np cp,.slice Ao no co] 35 (0,0))∧w'.heap[gB]?=some (.cells #[.int .i64 EG,.slice Bl' ml kl,.slice Bm mm km,.slice Bd md kd,.slice Bv NV kv,.slice Bp mp kp,.slice Bo no ko] 35 (0,0))∧Below w.heap.size w w') from fun w' hb=>⟨(hb.block gA l1).trans i1,(hb.block gB l2).trans i2,hb1.trans (hb.mono hb1.size)⟩)
 have HW:=zh (And.intro hW1 (And.intro hgA hgB))
 have HNO:=zh hno
 have HPOS:=zh hpos
 clear hf hok hg hgk hvo hdv hl hlo hEX hEG hNV hNO hW1 hgA hgB hb1 i1 i2 l1 l2 hno hpos
 go_enter Tryz.func19,Tryz.ntmps19
 go_upto_region 1 with fail
 rw[←HW.out.1,←HW.out.2.1,show gA+1=gB by (have:=HW.out;omega)]
 obtain⟨c0,c1,c2,c3,c4,c5,c6⟩:=cells7 (HK.out W1 (Below.refl _ _)).1
 go_wp2_with fail
 refine(HVF.out W1 (HK.out W1 (Below.refl _ _)).2.2).mono ?_
 rintro e w2 ⟨rfl,hb2⟩
 have HB2:=zh hb2
 clear hb2 c0 c1 c2 c3 c4 c5 c6
 obtain⟨d0,d1,d2,d3,d4,d5,d6⟩:=cells7 (HK.out w2 HB2.out).2.1
 go_wp2_with fail
 refine(HVG.out w2 (HK.out w2 HB2.out).2.2).mono ?_
 rintro e w3 ⟨rfl,hb3⟩
 have HB3:=zh (HB2.out.trans (hb3.mono HB2.out.size))
 clear hb3 d0 d1 d2 d3 d4 d5 d6
 obtain⟨c0,c1,c2,c3,c4,c5,c6⟩:=cells7 (HK.out w3 HB3.out).1
 obtain⟨d0,d1,d2,d3,d4,d5,d6⟩:=cells7 (HK.out w3 HB3.out).2.1
 go_wp2_with fail
 refine(HSH.out w3 (HK.out w3 HB3.out).2.2).mono ?_
 rintro e w4 ⟨rfl,hb4⟩
 have HB4:=zh (HB3.out.trans (hb4.mono HB3.out.size))
 clear hb4 c0 c1 c2 c3 c4 c5 c6 d0 d1 d2 d3 d4 d5 d6
 go_wp2_with fail
 clear b1 b2
 go_loopg [8,9] no (fun z v8 v9 wr=>∃j:Nat,j≤no∧z=no - j∧v9=.int .i64 (j:Int)∧Hid (Below W1.heap.size W1 wr)∧Hid (OwnK 1 RowIK wr W1.heap.size 22 v8 ((extL G L).take j) (Fz W1.heap.size wr.heap.size v8))∧Hid (∀k,k<j→szN F k≤szN G k))
 case atStart=>exact⟨0,by omega,rfl,rfl,HB4,zh (by rw[List.take_zero];exact OwnK.nil _ _ _ _ _ _),zh (fun k hk=>absurd hk (Nat.not_lt_zero _))⟩
 case round =>
  rename_i v8
  obtain⟨j,hj,rfl,rfl,HB,HOUT,HLE⟩:=hrel
  obtain⟨W6,hW6⟩:=zx wr
  rw[←hW6] at HB HOUT ⊢
  clear hW6
  obtain⟨A8,c8,hv8⟩:=HOUT.out.form
  obtain⟨n8,hn8⟩:=zx (((extL G L).take j).length)
  rw[←hn8] at hv8
  subst hv8
  have HN8:=zh hn8
  clear hn8
  by_cases hlt:j<no
  ·have hjl:j<L.length:=by rw[HLO.out.1,←HVO.out.2.2.1];exact hlt
   obtain⟨l,hl⟩:∃l,L[j]?=some l:=⟨_,List.getElem?_eq_getElem hjl⟩
   obtain⟨b,off,cs,hAe,hR,-,hc,hcs⟩:=HRS.out.at_ (k:=j) hjl
   rw[(List.getElem?_eq_some_iff.1 hl).2] at hcs
   obtain⟨vr,rfl,hr⟩:=hcs
   subst hAe
   have hsf:=HSF.out j hlt
   have hll:=(HLO.out.2 j l hl).1
   obtain⟨A1,c1,hv1,-,-⟩:=hr.form7
   subst hv1
   obtain⟨b1,off1,hA1,hR1,hsrc⟩:=ints_src hr (by omega)
   subst hA1
   obtain⟨SG,hSG⟩:=zx (szN G j)
   obtain⟨NL,hNL⟩:=zx l.length
   rw[←hNL] at hc
   have f0:w.cell? ⟨b,off+j,none⟩=some (.slice (some ⟨b1,off1,none⟩) NL c1):=by have:=hc 0 _ rfl;simpa using this
   have HRC:=zh (show ∀w',Below W1.heap.size W1 w'→w'.cell? ⟨b,off+j,none⟩=some (.slice (some ⟨b1,off1,none⟩) NL c1)∧∀(i:Nat) u,(l.map (Value.int .i64))[i]?=some u→w'.cell? ((⟨b1,off1,none⟩:Addr).add i)=some u from fun w' hb=>⟨((HK.out w' hb).2.2.cell (p:=⟨b,off+j,none⟩) hR).trans f0,fun i u hu=>by
    have h1:=hsrc i u hu
    rw[Addr.add_mid] at h1 ⊢
    exact(World.cell?_of_block (a:=⟨b1,off1+i,none⟩) ((HK.out w' hb).2.2.block b1 hR1)).trans h1⟩)
   have HFG:=zh (fun(w':World) (hb:Below w.heap.size w w')=>HFR.out j w' hb hlt)
   have HFO:=zh (fun(w':World) (hb:Below w.heap.size w w')=>HFF.out j w' hb hlt)
   rw[←hSG] at HFG
   rw[←hll,←hNL] at HFO
   have HLX:=zh (And.intro hl (And.intro hSG (And.intro hNL hll)))
   have HSZ:=zh (show NL≤6∧1≤NL∧SG≤6∧NL=szN F j from⟨by omega,by omega,by omega,by omega⟩)
   have HSR:=zh (show ∀w',Below W1.heap.size W1 w'→(w'.rangeAt gA 0 [.int .i64 EX,.slice Al nl cl,.slice Am nm cm,.slice Ad nd cd,.slice Av NV cv,.slice Ap np cp,.slice Ao no co]∧w'.rangeAt gB 0 [.int .i64 EG,.slice Bl' ml kl,.slice Bm mm km,.slice Bd md kd,.slice Bv NV kv,.slice Bp mp kp,.slice Bo no ko]) from fun w' hb=>⟨fun i u hu=>by rw[cell_of_row _ _ _ _ _ _ (HK.out w' hb).1,Nat.zero_add,←Array.getElem?_toList];exact hu,fun i u hu=>by rw[cell_of_row _ _ _ _ _ _ (HK.out w' hb).2.1,Nat.zero_add,←Array.getElem?_toList];exact hu⟩)
   clear hl hsf hll hSG hNL hjl hR hc hr hR1 hsrc f0
   have lj:(j:Int)<(no:Int):=by omega
   have l12:(no:Int)≤12:=by have:=HNO.out.1;omega
   go_upto_region 7 with fail
   by_cases hsm:SG<NL
   ·have k1:decide (SG<NL)=true:=decide_eq_true hsm
    have k4:decide ((SG:Int)<(NL:Int))=true:=decide_eq_true (by omega)
    have hex:∃v,v<no∧szN G v<szN F v:=⟨j,hlt,by have h1:=HLX.out.2.1;have h2:=HSZ.out.2.2.2;omega⟩
    have HEXX:=zh hex
    clear hsm hex
    refine region_tail (S:=(fun w'=>w'.rangeAt gA 0 [.int .i64 EX,.slice Al nl cl,.slice Am nm cm,.slice Ad nd cd,.slice Av NV cv,.slice Ap np cp,.slice Ao no co]∧w'.rangeAt gB 0 [.int .i64 EG,.slice Bl' ml kl,.slice Bm mm km,.slice Bd md kd,.slice Bv NV kv,.slice Bp mp kp,.slice Bo no ko])) [] (by kernel_rfl) (HSR.out _ HB.out.drew) (fun hHeld=>?_)
    refine takeT (i:=0) (d:=49) (v:=(.agg #[.int .i64 EG,.slice Bl' ml kl,.slice Bm mm km,.slice Bd md kd,.slice Bv NV kv,.slice Bp mp kp,.slice Bo no ko])) rfl rfl (by kernel_rfl) (by kernel_rfl) (by kernel_rfl) (by kernel_rfl) (fun _ _ _ h=>h) (yieldsIf_load_mid (by rfl) 35 (.tmp 4) rfl gB 0 (by rfl) [.int .i64 EG,.slice Bl' ml kl,.slice Bm mm km,.slice Bd md kd,.slice Bv NV kv,.slice Bp mp kp,.slice Bo no ko] _ (fun w hw=>hw.2) Tryz.underlying35 rfl size_fltL) (by assumption) ?_
    (try simp only[Act.put,z1,z2,z3])
    refine tk 1 50 ?_
    refine takeT (i:=3) (d:=52) (v:=(.agg #[.int .i64 EX,.slice Al nl cl,.slice Am nm cm,.slice Ad nd cd,.slice Av NV cv,.slice Ap np cp,.slice Ao no co])) rfl rfl (by kernel_rfl) (by kernel_rfl) (by kernel_rfl) (by kernel_rfl) (fun _ _ _ h=>h) (yieldsIf_load_mid (by rfl) 35 (.tmp 3) rfl gA 0 (by rfl) [.int .i64 EX,.slice Al nl cl,.slice Am nm cm,.slice Ad nd cd,.slice Av NV cv,.slice Ap np cp,.slice Ao no co] _ (fun w hw=>hw.1) Tryz.underlying35 rfl size_fltL) (by assumption) ?_
    (try simp only[Act.put,z1,z2,z3])
    refine tk 4 53 ?_
    refine readyT (rs:=[2]) (by kernel_rfl) (by simp) ?_
    refine AllReadyT.cons rfl (fun K hK=>?_) ?_
    ·go_simp
     (go_at_call 51;refine(HFG.out _ (HK.out _ HB.out.drew).2.2).mono ?_;rintro e w7 ⟨rfl,hb7⟩;have HB7:=zh (show Below W1.heap.size W1 w7 from HB.out.drew.trans (hb7.mono HB.out.drew.size));have HX7:=zh (show Below W6.heap.size W6 w7 from((Below.refl _ _).drew:Below W6.heap.size W6 W6.drew).trans hb7);clear hb7)
     go_wp2_with fail
     refine hK.out _ _ ?_ (fun hHeld=>?_)
     ·exact HSR.out _ HB7.out
     clear hK K
     (try simp only[Act.put,z1,z2,z3])
     refine readyT (rs:=[5]) (by kernel_rfl) (by simp) ?_
     refine AllReadyT.cons rfl (fun K hK=>?_) ?_
     ·go_simp
      (go_at_call 51;refine(HFO.out _ (HK.out _ HB7.out).2.2).mono ?_;rintro e w8 ⟨rfl,hb8⟩;have HB8:=zh (show Below W1.heap.size W1 w8 from HB7.out.trans (hb8.mono HB7.out.size));have HX8:=zh (show Below W6.heap.size W6 w8 from HX7.out.trans (hb8.mono HX7.out.size));clear hb8)
      go_wp2_with fail
      refine hK.out _ _ ?_ (fun hHeld=>?_)
      ·exact HSR.out _ HB8.out
      clear hK K
      (try simp only[Act.put,z1,z2,z3])
      refine tk 6 55 ?_
      refine doneT (by kernel_rfl) ?_ _
      clear hHeld
      go_wp2_with fail
      exact bodyPost_ret (v:=.tuple #[.slice none 0 0,.int .i64 1]) (by simp[results,Tryz.results19]) rfl ⟨(HK.out w8 HB8.out).2.2,.inl ⟨rfl,HEXX.out⟩⟩
     exact AllReadyT.nil
    exact AllReadyT.nil
   ·have k1:decide (SG<NL)=false:=decide_eq_false hsm
    have k4:decide ((SG:Int)<(NL:Int))=false:=decide_eq_false (by omega)
    obtain⟨KN,hKN⟩:=zx (SG - NL)
    have HKK:=zh (show KN=SG - NL∧NL+KN=SG∧KN≤6 from⟨hKN,by omega,by have:=HSZ.out;omega⟩)
    clear hKN hsm
    refine region_tail (S:=(fun w'=>w'.rangeAt gA 0 [.int .i64 EX,.slice Al nl cl,.slice Am nm cm,.slice Ad nd cd,.slice Av NV cv,.slice Ap np cp,.slice Ao no co]∧w'.rangeAt gB 0 [.int .i64 EG,.slice Bl' ml kl,.slice Bm mm km,.slice Bd md kd,.slice Bv NV kv,.slice Bp mp kp,.slice Bo no ko])) [] (by kernel_rfl) (HSR.out _ HB.out.drew) (fun hHeld=>?_)
    refine takeT (i:=0) (d:=49) (v:=(.agg #[.int .i64 EG,.slice Bl' ml kl,.slice Bm mm km,.slice Bd md kd,.slice Bv NV kv,.slice Bp mp kp,.slice Bo no ko])) rfl rfl (by kernel_rfl) (by kernel_rfl) (by kernel_rfl) (by kernel_rfl) (fun _ _ _ h=>h) (yieldsIf_load_mid (by rfl) 35 (.tmp 4) rfl gB 0 (by rfl) [.int .i64 EG,.slice Bl' ml kl,.slice Bm mm km,.slice Bd md kd,.slice Bv NV kv,.slice Bp mp kp,.slice Bo no ko] _ (fun w hw=>hw.2) Tryz.underlying35 rfl size_fltL) (by assumption) ?_
    (try simp only[Act.put,z1,z2,z3])
    refine tk 1 50 ?_
    refine takeT (i:=3) (d:=52) (v:=(.agg #[.int .i64 EX,.slice Al nl cl,.slice Am nm cm,.slice Ad nd cd,.slice Av NV cv,.slice Ap np cp,.slice Ao no co])) rfl rfl (by kernel_rfl) (by kernel_rfl) (by kernel_rfl) (by kernel_rfl) (fun _ _ _ h=>h) (yieldsIf_load_mid (by rfl) 35 (.tmp 3) rfl gA 0 (by rfl) [.int .i64 EX,.slice Al nl cl,.slice Am nm cm,.slice Ad nd cd,.slice Av NV cv,.slice Ap np cp,.slice Ao no co] _ (fun w hw=>hw.1) Tryz.underlying35 rfl size_fltL) (by assumption) ?_
    (try simp only[Act.put,z1,z2,z3])
    refine tk 4 53 ?_
    refine readyT (rs:=[2]) (by kernel_rfl) (by simp) ?_
    refine AllReadyT.cons rfl (fun K hK=>?_) ?_
    ·go_simp
     (go_at_call 51;refine(HFG.out _ (HK.out _ HB.out.drew).2.2).mono ?_;rintro e w7 ⟨rfl,hb7⟩;have HB7:=zh (show Below W1.heap.size W1 w7 from HB.out.drew.trans (hb7.mono HB.out.drew.size));have HX7:=zh (show Below W6.heap.size W6 w7 from((Below.refl _ _).drew:Below W6.heap.size W6 W6.drew).trans hb7);clear hb7)
     go_wp2_with fail
     refine hK.out _ _ ?_ (fun hHeld=>?_)
     ·exact HSR.out _ HB7.out
     clear hK K
     (try simp only[Act.put,z1,z2,z3])
     refine readyT (rs:=[5]) (by kernel_rfl) (by simp) ?_
     refine AllReadyT.cons rfl (fun K hK=>?_) ?_
     ·go_simp
      (go_at_call 51;refine(HFO.out _ (HK.out _ HB7.out).2.2).mono ?_;rintro e w8 ⟨rfl,hb8⟩;have HB8:=zh (show Below W1.heap.size W1 w8 from HB7.out.trans (hb8.mono HB7.out.size));have HX8:=zh (show Below W6.heap.size W6 w8 from HX7.out.trans (hb8.mono HX7.out.size));clear hb8)
      go_wp2_with fail
      refine hK.out _ _ ?_ (fun hHeld=>?_)
      ·exact HSR.out _ HB8.out
      clear hK K
      (try simp only[Act.put,z1,z2,z3])
      refine tk 6 55 ?_
      refine doneT (by kernel_rfl) ?_ _
      clear hHeld
      have e1:=(HRC.out w8 HB8.out).1
      go_upto_region 9 with fail
      clear k1 k4
      refine wp_region_lit ?_
      refine wpList_plain rfl (fun K hK=>?_)
      go_simp
      refine hK _ _ ?_
      clear hK
      (try simp only[Act.put,z1,z2,z3])
      refine wpList_plain rfl (fun K hK=>?_)
      go_simp
      refine hK _ _ ?_
      clear hK
      (try simp only[Act.put,z1,z2,z3])
      refine wpList_plain rfl (fun K hK=>?_)
      go_simp
      refine hK _ _ ?_
      clear hK
      (try simp only[Act.put,z1,z2,z3])
      refine wpList_plain rfl (fun K hK=>?_)
      go_simp
      refine hK _ _ ?_
      clear hK
      (try simp only[Act.put,z1,z2,z3])
      obtain⟨i0,hi0,hz0,hz1,hz2⟩:=info_parts info_intL
      refine wpList_append_own_at (P:=Tryz.prog) _ rfl (.const (.slice none 0 0)) (.tmp 59) 22 rfl w8.heap.size 3 i0 _ 1 8 Tryz.underlying22 hi0 hz0 hz1 hz2 rfl (by omega) (.slice none 0 0) 0 [] (by rfl) (World.ownsRow_nil _ _ _ _) ⟨b1,off1,none⟩ NL c1 (l.map (Value.int .i64)) (by rfl) (by rw[List.length_map,HLX.out.2.2.1,Nat.mul_one]) (HRC.out w8 HB8.out).2 (fun u hu=>by obtain⟨x,-,rfl⟩:=List.mem_map.1 hu;rfl) (by have:=HSZ.out.1;unfold maxLen;omega) (by have:=HSZ.out.1;omega) (Nat.le_refl _) ?_
      intro v9 w9 ho9 hg9 _ _
      have hb9:Below w8.heap.size w8 w9:=Below.grown (Below.refl _ _) hg9 (Nat.le_refl _) (fun k hk=>by simp[Value.ownBlock] at hk)
      have ho9':w9.ownsRow w8.heap.size 3 1 v9 (l++List.replicate 0 (-1:Int)).length ((l++List.replicate 0 (-1:Int)).map (Value.int .i64)):=by
       rw[List.replicate_zero,List.append_nil,←HLX.out.2.2.1]
       simpa using ho9
      have HB9:=zh hb9
      have HO9:=zh ho9'
      clear ho9 hg9 hb9 ho9' hi0 hz0 hz1 hz2 i0 e1
      (try simp only[Act.put,z1,z2,z3])
      go_wp2_with fail
      go_loopg [10] KN (fun z v10 wr=>∃i:Nat,i≤KN∧z=KN - i∧Hid (Below w8.heap.size w8 wr)∧Hid (wr.ownsRow w8.heap.size 3 1 v10 (l++List.replicate i (-1:Int)).length ((l++List.replicate i (-1:Int)).map (Value.int .i64))))
      case atStart=>exact⟨0,by omega,rfl,HB9,HO9⟩
      case round =>
       rename_i v10
       obtain⟨i,hi,rfl,HBI,HOI⟩:=hrel
       obtain⟨W8,hW8⟩:=zx wr
       rw[←hW8] at HBI HOI ⊢
       clear hW8
       obtain⟨A3,c3,hv3⟩:=own_form HOI.out
       obtain⟨N3,hN3⟩:=zx ((l++List.replicate i (-1:Int)).length)
       rw[←hN3] at hv3 HOI
       subst hv3
       have hn3:N3=NL+i:=by rw[hN3,List.length_append,List.length_replicate,HLX.out.2.2.1]
       have HN3:=zh (show N3=(l++List.replicate i (-1:Int)).length∧N3≤12 from⟨hN3,by have:=HSZ.out;have:=HKK.out;omega⟩)
       have HW8:=zh (HB8.out.trans (HBI.out.mono HB8.out.size))
       obtain⟨d0,d1,d2,d3,d4,d5,d6⟩:=cells7 (HK.out W8 HW8.out).2.1
       have HSZ8:=zh (HFG.out W8 (HK.out W8 HW8.out).2.2)
       by_cases hlt2:i<KN
       ·have k1:decide (N3<SG)=true:=decide_eq_true (by have:=HKK.out;omega)
        have k4:decide ((N3:Int)<(SG:Int))=true:=decide_eq_true (by have:=HKK.out;omega)
        clear hN3 hn3
        go_wp2_with fail
        refine HSZ8.out.mono ?_
        rintro e w10 ⟨rfl,hb10⟩
        have HB10:=zh (HBI.out.trans (hb10.mono HBI.out.size))
        have HO10:=zh (own_below HOI.out hb10)
        clear hb10 d0 d1 d2 d3 d4 d5 d6 HSZ8
        go_upto_region 11 with fail
        clear k1 k4
        refine wp_region_lit ?_
        refine wpList_plain rfl (fun K hK=>?_)
        go_simp
        refine hK _ _ ?_
        clear hK
        (try simp only[Act.put,z1,z2,z3])
        refine wpList_plain rfl (fun K hK=>?_)
        go_simp
        refine hK _ _ ?_
        clear hK
        (try simp only[Act.put,z1,z2,z3])
        refine app_lit [.int .i64 (-1)] 3 22 info_intL Tryz.underlying22 rfl (by omega) (by omega) rfl (fun u hu=>by rw[List.mem_singleton.1 hu];rfl) (.tmp 67) (.tmp 68) rfl rfl w8.heap.size (.slice A3 N3 c3) N3 ((l++List.replicate i (-1)).map (Value.int .i64)) (by rfl) HO10.out (by rfl) (by have:=HN3.out.2;omega) HB10.out.size ?_
        intro v' w' ho' hg' hat'
        have hbw:Below w8.heap.size w8 w':=Below.grown ((HB10.out).alloc HB10.out.size _) hg' (by have:=HB10.out.size;simp;omega) (fun k hk=>(HO10.out.lt k hk).1)
        have ho2:w'.ownsRow w8.heap.size 3 1 v' (l++List.replicate (i+1) (-1:Int)).length ((l++List.replicate (i+1) (-1:Int)).map (Value.int .i64)):=by
         rw[show(l++List.replicate (i+1) (-1:Int))=(l++List.replicate i (-1))++[-1] by rw[List.replicate_succ',List.append_assoc],List.length_append,←HN3.out.1,List.map_append]
         exact ho'
        have HBW:=zh hbw
        have HO2:=zh ho2
        clear ho' hg' hat' hbw ho2
        (try simp only[Act.put,z1,z2,z3])
        go_wp2_with fail
        go_roundg (KN - (i+1))
        case measure=>omega
        case rel=>exact⟨i+1,by omega,rfl,HBW,HO2⟩
       ·have k1:decide (N3<SG)=false:=decide_eq_false (by have:=HKK.out;omega)
        have k4:decide ((N3:Int)<(SG:Int))=false:=decide_eq_false (by have:=HKK.out;omega)
        have hie:i=KN:=by omega
        have HIE:=zh hie
        clear hN3 hn3 hie
        go_wp2_with fail
        refine HSZ8.out.mono ?_
        rintro e w10 ⟨rfl,hb10⟩
        have HB10:=zh (HBI.out.trans (hb10.mono HBI.out.size))
        have HO10:=zh (own_below HOI.out hb10)
        clear hb10 d0 d1 d2 d3 d4 d5 d6 HSZ8
        go_upto_region 12 with fail
        clear k1 k4
        refine wp_region_lit ?_
        refine wpList_plain rfl (fun K hK=>?_)
        go_simp
        refine hK _ _ ?_
        clear hK
        (try simp only[Act.put,z1,z2,z3])
        refine wpList_plain rfl (fun K hK=>?_)
        go_simp
        refine hK _ _ ?_
        clear hK
        (try simp only[Act.put,z1,z2,z3])
        refine wpList_plain rfl (fun K hK=>?_)
        go_simp
        refine hK _ _ ?_
        clear hK
        (try simp only[Act.put,z1,z2,z3])
        have hx10:Below W6.heap.size W6 w10:=HX8.out.trans (HB10.out.mono HX8.out.size)
        have hst:=OwnK.stayF rowIK HOUT.out (hot:=[]) (HotBy.below hx10) (fun b hb=>by simp at hb)
        have hol:=OwnK.lt HOUT.out
        obtain⟨cs8,o1,o2⟩:=hst
        rw[←HN8.out] at o1
        refine app_lit [.slice A3 N3 c3] 22 37 info_ints Tryz.underlying37 rfl (by omega) (by omega) rfl (fun u hu=>by rw[List.mem_singleton.1 hu];rfl) (.tmp 70) (.tmp 72) rfl rfl W1.heap.size (.slice A8 n8 c8) n8 cs8 (by rfl) o1 (by rfl) (by rw[HN8.out,List.length_take];omega) (Nat.le_trans HB8.out.size HB10.out.size) ?_
        intro v' w' ho' hg' hat'
        have hex:(extL G L).take (j+1)=(extL G L).take j++[l++List.replicate i (-1)]:=by
         rw[take_pushL (extL_at HLX.out.1),HIE.out,HKK.out.1,HLX.out.2.1,HLX.out.2.2.1]
        have hfz:∀b,(Value.slice A3 N3 c3).ownBlock=some b→Fz W1.heap.size w10.heap.size (.slice A8 n8 c8) b:=fun b hb=>by
         have h1:=HO10.out.lt b hb
         have h2:=HB8.out.size
         have h3:=HX8.out.size
         exact⟨by omega,h1.2,fun e=>by have:=hol b e;omega⟩
        have hok2:∀x∈l++List.replicate i (-1:Int),I64 x:=fun x hx=>by
         rcases List.mem_append.1 hx with h | h
         ·have h1:=(HLO.out.2 j l HLX.out.1).2 x h
          have h2:=HVO.out;have h3:=HNO.out.2
          unfold I64;omega
         ·rw[List.eq_of_mem_replicate h];unfold I64;omega
        have hint:IntS w10 (Fz W1.heap.size w10.heap.size (.slice A8 n8 c8)) (.slice A3 N3 c3) (l++List.replicate i (-1)):=IntS.own HO10.out hfz hok2
        have hhot:HotBy [(Value.slice A8 n8 c8).ownBlock] w10 w':=(HotBy.alloc _ w10 _).trans (HotBy.grown hg' (.inl (by simp)))
        have hpush:=OwnK.pushF rowIK (hot:=[(Value.slice A8 n8 c8).ownBlock]) o2 (by rw[←HN8.out];exact o1.1) (fun b hb=>(o1.lt b hb).2) (by rw[←HN8.out];exact ho') rfl ⟨_,rfl,hint⟩ hhot (fun b hb _ _=>by simp at hb;exact hb.symm) (by
         rcases hat' with h | h
         ·exact .inl h
         ·exact .inr ⟨_,h,by omega⟩)
        rw[←hex] at hpush
        have hbw:Below W1.heap.size W1 w':=Below.grown ((HB8.out.trans (HB10.out.mono HB8.out.size)).alloc (Nat.le_trans HB8.out.size HB10.out.size) _) hg' (by have:=HB8.out.size;have:=HB10.out.size;simp;omega) (fun k hk=>(o1.lt k hk).1)
        have HBW:=zh hbw
        have HPU:=zh hpush
        have HLE2:=zh (show ∀k,k<j+1→szN F k≤szN G k from fun k hk=>by
         rcases Nat.lt_or_ge k j with h | h
         ·exact HLE.out k h
         ·have:k=j:=by omega
          subst this
          have h1:=HLX.out.2.1;have h2:=HSZ.out.2.2.2;have h3:=HKK.out.2.1;omega)
        clear hx10 hol o1 o2 ho' hg' hat' hex hfz hok2 hint hhot hpush hbw
        (try simp only[Act.put,z1,z2,z3])
        go_wp2_with fail
        go_roundg (no - (j+1))
        case measure=>omega
        case rel=>exact⟨j+1,by omega,rfl,by go_num,HBW,HPU,HLE2⟩
     exact AllReadyT.nil
    exact AllReadyT.nil
  ·have HJE:=zh (show j=no by omega)
   go_wp2_with fail
   have hle:=HLE.out
   have ho:=HOUT.out
   rw[HJE.out] at hle
   rw[HJE.out,show no=(extL G L).length from by rw[extL_len,HLO.out.1,HVO.out.2.2.1],List.take_length] at ho
   have hsl:=OwnK.slS rowIK ho (R':=Bl W6.heap.size) (fun b hb=>hb.2.1) (fun b hb=>(OwnK.lt ho b hb).2)
   exact bodyPost_ret (v:=.tuple #[.slice A8 n8 c8,.int .i64 0]) (by simp[results,Tryz.results19]) rfl ⟨(HK.out W6 HB.out).2.2,.inr ⟨_,_,_,rfl,hsl,hle⟩⟩
end Go.Proofs.YtgfaieppacabjaaGreat
