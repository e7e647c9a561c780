/- A reality that a law changes in place: rows of sectors, the drives that are online, the versions, and a tape of numbers. -/
import Derived.Maps.AppendAt
import Derived.Laws.AppendOwnNone
import Derived.Test.YtmehadfhcdpfcaaGreatMg09
import Derived.Test.YtmehadfhcdpfcaaGreatMg01
import Derived.Deep.AppendLies
import Derived.Deep.CutBlock
import Derived.Deep.CutRange
import Derived.Deep.MidRow
set_option maxRecDepth 100000
set_option maxHeartbeats 12800000
namespace Go.Proofs.YtmehadfhcdpfcaaGreat
open Go.RowKit
set_option linter.unusedVariables false
set_option linter.unusedSimpArgs false
structure RowsQ (w:World) (B:Nat) (vp:Value) (rs:List (Value×List ByteArray)):Prop where
 top:w.ownsRow B 50 1 vp rs.length (rs.map (·.1))
 row:∀(i:Nat) (x:Value×List ByteArray),rs[i]?=some x→w.ownsRow B 9 1 x.1 x.2.length (x.2.map Value.string)
 apart:∀(i j:Nat) (x y:Value×List ByteArray) (b:Nat),i≠j→rs[i]?=some x→rs[j]?=some y→x.1.ownBlock=some b→y.1.ownBlock≠some b
 size:∀(i:Nat) (x:Value×List ByteArray),rs[i]?=some x→∀s∈x.2,s.size≤maxLen
theorem RowsQ.nil(w:World) (B:Nat):RowsQ w B (.slice none 0 0) []:=⟨World.ownsRow_nil _ _ _ _,fun i x h=>by simp at h,fun i j x y b _ h=>by simp at h,fun i x h=>by simp at h⟩
theorem RowsQ.lt{w:World} {B:Nat} {vp:Value} {rs:List (Value×List ByteArray)} (h:RowsQ w B vp rs) {b:Nat} (hb:ownP vp rs b):B≤b∧b<w.heap.size:=by
 rcases hb with hb | ⟨i,x,hx,hb⟩
 ·exact h.top.lt b hb
 ·exact(h.row i x hx).lt b hb
theorem RowsQ.type{w:World} {B:Nat} {vp:Value} {rs:List (Value×List ByteArray)} (h:RowsQ w B vp rs) {b:Nat} (hb:ownP vp rs b):∃cs T,w.heap[b]?=some (.cells cs T (0,0))∧(T=50∨T=9):=by
 rcases hb with hb | ⟨i,x,hx,hb⟩
 ·obtain⟨cs,h1⟩:=own_type h.top hb
  exact⟨cs,_,h1,.inl rfl⟩
 ·obtain⟨cs,h1⟩:=own_type (h.row i x hx) hb
  exact⟨cs,_,h1,.inr rfl⟩
theorem RowsQ.top_row{w:World} {B:Nat} {vp:Value} {rs:List (Value×List ByteArray)} (h:RowsQ w B vp rs) {i:Nat} {x:Value×List ByteArray} (hx:rs[i]?=some x) {b:Nat} (h1:vp.ownBlock=some b):x.1.ownBlock≠some b:=fun h2=>own_apart h.top (h.row i x hx) (by decide) h1 h2 rfl
theorem RowsQ.stay{w w':World} {B:Nat} {vp:Value} {rs:List (Value×List ByteArray)} {hot:List (Option Nat)} (h:RowsQ w B vp rs) (hh:HotBy hot w w') (hn:∀b,some b∈hot→¬ownP vp rs b):RowsQ w' B vp rs :=
 ⟨own_hot h.top hh (fun g hg e=>hn g e (.inl hg)),fun i x hx=>own_hot (h.row i x hx) hh (fun g hg e=>hn g e (.inr ⟨i,x,hx,hg⟩)),h.apart,h.size⟩
theorem RowsQ.push{w w4:World} {B:Nat} {vp vp' v:Value} {rs:List (Value×List ByteArray)} {l:List ByteArray} (h:RowsQ w B vp rs) (hv:w.ownsRow B 9 1 v l.length (l.map Value.string)) (hf:∀b,v.ownBlock=some b→∀(i:Nat) (x:Value×List ByteArray),rs[i]?=some x→x.1.ownBlock≠some b) (hs:∀s∈l,s.size≤maxLen)
  (hg:w.grownBy w4 vp.ownBlock) (hown:w4.ownsRow B 50 1 vp' (rs.length+1) (rs.map (·.1)++[v])):RowsQ w4 B vp' (rs++[(v,l)]):=by
 have hne:∀(i:Nat) (x:Value×List ByteArray),rs[i]?=some x→x.1.ownBlock=none∨x.1.ownBlock≠vp.ownBlock:=fun i x hx=>by
  cases hb:x.1.ownBlock with
  | none=>exact .inl rfl
  | some b=>exact .inr (fun e=>h.top_row hx e.symm hb)
 have hnv:v.ownBlock=none∨v.ownBlock≠vp.ownBlock:=by
  cases hb:v.ownBlock with
  | none=>exact .inl rfl
  | some b=>exact .inr (fun e=>own_apart h.top hv (by decide) e.symm hb rfl)
 have hat:∀(i:Nat) (x:Value×List ByteArray),(rs++[(v,l)])[i]?=some x→(i<rs.length∧rs[i]?=some x)∨(i=rs.length∧x=(v,l)):=fun i x hx=>by
  rcases Nat.lt_or_ge i rs.length with hlt | hge
  ·rw[List.getElem?_append_left hlt] at hx;exact .inl ⟨hlt,hx⟩
  ·have he:i=rs.length:=by
    have:=(List.getElem?_eq_some_iff.1 hx).1
    rw[List.length_append] at this;simp at this;omega
   subst he
   rw[List.getElem?_append_right (Nat.le_refl _),Nat.sub_self] at hx
   simp at hx
   exact .inr ⟨rfl,hx.symm⟩
 refine⟨by rw[List.length_append,List.map_append];exact hown,fun i x hx=>?_,fun i j x y b hij hx hy hb=>?_,fun i x hx=>?_⟩
 ·rcases hat i x hx with ⟨_,h1⟩ | ⟨_,rfl⟩
  ·exact(h.row i x h1).kept hg (hne i x h1)
  ·exact hv.kept hg hnv
 ·rcases hat i x hx with ⟨_,h1⟩ | ⟨h1,rfl⟩
  ·rcases hat j y hy with ⟨_,h2⟩ | ⟨_,rfl⟩
   ·exact h.apart i j x y b hij h1 h2 hb
   ·exact fun e=>hf b e i x h1 hb
  ·rcases hat j y hy with ⟨_,h2⟩ | ⟨h2,rfl⟩
   ·exact hf b hb j y h2
   ·omega
 ·rcases hat i x hx with ⟨_,h1⟩ | ⟨_,rfl⟩
  ·exact h.size i x h1
  ·exact hs
theorem RowsQ.put{w w4:World} {B g cap d:Nat} {v:Value} {rs:List (Value×List ByteArray)} {l:List ByteArray} {x0:Value×List ByteArray} (h:RowsQ w B (.slice (some ⟨g,0,none⟩) rs.length cap) rs) (hd:rs[d]?=some x0) {hot:List (Option Nat)} (hh:HotBy hot w w4) (hn:∀b,some b∈hot→b<w.heap.size→x0.1.ownBlock=some b∨¬ownP (.slice (some ⟨g,0,none⟩) rs.length cap) rs b)
  (hv:w4.ownsRow B 9 1 v l.length (l.map Value.string)) (hf:∀b,v.ownBlock=some b→x0.1.ownBlock=some b∨w.heap.size≤b) (hs:∀s∈l,s.size≤maxLen) :
  RowsQ (w4.setCell ⟨g,d,none⟩ v) B (.slice (some ⟨g,0,none⟩) (rs.set d (v,l)).length cap) (rs.set d (v,l)):=by
 have hgt:∀(i:Nat) (x:Value×List ByteArray),rs[i]?=some x→x.1.ownBlock≠some g:=fun i x hx=>h.top_row hx rfl
 have htop4:w4.ownsRow B 50 1 (.slice (some ⟨g,0,none⟩) rs.length cap) rs.length (rs.map (·.1)):=own_hot h.top hh (fun b hb e=>by
  rcases hn b e (h.top.lt b hb).2 with h1 | h1
  ·simp[Value.ownBlock] at hb;subst hb;exact hgt d x0 hd h1
  ·exact h1 (.inl hb))
 have hgl:g<w.heap.size:=(h.top.lt g rfl).2
 have hvg:v.ownBlock≠some g:=fun e=>own_apart htop4 hv (by decide) rfl e rfl
 have hst:∀(v':Value) (l':List ByteArray),w4.ownsRow B 9 1 v' l'.length (l'.map Value.string)→v'.ownBlock≠some g→(w4.setCell ⟨g,d,none⟩ v).ownsRow B 9 1 v' l'.length (l'.map Value.string):=fun v' l' h1 h2=>h1.kept (only_set1 w4 g d v) (.inr h2)
 have hrow4:∀(i:Nat) (x:Value×List ByteArray),i≠d→rs[i]?=some x→w4.ownsRow B 9 1 x.1 x.2.length (x.2.map Value.string):=fun i x hi hx=>own_hot (h.row i x hx) hh (fun b hb e=>by
  rcases hn b e ((h.row i x hx).lt b hb).2 with h1 | h1
  ·exact h.apart i d x x0 b hi hx hd hb h1
  ·exact h1 (.inr ⟨i,x,hx,hb⟩))
 refine⟨?_,fun i x hx=>?_,fun i j x y b hij hx hy hb=>?_,fun i x hx=>?_⟩
 ·have h1:=(htop4.stored d v).1
  rw[List.length_set,List.map_set];exact h1
 ·rcases getSome_set hx with ⟨rfl,rfl⟩ | ⟨h1,h2⟩
  ·exact hst _ _ hv hvg
  ·exact hst _ _ (hrow4 i x (fun e=>h1 e.symm) h2) (hgt i x h2)
 ·rcases getSome_set hx with ⟨rfl,rfl⟩ | ⟨h1,h2⟩
  ·rcases getSome_set hy with ⟨h3,_⟩ | ⟨_,h4⟩
   ·exact absurd h3 hij
   ·rcases hf b hb with h5 | h5
    ·exact h.apart d j x0 y b hij hd h4 h5
    ·exact fun e=>by have:=((h.row j y h4).lt b e).2;omega
  ·rcases getSome_set hy with ⟨h3,rfl⟩ | ⟨_,h4⟩
   ·intro e
    rcases hf b e with h5 | h5
    ·exact h.apart i d x x0 b (fun e=>h1 e.symm) h2 hd hb h5
    ·have:=((h.row i x h2).lt b hb).2;omega
   ·exact h.apart i j x y b hij h2 h4 hb
 ·rcases getSome_set hx with ⟨rfl,rfl⟩ | ⟨h1,h2⟩
  ·exact hs
  ·exact h.size i x h2
theorem RowsQ.slS{w:World} {B:Nat} {vp:Value} {rs:List (Value×List ByteArray)} (h:RowsQ w B vp rs) {R:Nat→Prop} (hR:∀b,B≤b→b<w.heap.size→R b):SlS 1 DrvK w R vp (rs.map (·.2)):=by
 have h1:OwnK 1 DrvK w B 50 vp (rs.map (·.2)) R:=by
  refine⟨rs.map (·.1),by rw[List.length_map];exact h.top,fun k a ha=>?_⟩
  rw[List.getElem?_map] at ha
  cases hx:rs[k]? with
  | none=>rw[hx] at ha;cases ha
  | some x =>
   rw[hx] at ha
   simp at ha
   subst ha
   refine⟨[x.1],rfl,fun i u hu=>?_,x.1,rfl,?_⟩
   ·have hi:i=0:=by have:=(List.getElem?_eq_some_iff.1 hu).1;simp at this;exact this
    subst hi
    simp at hu
    rw[Nat.mul_one,Nat.add_zero,List.getElem?_map,hx,←hu];rfl
   ·refine OwnK.slS (R:=R) strK ⟨x.2.map Value.string,(h.row k x hx),fun j s hs=>⟨[.string s],rfl,fun i u hu=>?_,rfl,?_⟩⟩ (fun _ h=>h) (fun b hb=>hR b ((h.row k x hx).lt b hb).1 ((h.row k x hx).lt b hb).2)
    ·have hi:i=0:=by have:=(List.getElem?_eq_some_iff.1 hu).1;simp at this;exact this
     subst hi
     simp at hu
     rw[Nat.mul_one,Nat.add_zero,List.getElem?_map,hs,←hu];rfl
    ·have:=h.size k x hx s (List.mem_of_getElem? hs)
     exact this
 exact h1.slS drvK (fun _ h=>h) (fun b hb=>hR b (h.top.lt b hb).1 (h.top.lt b hb).2)
theorem RowsQ.setS{w:World} {B d gi n c i:Nat} {vp:Value} {rs:List (Value×List ByteArray)} {l:List ByteArray} (h:RowsQ w B vp rs) (hd:rs[d]?=some (.slice (some ⟨gi,0,none⟩) n c,l)) (s:ByteArray) (hs:s.size≤maxLen) :
  RowsQ (w.setCell ⟨gi,i,none⟩ (.string s)) B vp (rs.set d (.slice (some ⟨gi,0,none⟩) n c,l.set i s)):=by
 have hh:HotBy [some gi] w (w.setCell ⟨gi,i,none⟩ (.string s)):=HotBy.setCell _ _ _ _ (by simp)
 have hrow:w.ownsRow B 9 1 (.slice (some ⟨gi,0,none⟩) n c) l.length (l.map Value.string):=h.row d _ hd
 have hn:n=l.length:=by
  rcases hrow.2 with ⟨e,_⟩ | ⟨k,cap,cur,e,_⟩
  ·simp at e
  ·simp at e;exact e.2.1
 subst hn
 have hfst:∀(j:Nat) (x:Value×List ByteArray),(rs.set d (.slice (some ⟨gi,0,none⟩) l.length c,l.set i s))[j]?=some x→∃y,rs[j]?=some y∧y.1=x.1:=fun j x hx=>by
  rcases getSome_set hx with ⟨rfl,rfl⟩ | ⟨h1,h2⟩
  ·exact⟨_,hd,rfl⟩
  ·exact⟨x,h2,rfl⟩
 refine⟨?_,fun j x hx=>?_,fun j k x y b hjk hx hy hb=>?_,fun j x hx=>?_⟩
 ·have h1:=own_hot h.top hh (fun b hb e=>by simp at e;subst e;exact h.top_row hd hb rfl)
  have e:(rs.set d (Value.slice (some ⟨gi,0,none⟩) l.length c,l.set i s)).map (·.1)=rs.map (·.1):=by
   rw[List.map_set]
   apply List.ext_getElem?
   intro k
   rcases Nat.decEq d k with hk | hk
   ·rw[List.getElem?_set_ne hk]
   ·subst hk
    rw[List.getElem?_set_self (by rw[List.length_map];exact(List.getElem?_eq_some_iff.1 hd).1),List.getElem?_map,hd];rfl
  rw[e,List.length_set];exact h1
 ·rcases getSome_set hx with ⟨rfl,rfl⟩ | ⟨h1,h2⟩
  ·have h3:=(hrow.stored i (.string s)).1
   rw[List.length_set,List.map_set];exact h3
  ·exact own_hot (h.row j x h2) hh (fun b hb e=>by simp at e;rw[e] at hb;exact h.apart d j _ x gi h1 hd h2 rfl hb)
 ·obtain⟨x',hx',e1⟩:=hfst j x hx
  obtain⟨y',hy',e2⟩:=hfst k y hy
  rw[←e1] at hb
  rw[←e2]
  exact h.apart j k x' y' b hjk hx' hy' hb
 ·rcases getSome_set hx with ⟨rfl,rfl⟩ | ⟨h1,h2⟩
  ·intro u hu
   rcases List.mem_or_eq_of_mem_set hu with h3 | rfl
   ·exact h.size _ _ hd u h3
   ·exact hs
  ·exact h.size j x h2
theorem RowsQ.nty{w:World} {B b:Nat} {vp:Value} {rs:List (Value×List ByteArray)} {T:TypeId} {cs:Array Value} {fr:Nat×Nat} (h:RowsQ w B vp rs) (hb:w.heap[b]?=some (.cells cs T fr)) (h1:T≠50) (h2:T≠9):¬ownP vp rs b:=fun ho=>by
 rcases ho with ho | ⟨i,x,hx,ho⟩
 ·exact own_nty h.top hb h1 ho
 ·exact own_nty (h.row i x hx) hb h2 ho
theorem XGN_next(gT:Nat) (vt:Value) (xs:List Int) (I n:Nat) (w:World) (R:Nat→Prop) (hT:TapeB w gT vt I) (hx:IntS w R vt xs) (hI:I≤1000000000) (h1:1≤n) (h2:n≤1000000) :
  Calls Tryz.prog 18 #[.pointer (some ⟨gT,0,none⟩),.int .i64 (n:Int)] w fun e w'=>∃r:Nat,e=.returned (.int .i64 (r:Int))∧r<n∧TapeB w' gT vt (I+1)∧w.grownBy w' (some gT):=by
 refine(next_any gT vt xs I (n:Int) w R hT hx (by omega) ⟨by omega,by omega⟩).mono ?_
 rintro e w' ⟨rfl,hT',hg⟩
 have hr:=within_range (tapeX xs I) (n:Int) (by omega)
 refine⟨(within (tapeX xs I) (n:Int)).toNat,?_,by omega,hT',hg⟩
 rw[Int.toNat_of_nonneg hr.1]
def Nums(WM w:World) (vt:Value) (xs:List Int):Prop:=IntS WM (Bl WM.heap.size) vt xs∨(OwnI w WM.heap.size vt xs∧∀x∈xs,I64 x)
theorem Nums.read{WM w:World} {vt:Value} {xs:List Int} (h:Nums WM w vt xs) (hb:Below WM.heap.size WM w):∃R:Nat→Prop,IntS w R vt xs:=by
 rcases h with h | ⟨h,hx⟩
 ·exact⟨_,h.keep (kept_below hb)⟩
 ·exact⟨_,h.intS hx⟩
structure CpT (WM:World) (gX:Nat) (w:World) (vp vo va:Value) (rs:List (Value×List ByteArray)) (on:List Bool) (acks:List Ac):Prop where
 hot:Below WM.heap.size WM w
 rea:w.heap[gX]?=some (.cells #[vp,vo,va] 27 (0,0))
 plat:RowsQ w WM.heap.size vp rs
 ons:w.ownsRow WM.heap.size 4 1 vo on.length (on.map Value.bool)
 aks:w.ownsRow WM.heap.size 53 4 va acks.length (acks.flatMap acC)
 gX1:WM.heap.size≤gX
structure EdT (gT:Nat) (vt:Value) (xs:List Int) (WM:World) (gX:Nat) (w:World) (I:Nat) (vp vo va:Value) (rs:List (Value×List ByteArray)) (on:List Bool) (acks:List Ac):Prop extends CpT WM gX w vp vo va rs on acks where
 tape:TapeB w gT vt I
 nums:Nums WM w vt xs
 gT1:WM.heap.size≤gT
theorem below_hotNew{a b c:World} {hot:List (Option Nat)} (h:Below a.heap.size a b) (k:HotBy hot b c) (hn:∀x,some x∈hot→a.heap.size≤x):Below a.heap.size a c :=
 ⟨k.os.trans h.os,k.tape.trans h.tape,k.output.trans h.output,Nat.le_trans h.size k.size,fun x hx=>(k.block x (Nat.lt_of_lt_of_le hx h.size) (fun e=>by have:=hn x e;omega)).trans (h.block x hx)⟩
section
variable {gT : Nat} {vt : Value} {xs : List Int} {WM : World} {gX : Nat} {w w' : World} {I J : Nat} {vp vo va : Value} {rs : List (Value × List ByteArray)} {on : List Bool} {acks : List Ac}
theorem CpT.only(h:CpT WM gX w vp vo va rs on acks) {o:Option Nat} (hh:HotBy [o] w w') (T:TypeId) (ho:∀b,o=some b→WM.heap.size≤b∧∃cs,w.heap[b]?=some (.cells cs T (0,0))) :
  Below WM.heap.size WM w'∧(T≠27→w'.heap[gX]?=some (.cells #[vp,vo,va] 27 (0,0)))∧(T≠50→T≠9→RowsQ w' WM.heap.size vp rs)∧(T≠4→w'.ownsRow WM.heap.size 4 1 vo on.length (on.map Value.bool))∧(T≠53→w'.ownsRow WM.heap.size 53 4 va acks.length (acks.flatMap acC)):=by
 have hm:∀b,some b∈[o]→o=some b:=fun b hb=>by simp at hb;exact hb.symm
 refine⟨below_hotNew h.hot hh (fun x hx=>(ho x (hm x hx)).1),fun hT=>?_,fun h1 h2=>?_,fun hT=>?_,fun hT=>?_⟩
 ·exact(hh.block gX (Array.getElem?_eq_some_iff.1 h.rea).1 (fun e=>by obtain⟨-,cs,hb⟩:=ho gX (hm gX e);exact hT (cells_ty hb h.rea))).trans h.rea
 ·exact h.plat.stay hh (fun b hb=>by obtain⟨-,cs,hb⟩:=ho b (hm b hb);exact h.plat.nty hb h1 h2)
 ·exact own_hot h.ons hh (fun b hg hb=>by obtain⟨-,cs,hb⟩:=ho b (hm b hb);exact own_nty h.ons hb hT hg)
 ·exact own_hot h.aks hh (fun b hg hb=>by obtain⟨-,cs,hb⟩:=ho b (hm b hb);exact own_nty h.aks hb hT hg)
theorem CpT.below(h:CpT WM gX w vp vo va rs on acks) (hb:Below w.heap.size w w'):CpT WM gX w' vp vo va rs on acks:=by
 obtain⟨h3,h4,h5,h6,h7⟩:=h.only (HotBy.below (hot:=[none]) hb) 1000000 (fun b e=>by cases e)
 exact⟨h3,h4 (by decide),h5 (by decide) (by decide),h6 (by decide),h7 (by decide),h.gX1⟩
theorem CpT.pushP(h:CpT WM gX w vp vo va rs on acks) {vp' v:Value} {l:List ByteArray} (hv:w.ownsRow WM.heap.size 9 1 v l.length (l.map Value.string)) (hf:∀b,v.ownBlock=some b→∀(i:Nat) (x:Value×List ByteArray),rs[i]?=some x→x.1.ownBlock≠some b) (hs:∀s∈l,s.size≤maxLen)
  (hg:w.grownBy w' vp.ownBlock) (hown:w'.ownsRow WM.heap.size 50 1 vp' (rs.length+1) (rs.map (·.1)++[v])):CpT WM gX (w'.setCell ⟨gX,0,none⟩ vp') vp' vo va (rs++[(v,l)]) on acks:=by
 obtain⟨h3,h4,-,h6,h7⟩:=h.only (HotBy.grown hg (.inl (by simp))) 50 (own_ho h.plat.top)
 have h4':=h4 (by decide)
 have hp:=h.plat.push hv hf hs hg hown
 have hk:HotBy [some gX] w' (w'.setCell ⟨gX,0,none⟩ vp'):=HotBy.setCell _ _ _ _ (by simp)
 refine⟨below_hotNew h3 hk (fun x hx=>by simp at hx;rw[hx];exact h.gX1),heap_setCell_same w' gX 0 _ _ vp' h4',hp.stay hk (fun b hb=>by simp at hb;rw[hb];exact hp.nty h4' (by decide) (by decide)),own_hot (h6 (by decide)) hk (fun b hb e=>by simp at e;subst e;exact own_nty (h6 (by decide)) h4' (by decide) hb),own_hot (h7 (by decide)) hk (fun b hb e=>by simp at e;subst e;exact own_nty (h7 (by decide)) h4' (by decide) hb),h.gX1⟩
theorem EdT.only(h:EdT gT vt xs WM gX w I vp vo va rs on acks) {o:Option Nat} (hh:HotBy [o] w w') (T:TypeId) (ho:∀b,o=some b→WM.heap.size≤b∧∃cs,w.heap[b]?=some (.cells cs T (0,0))) :
  (T≠48→TapeB w' gT vt I)∧(T≠3→Nums WM w' vt xs)∧Below WM.heap.size WM w'∧(T≠27→w'.heap[gX]?=some (.cells #[vp,vo,va] 27 (0,0)))∧(T≠50→T≠9→RowsQ w' WM.heap.size vp rs)∧(T≠4→w'.ownsRow WM.heap.size 4 1 vo on.length (on.map Value.bool))∧(T≠53→w'.ownsRow WM.heap.size 53 4 va acks.length (acks.flatMap acC)):=by
 have hm:∀b,some b∈[o]→o=some b:=fun b hb=>by simp at hb;exact hb.symm
 refine⟨fun hT=>?_,fun hT=>?_,h.toCpT.only hh T ho⟩
 ·exact(hh.block gT h.tape.lt (fun e=>by obtain⟨-,cs,hb⟩:=ho gT (hm gT e);exact hT (cells_ty hb h.tape))).trans h.tape
 ·rcases h.nums with h1 | ⟨h1,hx⟩
  ·exact .inl h1
  ·exact .inr ⟨own_hot h1 hh (fun b hg hb=>by obtain⟨-,cs,hb⟩:=ho b (hm b hb);exact own_nty h1 hb hT hg),hx⟩
theorem EdT.below(h:EdT gT vt xs WM gX w I vp vo va rs on acks) (hb:Below w.heap.size w w'):EdT gT vt xs WM gX w' I vp vo va rs on acks:=by
 obtain⟨h1,h2,h3,h4,h5,h6,h7⟩:=h.only (HotBy.below (hot:=[none]) hb) 1000000 (fun b e=>by cases e)
 exact⟨⟨h3,h4 (by decide),h5 (by decide) (by decide),h6 (by decide),h7 (by decide),h.gX1⟩,h1 (by decide),h2 (by decide),h.gT1⟩
theorem EdT.alloc(h:EdT gT vt xs WM gX w I vp vo va rs on acks) (o:Obj):EdT gT vt xs WM gX (w.alloc o) I vp vo va rs on acks:=h.below ((Below.refl _ _).alloc (Nat.le_refl _) _)
theorem EdT.drew(h:EdT gT vt xs WM gX w I vp vo va rs on acks):EdT gT vt xs WM gX w.drew I vp vo va rs on acks:=h.below (Below.refl _ _).drew
theorem EdT.next(h:EdT gT vt xs WM gX w I vp vo va rs on acks) (hg:w.grownBy w' (some gT)) (ht:TapeB w' gT vt J):EdT gT vt xs WM gX w' J vp vo va rs on acks:=by
 obtain⟨-,h2,h3,h4,h5,h6,h7⟩:=h.only (o:=some gT) (HotBy.grown hg (.inl (by simp))) 48 (fun b e=>by injection e with e;subst e;exact⟨h.gT1,_,h.tape⟩)
 exact⟨⟨h3,h4 (by decide),h5 (by decide) (by decide),h6 (by decide),h7 (by decide),h.gX1⟩,ht,h2 (by decide),h.gT1⟩
theorem EdT.next_any(h:EdT gT vt xs WM gX w I vp vo va rs on acks) (hI:I≤1000000000) (n:Nat) (h1:1≤n) (h2:n≤1000000) (nv:Int) (hn:nv=(n:Int)) :
  Calls Tryz.prog 18 #[.pointer (some ⟨gT,0,none⟩),.int .i64 nv] w fun e w'=>∃r:Nat,e=.returned (.int .i64 (r:Int))∧r<n∧EdT gT vt xs WM gX w' (I+1) vp vo va rs on acks∧w.grownBy w' (some gT):=by
 subst hn
 obtain⟨R,hR⟩:=h.nums.read h.hot
 refine(XGN_next gT vt xs I n w R h.tape hR hI h1 h2).mono ?_
 rintro e w' ⟨r,rfl,hr,hT,hg⟩
 exact⟨r,rfl,hr,h.next hg hT,hg⟩
theorem EdT.putP{g cap d m:Nat} {v:Value} {l:List ByteArray} {x0:Value×List ByteArray} (hm:m=rs.length) (h:EdT gT vt xs WM gX w I (.slice (some ⟨g,0,none⟩) m cap) vo va rs on acks) (hd:rs[d]?=some x0) (hg:w.grownBy w' x0.1.ownBlock)
  (hv:w'.ownsRow WM.heap.size 9 1 v l.length (l.map Value.string)) (hf:∀b,v.ownBlock=some b→x0.1.ownBlock=some b∨w.heap.size≤b) (hs:∀s∈l,s.size≤maxLen) :
  EdT gT vt xs WM gX (w'.setCell ⟨g,d,none⟩ v) I (.slice (some ⟨g,0,none⟩) m cap) vo va (rs.set d (v,l)) on acks:=by
 subst hm
 have hh:HotBy [x0.1.ownBlock] w w':=HotBy.grown hg (.inl (by simp))
 obtain⟨h1,h2,h3,h4,-,h6,h7⟩:=h.only hh 9 (own_ho (h.plat.row d x0 hd))
 have hp:=h.plat.put hd hh (fun b hb _=>.inl (by simp at hb;exact hb.symm)) hv hf hs
 rw[List.length_set] at hp
 obtain⟨cs,hgc⟩:=own_type h.plat.top rfl
 have hgB:WM.heap.size≤g:=(h.plat.top.lt g rfl).1
 have hgt4:w'.ownsRow WM.heap.size 50 1 (.slice (some ⟨g,0,none⟩) rs.length cap) rs.length (rs.map (·.1)):=own_hot h.plat.top hh (fun b hb e=>by simp at e;exact h.plat.top_row hd hb e.symm)
 obtain⟨cs4,hgc4⟩:=own_type hgt4 rfl
 have hs4:HotBy [some g] w' (w'.setCell ⟨g,d,none⟩ v):=HotBy.setCell _ _ _ _ (by simp)
 have h1':=h1 (by decide)
 have h4':=h4 (by decide)
 have h6':=h6 (by decide)
 have h7':=h7 (by decide)
 refine⟨⟨below_hotNew h3 hs4 (fun x hx=>by simp at hx;omega),(hs4.block gX (Array.getElem?_eq_some_iff.1 h4').1 (fun e=>by simp at e;subst e;exact absurd (cells_ty h4' hgc4) (by decide))).trans h4',hp,own_hot h6' hs4 (fun b hb e=>by simp at e;subst e;exact own_nty h6' hgc4 (by decide) hb),own_hot h7' hs4 (fun b hb e=>by simp at e;subst e;exact own_nty h7' hgc4 (by decide) hb),h.gX1⟩,(hs4.block gT h1'.lt (fun e=>by simp at e;subst e;exact absurd (cells_ty h1' hgc4) (by decide))).trans h1',?_,h.gT1⟩
 rcases h2 (by decide) with h8 | ⟨h8,hx⟩
 ·exact .inl h8
 ·exact .inr ⟨own_hot h8 hs4 (fun b hb e=>by simp at e;subst e;exact own_nty h8 hgc4 (by decide) hb),hx⟩
theorem EdT.setS{d gi n c i:Nat} {l:List ByteArray} (h:EdT gT vt xs WM gX w I vp vo va rs on acks) (hd:rs[d]?=some (.slice (some ⟨gi,0,none⟩) n c,l)) (s:ByteArray) (hs:s.size≤maxLen) :
  EdT gT vt xs WM gX (w.setCell ⟨gi,i,none⟩ (.string s)) I vp vo va (rs.set d (.slice (some ⟨gi,0,none⟩) n c,l.set i s)) on acks:=by
 have hh:HotBy [some gi] w (w.setCell ⟨gi,i,none⟩ (.string s)):=HotBy.setCell _ _ _ _ (by simp)
 obtain⟨h1,h2,h3,h4,-,h6,h7⟩:=h.only hh 9 (own_ho (h.plat.row d _ hd))
 exact⟨⟨h3,h4 (by decide),h.plat.setS hd s hs,h6 (by decide),h7 (by decide),h.gX1⟩,h1 (by decide),h2 (by decide),h.gT1⟩
theorem EdT.setO{g cap d m:Nat} {x:Bool} (hm:m=on.length) (h:EdT gT vt xs WM gX w I vp (.slice (some ⟨g,0,none⟩) m cap) va rs on acks) :
  EdT gT vt xs WM gX (w.setCell ⟨g,d,none⟩ (.bool x)) I vp (.slice (some ⟨g,0,none⟩) m cap) va rs (on.set d x) acks:=by
 subst hm
 obtain⟨h1,h2,h3,h4,h5,-,h7⟩:=h.only (HotBy.setCell [some g] w ⟨g,d,none⟩ (.bool x) (by simp)) 4 (own_ho h.ons)
 exact⟨⟨h3,h4 (by decide),h5 (by decide) (by decide),by rw[List.length_set,List.map_set];exact(h.ons.stored d (.bool x)).1,h7 (by decide),h.gX1⟩,h1 (by decide),h2 (by decide),h.gT1⟩
theorem CpT.cells(h:CpT WM gX w vp vo va rs on acks):w.cell? ⟨gX,0,none⟩=some vp∧w.cell? ⟨gX,1,none⟩=some vo∧w.cell? ⟨gX,2,none⟩=some va∧(∀i,w.frozen? ⟨gX,i,none⟩=false)∧gX<w.heap.size :=
 ⟨by rw[cell_of_row _ _ _ _ _ _ h.rea];rfl,by rw[cell_of_row _ _ _ _ _ _ h.rea];rfl,by rw[cell_of_row _ _ _ _ _ _ h.rea];rfl,fun i=>frozen_of_row _ _ _ _ _ h.rea,(Array.getElem?_eq_some_iff.1 h.rea).1⟩
theorem CpT.reS(h:CpT WM gX w vp vo va rs on acks) (hI:∀a∈acks,I64 a.vol∧I64 a.stripe∧I64 a.ver∧I64 a.side):ReS w (Fr WM.heap.size w.heap.size) vp vo va ⟨rs.map (·.2),on,acks⟩:=by
 refine⟨h.plat.slS (fun b h1 h2=>⟨h1,h2⟩),?_,acK_own h.aks hI (fun b hb=>h.aks.lt b hb)⟩
 refine OwnK.slS (R:=Fr WM.heap.size w.heap.size) boolK ⟨on.map Value.bool,h.ons,fun j s hs=>⟨[.bool s],rfl,fun i u hu=>?_,rfl⟩⟩ (fun _ h=>h) (fun b hb=>h.ons.lt b hb)
 have hi:i=0:=by have:=(List.getElem?_eq_some_iff.1 hu).1;simp at this;exact this
 subst hi
 simp at hu
 rw[Nat.mul_one,Nat.add_zero,List.getElem?_map,hs,←hu];rfl
end
def ByK(w:World) (R:Nat→Prop) (cs:List Value) (l:List UInt8):Prop:=∃v,cs=[v]∧ByS w R v l
theorem byK:Steady ByK:=⟨fun hk ⟨v,e,h⟩=>⟨v,e,h.keep hk⟩,fun hr ⟨v,e,h⟩=>⟨v,e,h.mono hr⟩⟩
theorem SlS.matS{w:World} {R:Nat→Prop} {v:Value} {t:Mat} (h:SlS 1 ByK w R v t):MatS w R v t :=
 Row.imp h (fun _ hb=>hb) fun b off hb hc k r hr=>by
  obtain⟨cs,h1,h2,va,rfl,h3⟩:=hc k r hr
  have:=h2 0 va rfl
  exact⟨va,by rw[Nat.mul_one,Nat.add_zero] at this;exact this,h3⟩
theorem refencode_fr(k m n:Nat) (vd:Value) (d:Mat) (w:World) (hc:codeB k m=true) (hk:d.length=k) (hd:MatS w (Bl w.heap.size) vd d) (hw:Wide d n) (hn:n≤65536) :
  Calls Tryz.prog 31 #[.int .i64 (k:Int),.int .i64 (m:Int),vd] w fun e w'=>∃v,e=.returned (.tuple #[v,.int .i64 0])∧SlS 1 ByK w' (Fr w.heap.size w'.heap.size) v (wordT k (k+m) d n)∧Below w.heap.size w w':=by
 have hck:=(codeB_iff k m).1 hc
 obtain⟨hK1,hK6,-,hM4,hn8⟩:=hck
 have HC:=zh (r07code_any (k:Int) (m:Int) · (by unfold I64;omega) (by unfold I64;omega))
 rw[hc] at HC
 obtain⟨Ad,cd,rfl,-,-⟩:=hd.form
 have hkk:((d.length:Int) != (k:Int))=false:=by rw[hk];simp
 have HK:=zh hk
 clear hc
 generalize hdl:d.length=dl at *
 have HDL:=zh hdl
 clear hk hdl
 go_enter Tryz.func31,Tryz.ntmps31
 go_wp2_with fail
 refine(HC.out _).mono ?_
 rintro e w' ⟨rfl,rfl⟩
 go_wp2_with fail
 clear HC hkk
 go_loopg [8,9] (k+m) (fun z v8 v9 wr=>∃a:Nat,a≤k+m∧z=k+m - a∧v9=.int .i64 (a:Int)∧OwnK 1 ByK wr w.heap.size 88 v8 (wordT k a d n) (Fz w.heap.size wr.heap.size v8)∧Below w.heap.size w wr)
 case atStart=>exact⟨0,by omega,rfl,rfl,OwnK.nil _ _ _ _ _ _,Below.refl _ _⟩
 case round =>
  obtain⟨a,ha,rfl,rfl,hO,hb⟩:=hrel
  have hsz:=hb.size
  obtain⟨A7,c7,hv7⟩:=hO.form
  rw[wordT_length] at hv7
  subst hv7
  by_cases hlt:a<k+m
  ·have hlt2:(a:Int)<(k:Int)+(m:Int):=by omega
   go_wp2_with fail
   refine(factors_any k a wr (by omega) (by omega)).mono ?_
   rintro e w2 ⟨vc,rfl,hvc,hb2⟩
   have hd2:=(hd.below hb).below hb2
   obtain⟨Ac,cc,hvc2,-,-⟩:=hvc.form
   rw[coefR_length] at hvc2
   subst hvc2
   have hcb:=refcombine_any _ _ _ _ n w2 (hvc.mono Fr.bl) hd2 (by rw[coefR_length,HDL.out,HK.out]) (by rw[HDL.out,HK.out];omega) (by rw[HDL.out,HK.out];omega) hw hn
   have HCB:=zh hcb
   clear hcb hd2 hvc
   go_wp2_with fail
   refine HCB.out.mono ?_
   rintro e w3 ⟨v3,rfl,hv3,hb3⟩
   have hb13:=hb2.trans (hb3.mono hb2.size)
   have hO3:=hO.stayF byK (HotBy.below (hot:=[]) hb13) (fun b e=>by cases e)
   obtain⟨A3,c3,hv32,-,-⟩:=hv3.form
   rw[combT_length] at hv32
   subst hv32
   obtain⟨xs,ho3,hc3⟩:=hO3
   obtain⟨xs0,ho0,-⟩:=hO
   have hown0:=ho0.lt
   have hsz3:=Nat.le_trans hsz hb13.size
   rw[wordT_length] at ho3
   have hone:(Value.slice A3 n c3).oneCell'=true:=rfl
   have hs2:=hb2.size
   clear ho0 xs0
   go_wp2_with (at_builtin;refine app_row (.tmp 40) (.tmp 42) rfl rfl _ _ _ _ (by rfl) ho3 (by rfl) hone (by omega) hsz3 ?_;intro v' w4 hown' hg hat)
   go_roundg (k+m - (a+1))
   case measure=>omega
   case rel =>
    refine⟨a+1,by omega,rfl,by go_num,?_,(hb.trans (hb13.mono hsz)).grown hg hsz3 (fun b h=>(ho3.lt b h).1)⟩
    rw[wordT_succ]
    refine OwnK.pushF (v:=.slice A7 a c7) (hot:=[(Value.slice A7 a c7).ownBlock]) byK hc3 (by rw[wordT_length];exact ho3.1) (fun b e=>(ho3.lt b e).2) (by rw[wordT_length];exact hown') rfl ⟨_,rfl,hv3.mono (fun b hb=>⟨Nat.le_trans hsz (Nat.le_trans hs2 hb.1),hb.2,fun e=>by have:=(hown0 b e).2;have:=hb.1;omega⟩)⟩ (HotBy.grown hg (.inl (by simp))) (fun b e _ _=>by simp at e;exact e.symm) ?_
    rcases hat with h1 | h1
    ·exact .inl h1
    ·exact .inr ⟨_,h1,by omega⟩
  ·have haI:Hid (a=k+m):=(by omega:a=k+m)
   have hlt2:¬(a:Int)<(k:Int)+(m:Int):=by omega
   go_wp2
   go_ret2
   have h:=hO.slS byK (R':=Fr w.heap.size wr.heap.size) (fun b h=>⟨h.1,h.2.1⟩) (fun b e=>by
    obtain⟨xs0,ho0,-⟩:=hO
    exact ho0.lt b e)
   rw[haI.out] at h
   exact⟨_,rfl,by rw[haI.out];exact h,hb⟩
theorem info_str:(Tryz.prog.info? 9).map (fun i=>(i.zero,i.size,i.bytes))=some (some (.string ⟨#[]⟩),1,16):=by kernel_rfl
theorem info_strs:(Tryz.prog.info? 50).map (fun i=>(i.zero,i.size,i.bytes))=some (some (.slice none 0 0),1,24):=by kernel_rfl
theorem info_ack:(Tryz.prog.info? 53).map (fun i=>(i.zero,i.size,i.bytes))=some (some (.agg #[.int .i64 0,.int .i64 0,.int .i64 0,.int .i64 0]),4,32):=by kernel_rfl
structure MadeOk (F:FltM) (r:Re) (st:List Stp):Prop where
 plat:r.plat.length=F.dves.length
 on:r.on.length=F.dves.length
 acks:r.acks=st.map Stp.ack
 keys:st.map (fun x=>(x.vol,x.stripe))=keysTo F.ext.toNat F.vols.length 0
 ok:∀x∈st,StpOk F x
 sec:∀l∈r.plat,∀s∈l,SecOk st s.data.toList
 len:∀l∈r.plat,l.length≤1000
 len5:∀l∈r.plat,l.length≤500
structure StI (F:FltM) (ND I1 I:Nat) (rs:List (Value×List ByteArray)) (st:List Stp) (n:Nat) (f:Int→Int→Option Value) (ext v s:Nat):Prop where
 len:rs.length=ND
 row:∀(i:Nat) (x:Value×List ByteArray),rs[i]?=some x→x.2.length+I1≤I+1∧∀s∈x.2,SecOk st s.data.toList
 keys:st.map (fun x=>(x.vol,x.stripe))=keysTo ext v s
 ok:∀x∈st,StpOk F x
 data:DataOk st f
 n:n≤st.length
theorem IntS.form3{w:World} {R:Nat→Prop} {v:Value} {xs:List Int} (h:IntS w R v xs):∃A n c,v=.slice A n c:=by
 obtain⟨A,c,e,-⟩:=h.1
 exact⟨A,_,c,e⟩
theorem LS.form3{w:World} {R:Nat→Prop} {v:Value} {l:List Nat} (h:LS w R v l):∃A n c,v=.slice A n c:=by
 obtain⟨A,c,e,-⟩:=h.form
 exact⟨A,_,c,e⟩
def PolQ(w:World) (g k m:Nat):Prop:=(∃cs,w.heap[g]?=some (.cells cs 63 (0,0)))∧w.cell? ⟨g,0+1,none⟩=some (.int .i64 (k:Int))∧w.cell? ⟨g,0+2,none⟩=some (.int .i64 (m:Int))
theorem PolQ.cells{w:World} {g k m:Nat} (h:PolQ w g k m):w.cell? ⟨g,1,none⟩=some (.int .i64 (k:Int))∧w.cell? ⟨g,2,none⟩=some (.int .i64 (m:Int))∧g<w.heap.size:=by
 obtain⟨⟨cs,h1⟩,h2,h3⟩:=h
 exact⟨h2,h3,(Array.getElem?_eq_some_iff.1 h1).1⟩
theorem PolQ.hot{w w':World} {g k m:Nat} (h:PolQ w g k m) {hot:List (Option Nat)} (hh:HotBy hot w w') (hn:some g∉hot):PolQ w' g k m:=by
 have hb:=hh.block g h.cells.2.2 hn
 obtain⟨⟨cs,h1⟩,h2,h3⟩:=h
 exact⟨⟨cs,hb.trans h1⟩,(World.cell?_of_block (w:=w) hb).trans h2,(World.cell?_of_block (w:=w) hb).trans h3⟩
theorem PolQ.hotT{w w':World} {g k m:Nat} (h:PolQ w g k m) {o:Option Nat} (hh:HotBy [o] w w') (ho:∀b,o=some b→∃cs T,w.heap[b]?=some (.cells cs T (0,0))∧T≠63):PolQ w' g k m:=h.hot hh (fun e=>by
 simp at e
 obtain⟨cs,T,h1,h2⟩:=ho g e.symm
 obtain⟨⟨cs',h3⟩,-⟩:=h
 exact h2 (cells_ty h1 h3))
theorem setCells_type{b:Nat} {T:TypeId}:∀(vs:List Value) (o:Nat) (w:World),(∃cs,w.heap[b]?=some (.cells cs T (0,0)))→∃cs,(w.setCells b o vs).heap[b]?=some (.cells cs T (0,0))
 | [],o,w,h=>h
 | v :: vs,o,w,⟨cs,h⟩=>setCells_type vs (o+1) (w.setCell ⟨b,o,none⟩ v) ⟨_,heap_setCell_same w b o _ _ v h⟩
theorem there_of_block{w:World} {b:Nat} {cs:Array Value} {T:TypeId} {n:Nat} (h:w.heap[b]?=some (.cells cs T (0,0))) (hn:n≤cs.size):w.there b 0 n:=fun j hj=>by
 rw[Nat.zero_add]
 exact⟨by rw[cell_of_row _ _ _ _ _ _ h,Array.getElem?_eq_getElem (by omega)];rfl,frozen_of_row _ _ _ _ _ h⟩
theorem hot_setCells:∀(w:World) (b:Nat) (vs:List Value) (o:Nat),HotBy [some b] w (w.setCells b o vs)
 | w,b,[],o=>HotBy.refl _ _
 | w,b,v :: vs,o=>(HotBy.setCell [some b] w ⟨b,o,none⟩ v (by simp)).trans (hot_setCells (w.setCell ⟨b,o,none⟩ v) b vs (o+1))
theorem keysTo_not(ext v s:Nat):(v,s)∉keysTo ext v s:=by
 unfold keysTo
 intro h
 rcases List.mem_append.1 h with h | h
 ·obtain⟨a,ha,hb⟩:=List.mem_flatMap.1 h
  obtain⟨b,hb1,hb2⟩:=List.mem_map.1 hb
  have:=List.mem_range.1 ha
  injection hb2 with e1 e2
  omega
 ·obtain⟨b,hb1,hb2⟩:=List.mem_map.1 h
  have:=List.mem_range.1 hb1
  injection hb2 with e1 e2
  omega
theorem DataOk.push{st:List Stp} {f:Int→Int→Option Value} {ext v s:Nat} (h:DataOk st f) (hk:st.map (fun x=>(x.vol,x.stripe))=keysTo ext v s) {x:Stp} (hv:x.vol=v) (hs:x.stripe=s):DataOk (st++[x]) (upd f (v:Int) (s:Int) (.string ⟨(x.rows.flatten).toArray⟩)):=fun y hy=>by
 rcases List.mem_append.1 hy with hy | hy
 ·have hne:¬(((y.vol:Nat):Int)=(v:Int)∧((y.stripe:Nat):Int)=(s:Int)):=fun e=>by
   have h1:y.vol=v:=by omega
   have h2:y.stripe=s:=by omega
   have h3:(y.vol,y.stripe)∈st.map (fun x=>(x.vol,x.stripe)):=List.mem_map.2 ⟨y,hy,rfl⟩
   rw[hk,h1,h2] at h3
   exact keysTo_not ext v s h3
  rw[upd_other hne]
  exact h y hy
 ·rw[List.mem_singleton.1 hy,hv,hs,upd_same]
structure RowJ (ND I1 J lo hi:Nat) (st:List Stp) (rs:List (Value×List ByteArray)):Prop where
 len:rs.length=ND
 row:∀(i:Nat) (x:Value×List ByteArray),rs[i]?=some x→x.2.length+I1≤J+1∧(∀s∈x.2,SecOk st s.data.toList)∧∀b,x.1.ownBlock=some b→b<lo∨hi≤b
def PieceB(w:World) (g:Nat) (p:Pc):Prop:=w.heap[g]?=some (.cells #[.int .i64 p.vol,.int .i64 p.frag,.int .i64 p.stripe,.int .i64 p.gen,.int .i64 p.ver,.string ⟨p.data.toArray⟩] 84 (0,0))
theorem PieceB.lt{w:World} {g:Nat} {p:Pc} (h:PieceB w g p):g<w.heap.size:=(Array.getElem?_eq_some_iff.1 h).1
theorem PieceB.cells{w:World} {g:Nat} {p:Pc} (h:PieceB w g p):w.cell? ⟨g,0,none⟩=some (.int .i64 p.vol)∧w.cell? ⟨g,1,none⟩=some (.int .i64 p.frag)∧w.cell? ⟨g,2,none⟩=some (.int .i64 p.stripe)∧w.cell? ⟨g,3,none⟩=some (.int .i64 p.gen)∧w.cell? ⟨g,4,none⟩=some (.int .i64 p.ver)∧w.cell? ⟨g,5,none⟩=some (.string ⟨p.data.toArray⟩)∧(∀i,w.frozen? ⟨g,i,none⟩=false):=by
 refine⟨?_,?_,?_,?_,?_,?_,fun i=>frozen_of_row _ _ _ _ _ h⟩ <;> (rw[cell_of_row _ _ _ _ _ _ h];rfl)
theorem six_cells{w:World} {g:Nat} {a b c d e f:Value} {T:TypeId} (h:w.heap[g]?=some (.cells #[a,b,c,d,e,f] T (0,0))):w.cell? ⟨g,0,none⟩=some a∧w.cell? ⟨g,1,none⟩=some b∧w.cell? ⟨g,2,none⟩=some c∧w.cell? ⟨g,3,none⟩=some d∧w.cell? ⟨g,4,none⟩=some e∧w.cell? ⟨g,5,none⟩=some f∧(∀i,w.frozen? ⟨g,i,none⟩=false):=by
 refine⟨?_,?_,?_,?_,?_,?_,fun i=>frozen_of_row _ _ _ _ _ h⟩ <;> (rw[cell_of_row _ _ _ _ _ _ h];rfl)
theorem PieceB.hot{w w':World} {g:Nat} {p:Pc} (h:PieceB w g p) {hot:List (Option Nat)} (hh:HotBy hot w w') (hn:some g∉hot):PieceB w' g p:=(hh.block g h.lt hn).trans h
theorem PieceB.six{w:World} {g:Nat} {a b c d e f:Value} (h:w.heap[g]?=some (.cells #[a,b,c,d,e,f] 84 (0,0))) (p:Pc):PieceB ((((((w.setCell ⟨g,0,none⟩ (.int .i64 p.vol)).setCell ⟨g,1,none⟩ (.int .i64 p.frag)).setCell ⟨g,2,none⟩ (.int .i64 p.stripe)).setCell ⟨g,3,none⟩ (.int .i64 p.gen)).setCell ⟨g,4,none⟩ (.int .i64 p.ver)).setCell ⟨g,5,none⟩ (.string ⟨p.data.toArray⟩)) g p :=
 heap_setCell_same _ g 5 _ _ _ (heap_setCell_same _ g 4 _ _ _ (heap_setCell_same _ g 3 _ _ _ (heap_setCell_same _ g 2 _ _ _ (heap_setCell_same _ g 1 _ _ _ (heap_setCell_same w g 0 _ _ _ h)))))
theorem InP.six{gT:Nat} {vt:Value} {wr0 w1:World} {I:Nat} (h:InP gT vt wr0 w1 I) (hT:gT<wr0.heap.size) {g:Nat} (hg:wr0.heap.size≤g) (a b c d e f:Value):InP gT vt wr0 ((((((w1.setCell ⟨g,0,none⟩ a).setCell ⟨g,1,none⟩ b).setCell ⟨g,2,none⟩ c).setCell ⟨g,3,none⟩ d).setCell ⟨g,4,none⟩ e).setCell ⟨g,5,none⟩ f) I :=
 (((((h.set hT g 0 a hg).set hT g 1 b hg).set hT g 2 c hg).set hT g 3 d hg).set hT g 4 e hg).set hT g 5 f hg
theorem encB_length{p:Pc} (h:p.data.length=16):(encB p).length=36:=by
 unfold encB sealB headB
 simp[beTo_length,h]
theorem InP.next_big{w0 wr0 w1 WA:World} {R:Nat→Prop} {gT:Nat} {vt:Value} {xs:List Int} {gF:Nat} {I:Nat} (S:StatA w0 R gT vt xs WA gF) (h0:HotBy [some gT,some gF] WA wr0) (h:InP gT vt wr0 w1 I) (hI:I≤1000000000) (n:Nat) (h1:1≤n) (h2:n≤4294967296) (nv:Int) (hn:nv=(n:Int)) :
  Calls Tryz.prog 18 #[.pointer (some ⟨gT,0,none⟩),.int .i64 nv] w1 fun e w'=>∃r:Nat,e=.returned (.int .i64 (r:Int))∧r<n∧InP gT vt wr0 w' (I+1)∧HotBy [some gT] w1 w':=by
 subst hn
 refine(next_hot w0 R gT vt xs S.hx S.hR w1 (S.w0 (h0.trans (h.hot.more (fun x hx _=>by simp at hx ⊢;exact .inl hx)))) I h.tape (by omega) n h1 (by omega)).mono ?_
 rintro e w' ⟨r,rfl,hr,hT,hg⟩
 have hh:HotBy [some gT] w1 w':=HotBy.grown hg (.inl (by simp))
 exact⟨r,rfl,hr,⟨hT,h.hot.trans hh⟩,hh⟩
theorem size_flt:(Tryz.prog.info? 37).map (·.size)=some 7:=by kernel_rfl
theorem size_rea:(Tryz.prog.info? 27).map (·.size)=some 3:=by kernel_rfl
theorem PieceB.elder{w:World} {g:Nat} {p:Pc} (h:PieceB w g p) (x:Int) (l:List UInt8):PieceB ((w.setCell ⟨g,4,none⟩ (.int .i64 x)).setCell ⟨g,5,none⟩ (.string ⟨l.toArray⟩)) g ⟨p.vol,p.frag,p.stripe,p.gen,x,l⟩:=heap_setCell_same _ g 5 _ _ _ (heap_setCell_same w g 4 _ _ _ h)
theorem cat_flat(t:Mat) (l:List UInt8):(⟨t.flatten.toArray⟩:ByteArray)++⟨l.toArray⟩=⟨(t++[l]).flatten.toArray⟩:=by
 rw[ByteArray.mk_append_mk]
 congr 1
 apply Array.ext'
 simp
theorem wide_sum:∀(t:Mat) (n:Nat),Wide t n→(List.map List.length t).sum=t.length * n
 | [],n,_=>by simp
 | r :: t,n,h=>by
  have h1:=wide_sum t n (fun x hx=>h x (List.mem_cons_of_mem _ hx))
  have h2:=h r (List.mem_cons_self ..)
  simp only[List.map_cons,List.sum_cons,List.length_cons,h1,h2,Nat.succ_mul]
  omega
theorem InP.drew{gT:Nat} {vt:Value} {wr0 w1:World} {I:Nat} (h:InP gT vt wr0 w1 I):InP gT vt wr0 w1.drew I:=⟨h.tape,h.hot.drew⟩
theorem MadeT.drew{gT:Nat} {vt:Value} {WM:World} {gR gM:Nat} {w:World} {I:Nat} {c0 c1 c2 vp vo va:Value} {rs:List (Value×List ByteArray)} {on:List Bool} {acks:List Ac} {n:Nat} {f:Int→Int→Option Value} (h:MadeT gT vt WM gR gM w I c0 c1 c2 vp vo va rs on acks n f):MadeT gT vt WM gR gM w.drew I c0 c1 c2 vp vo va rs on acks n f:=h.inP (InP.start h.tape).drew
theorem keysTo_le(ext v s:Nat) (he:ext≤2) (hv:v≤2) (hs:s≤2):(keysTo ext v s).length≤100:=by
 have h:∀v,((List.range v).flatMap (fun v=>(List.range ext).map fun s=>(v,s))).length=v * ext:=by
  intro v
  induction v with
  | zero=>simp
  | succ v ih=>rw[List.range_succ,List.flatMap_append,List.length_append,ih];simp[Nat.succ_mul]
 unfold keysTo
 rw[List.length_append,h]
 have:v * ext≤2 * 2:=Nat.mul_le_mul hv he
 simp;omega
theorem keysTo_mem{ext v a b:Nat} (h:(a,b)∈keysTo ext v 0):a<v∧b<ext:=by
 unfold keysTo at h
 rcases List.mem_append.1 h with h | h
 ·obtain⟨c,hc,hd⟩:=List.mem_flatMap.1 h
  obtain⟨d,hd1,hd2⟩:=List.mem_map.1 hd
  have h1:=List.mem_range.1 hc
  have h2:=List.mem_range.1 hd1
  injection hd2 with e1 e2
  omega
 ·simp at h
def w_cell_pol(w:World) (b o v p:Nat):Prop:=w.cell? ⟨b,o+v * 2+1,none⟩=some (.int .i64 (p:Int))
def MadePost(w:World) (e:Ending) (w':World):Prop :=
 ∃vl vm vd vv vp vo F r0 r1 r2 r gM n f st,e=.returned (.tuple #[.agg #[.int .i64 F.ext,vl,vm,vd,vv,vp,vo],.agg #[r0,r1,r2],.map (some gM)])∧FleetS w' (Fr w.heap.size w'.heap.size) vl vm vd vv vp vo F∧FleetOk 2 F ∧
  ReS w' (Fr w.heap.size w'.heap.size) r0 r1 r2 r∧MadeOk F r st∧MapKV w' 74 gM n f∧DataOk st f∧w.heap.size≤gM∧Below w.heap.size w w'
end Go.Proofs.YtmehadfhcdpfcaaGreat
