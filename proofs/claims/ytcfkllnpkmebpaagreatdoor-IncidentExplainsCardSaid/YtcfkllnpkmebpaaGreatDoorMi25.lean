/- The sort of incidents: slices.SortFunc under the program's order, at twelve incidents or fewer. -/
import Derived.Shelf.SlSortCmp.SmallK
import Derived.Shelf.SlSortCmp.NoneTotal
import Derived.Shelf.Small.Bits
import Derived.Test.YtcfkllnpkmebpaaGreatDoorMi24
import Derived.Test.YtcfkllnpkmebpaaGreatDoorMi01
import Derived.Test.YtcfkllnpkmebpaaGreatDoorMi17
import Derived.Test.YtcfkllnpkmebpaaGreatDoorMi04
import Derived.Deep.MidRow
import Derived.Test.YtcfkllnpkmebpaaGreatDoorMi22
import Derived.Test.YtcfkllnpkmebpaaGreatDoorMi15
set_option maxRecDepth 100000
set_option maxHeartbeats 12800000
namespace Go.Proofs.YtcfkllnpkmebpaaGreatDoor
open Go.RowKit Go.Shelf Go.Sort
set_option linter.unusedVariables false
set_option linter.unusedSimpArgs false
def sortRen:Go.Shelf.Ren:=⟨fun | 6=>79 | 15=>116 | 14=>115 | 28=>167 | 29=>168 | 20=>159 | 21=>160 | 22=>161 | 23=>162 | 24=>163 | 25=>164 | 26=>165 | 27=>166 | 46=>215 | 47=>216 | 48=>217 | 49=>218 | 50=>219 | 57=>243 | n=>n,fun | 22=>23 | 24=>27 | 25=>116 | 3=>3 | 39=>183 | 0=>0 | 53=>97 | 55=>181 | 4=>4 | 46=>248 | 45=>247 | 50=>207 | 5=>5 | 9=>9 | 66=>283 | 70=>287 | 76=>300 | 77=>239 | n=>n,fun n=>n⟩
theorem sortLays:Go.Proofs.SlLaysF0.n6 Tryz.prog sortRen:={
 mixed:=by kernel_rfl
 f6 := Exists.intro "slices.SortFunc[[]drydock/api.Incident,drydock/api.Incident]" ⟨of_decide_eq_true (by kernel_rfl), Tryz.func79.trans (congrArg some (by kernel_rfl))⟩
 f14 := Exists.intro "slices.pdqsortCmpFunc[drydock/api.Incident]" ⟨of_decide_eq_true (by kernel_rfl), Tryz.func115.trans (congrArg some (by kernel_rfl))⟩
 f15:=Tryz.func116.trans (congrArg some (by kernel_rfl))
 f20 := Exists.intro "slices.insertionSortCmpFunc[drydock/api.Incident]" ⟨of_decide_eq_true (by kernel_rfl), Tryz.func159.trans (congrArg some (by kernel_rfl))⟩
 f21 := Exists.intro "slices.heapSortCmpFunc[drydock/api.Incident]" ⟨of_decide_eq_true (by kernel_rfl), Tryz.func160.trans (congrArg some (by kernel_rfl))⟩
 f22 := Exists.intro "slices.breakPatternsCmpFunc[drydock/api.Incident]" ⟨of_decide_eq_true (by kernel_rfl), Tryz.func161.trans (congrArg some (by kernel_rfl))⟩
 f23 := Exists.intro "slices.choosePivotCmpFunc[drydock/api.Incident]" ⟨of_decide_eq_true (by kernel_rfl), Tryz.func162.trans (congrArg some (by kernel_rfl))⟩
 f24 := Exists.intro "slices.reverseRangeCmpFunc[drydock/api.Incident]" ⟨of_decide_eq_true (by kernel_rfl), Tryz.func163.trans (congrArg some (by kernel_rfl))⟩
 f25 := Exists.intro "slices.partialInsertionSortCmpFunc[drydock/api.Incident]" ⟨of_decide_eq_true (by kernel_rfl), Tryz.func164.trans (congrArg some (by kernel_rfl))⟩
 f26 := Exists.intro "slices.partitionEqualCmpFunc[drydock/api.Incident]" ⟨of_decide_eq_true (by kernel_rfl), Tryz.func165.trans (congrArg some (by kernel_rfl))⟩
 f27 := Exists.intro "slices.partitionCmpFunc[drydock/api.Incident]" ⟨of_decide_eq_true (by kernel_rfl), Tryz.func166.trans (congrArg some (by kernel_rfl))⟩
 f28:=Tryz.func167.trans (congrArg some (by kernel_rfl))
 f29:=Tryz.func168.trans (congrArg some (by kernel_rfl))
 f46 := Exists.intro "slices.siftDownCmpFunc[drydock/api.Incident]" ⟨of_decide_eq_true (by kernel_rfl), Tryz.func215.trans (congrArg some (by kernel_rfl))⟩
 f47:=Tryz.func216.trans (congrArg some (by kernel_rfl))
 f48:=Tryz.func217.trans (congrArg some (by kernel_rfl))
 f49 := Exists.intro "slices.medianAdjacentCmpFunc[drydock/api.Incident]" ⟨of_decide_eq_true (by kernel_rfl), Tryz.func218.trans (congrArg some (by kernel_rfl))⟩
 f50 := Exists.intro "slices.medianCmpFunc[drydock/api.Incident]" ⟨of_decide_eq_true (by kernel_rfl), Tryz.func219.trans (congrArg some (by kernel_rfl))⟩
 f57 := Exists.intro "slices.order2CmpFunc[drydock/api.Incident]" ⟨of_decide_eq_true (by kernel_rfl), Tryz.func243.trans (congrArg some (by kernel_rfl))⟩
 t0:=Tryz.underlying0
 a0:=Tryz.isAgg0
 z0:=Tryz.sizeOf0
 v0:=Tryz.zeroValue0
 t3:=Tryz.underlying3
 a3:=Tryz.isAgg3
 z3:=Tryz.sizeOf3
 v3:=Tryz.zeroValue3
 t4:=Tryz.underlying4
 a4:=Tryz.isAgg4
 z4:=Tryz.sizeOf4
 v4:=Tryz.zeroValue4
 t5:=Tryz.underlying5
 a5:=Tryz.isAgg5
 z5:=Tryz.sizeOf5
 v5:=Tryz.zeroValue5
 t9:=Tryz.underlying9
 a9:=Tryz.isAgg9
 z9:=Tryz.sizeOf9
 v9:=Tryz.zeroValue9
 t22:=Tryz.underlying23
 a22:=Tryz.isAgg23
 z22:=Tryz.sizeOf23
 v22:=Tryz.zeroValue23
 t25:=Tryz.underlying116
 a25:=Tryz.isAgg116
 z25:=Tryz.sizeOf116
 v25:=Tryz.zeroValue116
 t39:=Tryz.underlying183
 a39:=Tryz.isAgg183
 z39:=Tryz.sizeOf183
 v39:=Tryz.zeroValue183
 t45:=Tryz.underlying247
 a45:=Tryz.isAgg247
 z45:=Tryz.sizeOf247
 v45:=Tryz.zeroValue247
 t46:=Tryz.underlying248
 a46:=Tryz.isAgg248
 z46:=Tryz.sizeOf248
 v46:=Tryz.zeroValue248
 t50:=Tryz.underlying207
 a50:=Tryz.isAgg207
 z50:=Tryz.sizeOf207
 v50:=Tryz.zeroValue207
 t53:=Tryz.underlying97
 a53:=Tryz.isAgg97
 z53:=Tryz.sizeOf97
 v53:=Tryz.zeroValue97
 t55:=Tryz.underlying181
 a55:=Tryz.isAgg181
 z55:=Tryz.sizeOf181
 v55:=Tryz.zeroValue181
 t66:=Tryz.underlying283
 a66:=Tryz.isAgg283
 z66:=Tryz.sizeOf283
 v66:=Tryz.zeroValue283
 t70:=Tryz.underlying287
 a70:=Tryz.isAgg287
 z70:=Tryz.sizeOf287
 v70:=Tryz.zeroValue287
 t76:=Tryz.underlying300
 a76:=Tryz.isAgg300
 z76:=Tryz.sizeOf300
 v76:=Tryz.zeroValue300
 t77:=Tryz.underlying239
 a77:=Tryz.isAgg239
 z77:=Tryz.sizeOf239
 v77:=Tryz.zeroValue239 }
def bitsLenRen:Go.Shelf.Ren:=⟨fun | 125=>116 | 128=>167 | 129=>168 | n=>n,fun | 46=>183 | 3=>3 | 51=>97 | 53=>181 | 4=>4 | 5=>5 | 9=>9 | n=>n,fun n=>n⟩
theorem bitsLenLays:Go.Proofs.Lays.n125 Tryz.prog bitsLenRen:={
 mixed:=by kernel_rfl
 f125:=Tryz.func116.trans (congrArg some (by kernel_rfl))
 f128:=Tryz.func167.trans (congrArg some (by kernel_rfl))
 f129:=Tryz.func168.trans (congrArg some (by kernel_rfl))
 t3:=Tryz.underlying3
 a3:=Tryz.isAgg3
 z3:=Tryz.sizeOf3
 v3:=Tryz.zeroValue3
 t4:=Tryz.underlying4
 a4:=Tryz.isAgg4
 z4:=Tryz.sizeOf4
 v4:=Tryz.zeroValue4
 t5:=Tryz.underlying5
 a5:=Tryz.isAgg5
 z5:=Tryz.sizeOf5
 v5:=Tryz.zeroValue5
 t9:=Tryz.underlying9
 a9:=Tryz.isAgg9
 z9:=Tryz.sizeOf9
 v9:=Tryz.zeroValue9
 t46:=Tryz.underlying183
 a46:=Tryz.isAgg183
 z46:=Tryz.sizeOf183
 v46:=Tryz.zeroValue183
 t51:=Tryz.underlying97
 a51:=Tryz.isAgg97
 z51:=Tryz.sizeOf97
 v51:=Tryz.zeroValue97
 t53:=Tryz.underlying181
 a53:=Tryz.isAgg181
 z53:=Tryz.sizeOf181
 v53:=Tryz.zeroValue181 }
structure IncE where
 v:Fin 4096
 s:Fin 4096
 lost:Bool
 need:Int
 cs:List Cau
 cv:{x:Value // x.oneCell'=true}
instance:Inhabited IncE:=⟨⟨0,0,false,0,[],⟨.slice none 0 0,rfl⟩⟩⟩
def IncE.w(e:IncE):IncW:=⟨⟨(e.v.val:Int),(e.s.val:Int),e.lost,e.need,e.cs⟩,e.cv.1⟩
def sencE(e:IncE):List Value:=[.int .i64 (e.v.val:Int),.int .i64 (e.s.val:Int),.bool e.lost,.int .i64 e.need,e.cv.1]
def cmpE(x y:IncE):Int:=if(x.v.val:Int)=(y.v.val:Int) then(x.s.val:Int) - (y.s.val:Int) else(x.v.val:Int) - (y.v.val:Int)
theorem encE_w(e:IncE):sencE e=incC e.w:=rfl
theorem swoE:SWO (ltOf cmpE) where
 irrefl x:=by unfold ltOf cmpE;simp
 trans x y z h k:=by
  unfold ltOf cmpE at *
  simp only[decide_eq_true_eq] at *
  split at h <;> split at k <;> split <;> omega
 ntrans x y z h k:=by
  unfold ltOf cmpE at *
  simp only[decide_eq_false_iff_not] at *
  split at h <;> split at k <;> split <;> omega
theorem ltE_iff(x y:IncE):ltOf cmpE x y=true↔incLt x.w.x y.w.x:=by
 unfold ltOf cmpE incLt IncE.w
 simp only[decide_eq_true_eq]
 split <;> omega
theorem order_any(x y:IncE) (w:World):Calls Tryz.prog 50 #[.agg (sencE x).toArray,.agg (sencE y).toArray] w fun e w'=>e=.returned (.int .i64 (cmpE x y))∧∃q os',w'=grow (w.drewN q) os':=by
 obtain⟨⟨xv,hxv⟩,⟨xs,hxs⟩,xl,xn,xc,⟨xw,hxw⟩⟩:=x
 obtain⟨⟨yv,hyv⟩,⟨ys,hys⟩,yl,yn,yc,⟨yw,hyw⟩⟩:=y
 unfold sencE cmpE
 simp only
 have i1:(xv:Int)<4096:=by omega
 have i2:(xs:Int)<4096:=by omega
 have i3:(yv:Int)<4096:=by omega
 have i4:(ys:Int)<4096:=by omega
 by_cases h:(xv:Int)=(yv:Int)
 ·rw[if_pos h]
  have b1:((xv:Int) != (yv:Int))=false:=by simpa using h
  clear h
  go_enter Tryz.func50,Tryz.ntmps50
  go_wp2_with fail
  go_ret
  exact⟨rfl,0,_,by rw[alloc_eq_grow,alloc_eq_grow,grow_grow];rfl⟩
 ·rw[if_neg h]
  have b1:((xv:Int) != (yv:Int))=true:=by simpa using h
  clear h
  go_enter Tryz.func50,Tryz.ntmps50
  go_wp2_with fail
  go_ret
  exact⟨rfl,0,_,by rw[alloc_eq_grow,alloc_eq_grow,grow_grow];rfl⟩
theorem hot_sorted(w:World) (g m:Nat) (d:Array IncE) (os:Array Obj):HotBy [some g] w (sortWorldK sencE 5 w g 0 m d os):=by
 unfold sortWorldK grow putRowK putRow mapBlock Go.Sort.ahead
 refine⟨rfl,rfl,rfl,?_,fun b hb hn=>?_⟩
 ·simp
 ·have hne:g≠b:=fun e=>hn (by simp[e])
  simp only
  rw[Array.getElem?_append_left (by simpa using hb),Array.getElem?_modify,if_neg hne]
theorem toE(L:List IncW) (h:∀s∈L,(0≤s.x.vol∧s.x.vol<4096)∧(0≤s.x.stripe∧s.x.stripe<4096)∧s.cv.oneCell'=true):∃D:List IncE,D.map IncE.w=L:=by
 induction L with
 | nil=>exact⟨[],rfl⟩
 | cons s L ih =>
  obtain⟨D,hD⟩:=ih (fun u hu=>h u (List.mem_cons_of_mem _ hu))
  obtain⟨⟨h1,h2⟩,⟨h3,h4⟩,h5⟩:=h s (by simp)
  refine⟨⟨⟨s.x.vol.toNat,by omega⟩,⟨s.x.stripe.toNat,by omega⟩,s.x.lost,s.x.need,s.x.causes,⟨s.cv,h5⟩⟩ :: D,?_⟩
  rw[List.map_cons,hD]
  congr 1
  obtain⟨⟨a,b,c,d,e⟩,cv⟩:=s
  unfold IncE.w
  simp only at h1 h3
  simp only[Int.toNat_of_nonneg h1,Int.toNat_of_nonneg h3]
theorem flatE(D:List IncE) (t:Nat) (h:t<D.length * 5):((D.map IncE.w).flatMap incC)[t]?=some (sencE D.toArray[t / 5]!)[t % 5]!:=by
 have h1:t / 5<D.length:=by omega
 have h2:(D.map IncE.w)[t / 5]?=some (D[t / 5]).w:=by rw[List.getElem?_map,List.getElem?_eq_getElem h1];rfl
 have h3:D.toArray[t / 5]! =D[t / 5]:=by simp[h1]
 have h4:(incC (D[t / 5]).w)[t % 5]?=some (sencE D[t / 5])[t % 5]!:=by
  rw[←encE_w]
  have:t % 5<(sencE D[t / 5]).length:=by show t % 5<5;omega
  rw[List.getElem?_eq_getElem this];simp[this]
 have:=flat_inc _ _ _ h2 _ _ h4
 rw[h3,←this]
 congr 1
 omega
theorem bitsLen_any(n:Nat) (W:World) (h:n≤12):Calls Tryz.prog 116 #[.int .u64 n] W fun e w'=>(∃l:Int,e=.returned (.int .i64 l))∧w'=W :=
 (Any.bits_Len bitsLenLays n W (by omega) (by omega)).mono fun _ _ ⟨he,hw⟩=>⟨⟨_,he⟩,hw⟩
theorem sortinc_any(vl:Value) (B:Nat) (L:List IncW) (w:World) (h:IncsS w B vl L) (h12:L.length≤12) (hb:∀s∈L,(0≤s.x.vol∧s.x.vol<4096)∧(0≤s.x.stripe∧s.x.stripe<4096)) :
  Calls Tryz.prog 79 #[vl,.func (.func 50) #[] #[]] w fun e w'=>e=.returned (.tuple #[])∧∃L':List Inc,L'.Perm (L.map (·.x))∧L'.Pairwise (fun a b=>¬incLt b a)∧SlS 5 IncK w' (Fr B w'.heap.size) vl L'∧Below B w w':=by
 have hform:=h.row.2
 rcases hform with ⟨rfl,h0⟩ | ⟨g,cap,cur,rfl,hg,hcur,h2,h3,hsz,htk⟩
 ·refine(AnyF.slices_SortFunc_none (P:=Tryz.prog) (ρ:=sortRen) { sortLays with } none 0 (.func (.func 50) #[] #[]) w).mono ?_
  rintro e w' ⟨rfl,rfl⟩
  have hL:=List.eq_nil_of_length_eq_zero h0
  subst hL
  exact⟨rfl,[],List.Perm.refl _,List.Pairwise.nil,Row.nil _ _ _,Below.refl _ _⟩
 ·obtain⟨D,hD⟩:=toE L (fun s hs=>⟨(hb s hs).1,(hb s hs).2,one_sls (h.each s hs)⟩)
  have hDl:D.length=L.length:=by rw[←hD,List.length_map]
  have hgl:g<w.heap.size:=(Array.getElem?_eq_some_iff.1 hcur).1
  have hH:HoldsK sencE 5 w g 0 D.toArray:=by
   intro t ht
   rw[size_flatK] at ht
   have ht':t<D.length * 5:=by simpa using ht
   have e1:=flatE D t ht'
   rw[hD,←htk,List.getElem?_take,if_pos (by omega)] at e1
   rw[get_flatK _ _ _ _ ht,Nat.zero_add]
   exact⟨by rw[cell_of_row _ _ _ _ _ _ hcur,←Array.getElem?_toList];exact e1,frozen_of_row _ _ _ _ _ hcur⟩
  have hs:=AnyQ.slices_SortFunc_small_sorted sortLays 5 Tryz.isAgg27 Tryz.sizeOf27 sencE (fun _=>rfl) (fun x v hv=>by
    unfold sencE at hv
    simp only[List.mem_cons,List.not_mem_nil,or_false] at hv
    rcases hv with rfl | rfl | rfl | rfl | rfl
    ·rfl
    ·rfl
    ·rfl
    ·rfl
    ·exact x.cv.2) cmpE 50 #[] swoE g 0 cap D.toArray w (enters_of Tryz.func50 (by kernel_rfl) rfl) (fun _ _ _ _ x y=>order_any x y _) hH hgl (by simp;omega) bitsLen_any
  have ez:D.toArray.size=L.length:=by simpa using hDl
  rw[ez] at hs
  refine hs.mono ?_
  rintro e w' ⟨rfl,d',n,os,⟨hsz',-,hperm⟩,hsort,rfl⟩
  have hh:=hot_sorted w g n d' os
  have hds:d'.size=L.length:=by rw[hsz',ez]
  have hperm':d'.toList.Perm D:=by
   have e1:(d'.extract 0 L.length).toList=d'.toList:=by rw[←hds];simp
   have e2:(D.toArray.extract 0 L.length).toList=D:=by rw[←ez];simp
   rw[e1,e2] at hperm
   exact hperm
  have hHd:=holdsK_sortWorldK_c sencE 5 w g 0 D.toArray d' n os hH hgl (by rw[hds,ez])
  have hbel:Below B w (sortWorldK sencE 5 w g 0 n d' os):=⟨hh.os,hh.tape,hh.output,hh.size,fun b hb2=>hh.block b (by omega) (by simp;omega)⟩
  refine⟨rfl,d'.toList.map (fun e=>e.w.x),?_,?_,?_,hbel⟩
  ·have:=(hperm'.map IncE.w)
   rw[hD] at this
   have:=this.map (fun s:IncW=>s.x)
   rwa [List.map_map] at this
  ·rw[List.pairwise_map,List.pairwise_iff_getElem]
   intro i j hi hj hij
   have:=hsort i j (Nat.zero_le _) hij (by rw[←hds];simpa using hj)
   have hi':i<d'.size:=by simpa using hi
   have hj':j<d'.size:=by simpa using hj
   have ei:d'[i]! =d'.toList[i]:=by simp[hi']
   have ej:d'[j]! =d'.toList[j]:=by simp[hj']
   rw[ei,ej] at this
   intro hlt
   rw[←ltE_iff] at hlt
   rw[this] at hlt;cases hlt
  ·have hlen:(d'.toList.map (fun e=>e.w.x)).length=L.length:=by rw[List.length_map,Array.length_toList,hds]
   refine⟨some ⟨g,0,none⟩,cap,by rw[hlen],by rw[hlen];exact h2,by rw[hlen];exact Nat.le_trans h2 h3,fun _=>⟨g,0,rfl,⟨hg,Nat.lt_of_lt_of_le hgl hh.size⟩,fun k f hf=>?_⟩⟩
   rw[List.getElem?_map] at hf
   cases hx:d'.toList[k]? with
   | none=>rw[hx] at hf;cases hf
   | some e =>
    rw[hx] at hf
    injection hf with hf
    subst hf
    have hk:k<d'.size:=by have:=(List.getElem?_eq_some_iff.1 hx).1;simpa using this
    have ee:d'[k]! =e:=by
     have h1:d'.toList[k]?=some d'[k]:=by rw[Array.getElem?_toList,Array.getElem?_eq_getElem hk]
     rw[h1] at hx;injection hx with hx
     simp[hk,hx]
    have hmem:e.w∈L:=by
     have h1:e∈D:=hperm'.mem_iff.1 (List.mem_of_getElem? hx)
     rw[←hD];exact List.mem_map.2 ⟨e,h1,rfl⟩
    refine⟨sencE e,rfl,fun i c hi=>?_,e.cv.1,rfl,SlS.mono cauK (SlS.keep cauK (h.each e.w hmem) (fun b hb2=>hh.block b hb2.2.1 (by
     intro hm
     simp at hm
     exact hb2.2.2 (by rw[hm];rfl)))) (fun b hb2=>⟨hb2.1,Nat.lt_of_lt_of_le hb2.2.1 hh.size⟩)⟩
    have hi5:i<5:=(List.getElem?_eq_some_iff.1 hi).1
    have h1:=(HoldsK.cell hHd hk hi5).1
    rw[ee] at h1
    rw[h1]
    have:(sencE e)[i]! =c:=by
     have h2:i<(sencE e).length:=hi5
     rw[List.getElem?_eq_getElem h2] at hi;injection hi with hi
     simp[h2,hi]
    rw[this]
end Go.Proofs.YtcfkllnpkmebpaaGreatDoor

namespace Go.Proofs.YtcfkllnpkmebpaaGreatDoor
open Go.RowKit
set_option linter.unusedVariables false
set_option linter.unusedSimpArgs false
theorem in_any(va:Value) (ks:List (Nat×Nat)) (x y:Nat) (R:Nat→Prop) (w:World) (ha:SlS 2 KyK w R va ks) (hR:∀b,R b→b<w.heap.size) :
  Calls Tryz.prog 39 #[va,.agg #[.int .i64 (x:Int),.int .i64 (y:Int)]] w fun e w'=>e=.returned (.bool (decide ((x,y)∈ks)))∧Below w.heap.size w w':=by
 obtain⟨A,c,rfl,h1,h2⟩:=ha.form
 unfold maxLen at h2
 obtain⟨W0,hW0⟩:=zx (w.alloc (.cells #[.int .i64 (x:Int),.int .i64 (y:Int)] 67))
 obtain⟨q,hq⟩:=zx w.heap.size
 have hb0:Below w.heap.size w W0:=by rw[hW0];exact(Below.refl _ _).alloc (Nat.le_refl _) _
 have p0:W0.cell? ⟨q,0,none⟩=some (.int .i64 (x:Int)):=by rw[hW0,hq];simp
 have p1:W0.cell? ⟨q,1,none⟩=some (.int .i64 (y:Int)):=by rw[hW0,hq];simp
 have hq0:q<W0.heap.size:=by rw[hW0,hq];simp
 have HA:=zh ha
 have HB0:=zh hb0
 have HW0:=zh hW0
 have HQ:=zh hq
 have HQ0:=zh hq0
 have HR:=zh hR
 obtain⟨L,hL⟩:=zx ks.length
 rw[←hL] at HA h1 h2 ⊢
 have HL:=zh hL
 obtain⟨res,hres⟩:=zx (decide ((x,y)∈ks))
 rw[←hres]
 have HRES:=zh hres
 clear ha hL hW0 hq hb0 hq0 hres hR
 go_enter Tryz.func39,Tryz.ntmps39
 go_wp2_with fail
 rw[←HW0.out,←HQ.out]
 go_loopg [5] L (fun z v5 wr=>∃j:Nat,j≤L∧z=L - j∧v5=.int .i64 (j:Int)∧Hid (∀k∈ks.take j,k≠(x,y))∧Hid (Below W0.heap.size W0 wr))
 case atStart=>exact⟨0,by omega,rfl,rfl,zh (fun k hk=>by simp at hk),zh (Below.refl _ _)⟩
 case round =>
  obtain⟨j,hj,rfl,rfl,HN,HB⟩:=hrel
  have e0:=(HB.out.cell (p:=⟨q,0,none⟩) HQ0.out).trans p0
  have e1:=(HB.out.cell (p:=⟨q,1,none⟩) HQ0.out).trans p1
  have HBB:=zh (HB0.out.trans (HB.out.mono HB0.out.size))
  by_cases hlt:j<L
  ·have hjl:j<ks.length:=by rw[←HL.out];exact hlt
   obtain⟨b,off,cs,rfl,hRb,-,hc,hcs⟩:=HA.out.at_ (k:=j) hjl
   obtain⟨c0,c1⟩:=two_ky hc hcs
   have hbw:=HR.out b hRb
   have d0:=(HBB.out.cell (p:=⟨b,off+j * 2,none⟩) hbw).trans c0
   have d1:=(HBB.out.cell (p:=⟨b,off+j * 2+1,none⟩) hbw).trans c1
   have HKM:=zh (List.getElem_mem hjl)
   have HST:=zh (fun(h:ks[j]≠(x,y))=>(fun k hk=>by
    rw[List.take_succ_eq_append_getElem hjl,List.mem_append,List.mem_singleton] at hk
    rcases hk with hk | rfl
    ·exact HN.out k hk
    ·exact h:∀k∈ks.take (j+1),k≠(x,y)))
   clear c0 c1 hc hcs
   generalize ks[j]=u at *
   obtain⟨u1,u2⟩:=u
   simp only at d0 d1
   by_cases hu:u1=x∧u2=y
   ·obtain⟨rfl,rfl⟩:=hu
    have HE:=zh (show res=true by rw[HRES.out];exact decide_eq_true HKM.out)
    go_upto_region 4 with fail
    go_quiet (fail)
    go_wp2_with fail
    go_ret
    exact⟨by rw[HE.out];rfl,(by first | exact HBB.out | exact Below.drewN' HBB.out _)⟩
   ·have HS:=zh (HST.out (fun e=>hu (by injection e with e1 e2;exact⟨e1,e2⟩)))
    by_cases e:u1=x
    ·subst e
     have hv:((u2:Int)==(y:Int))=false:=by rw[beq_eq_false_iff_ne];exact fun e2=>hu ⟨rfl,by omega⟩
     clear hu
     go_upto_region 4 with fail
     go_quiet (fail)
     go_wp2_with fail
     go_roundg (L - (j+1))
     case measure=>omega
     case rel=>exact⟨j+1,by omega,rfl,by go_num,HS,zh (by first | exact HB.out | exact Below.drewN' HB.out _)⟩
    ·have hv:((u1:Int)==(x:Int))=false:=by rw[beq_eq_false_iff_ne];omega
     clear hu e
     go_upto_region 4 with fail
     go_quiet (fail)
     go_wp2_with fail
     go_roundg (L - (j+1))
     case measure=>omega
     case rel=>exact⟨j+1,by omega,rfl,by go_num,HS,zh (by first | exact HB.out | exact Below.drewN' HB.out _)⟩
  ·have HE:=zh (show res=false by rw[HRES.out];exact decide_eq_false (fun h=>HN.out _ (by rw[List.take_of_length_le (by have:=HL.out;omega)];exact h) rfl))
   go_wp2_with fail
   go_ret
   exact⟨by rw[HE.out];rfl,HBB.out⟩
end Go.Proofs.YtcfkllnpkmebpaaGreatDoor

namespace Go.Proofs.YtcfkllnpkmebpaaGreatDoor
end Go.Proofs.YtcfkllnpkmebpaaGreatDoor

namespace Go.Proofs.YtcfkllnpkmebpaaGreatDoor
open Go.RowKit
set_option linter.unusedVariables false
set_option linter.unusedSimpArgs false
end Go.Proofs.YtcfkllnpkmebpaaGreatDoor

namespace Go.Proofs.YtcfkllnpkmebpaaGreatDoor
open Go.RowKit
set_option linter.unusedVariables false
set_option linter.unusedSimpArgs false
theorem ionline_any(vp vo va:Value) (r:Re) (d:Nat) (w:World) (h:ReS w (Bl w.heap.size) vp vo va r) (hd:d≤1048576) :
  Calls Tryz.prog 62 #[.agg #[vp,vo,va],.int .i64 (d:Int)] w fun e w'=>e=.returned (.bool (onB r d))∧Below w.heap.size w w':=by
 obtain⟨A,c,rfl,-,hm⟩:=h.2.1.form
 unfold maxLen at hm
 by_cases hlt:d<r.on.length
 ·obtain⟨b,off,cs,rfl,hR,-,hc,hk⟩:=h.2.1.at_ hlt
  have hk':cs=[.bool r.on[d]]:=hk
  have hcell:=hc 0 (.bool r.on[d]) (by rw[hk'];rfl)
  simp only[Nat.mul_one,Nat.add_zero] at hcell
  have hcell2:(w.alloc (.cells #[vp,.slice (some ⟨b,off,none⟩) r.on.length c,va] 40)).cell? ⟨b,off+d,none⟩=some (.bool r.on[d]) :=
   (((Below.refl w.heap.size w).alloc (Nat.le_refl _) _).cell (p:=⟨b,off+d,none⟩) hR).trans hcell
  have hE:onB r d=r.on[d]:=getD_lt _ _ hlt
  rw[hE]
  generalize r.on[d]=x at *
  clear hc hk hk' hcell h hE
  go_enter Tryz.func62,Tryz.ntmps62
  go_wp2
  go_ret
  exact⟨rfl,(Below.refl _ _).alloc (Nat.le_refl _) _⟩
 ·have hE:onB r d=false:=by unfold onB;rw[List.getD,List.getElem?_eq_none (by omega)];rfl
  rw[hE]
  clear h hE
  go_enter Tryz.func62,Tryz.ntmps62
  go_wp2
  go_ret
  exact⟨rfl,(Below.refl _ _).alloc (Nat.le_refl _) _⟩
end Go.Proofs.YtcfkllnpkmebpaaGreatDoor

namespace Go.Proofs.YtcfkllnpkmebpaaGreatDoor
open Go.RowKit
set_option linter.unusedVariables false
set_option linter.unusedSimpArgs false
theorem keyL_in(F:FltM) (r:Re) (cond:Int→Int→Int→Bool) (ext NO v s:Nat) (hv:v<NO) (hs:s<ext):(v,s)∈keyL F r cond ext NO 0↔keyP F r cond (v,s)=true:=by
 unfold keyL
 rw[List.mem_filter]
 have hm:(v,s)∈keysTo ext NO 0:=by
  unfold keysTo
  exact List.mem_append_left _ (List.mem_flatMap.2 ⟨v,List.mem_range.2 hv,List.mem_map.2 ⟨s,List.mem_range.2 hs,rfl⟩⟩)
 exact⟨fun h=>h.2,fun h=>⟨hm,h⟩⟩
theorem keyL_dec(F:FltM) (r:Re) (cond:Int→Int→Int→Bool) (ext NO v s:Nat) (hv:v<NO) (hs:s<ext):decide ((v,s)∈keyL F r cond ext NO 0)=keyP F r cond (v,s):=by
 rw[Bool.eq_iff_iff,decide_eq_true_eq];exact keyL_in F r cond ext NO v s hv hs
end Go.Proofs.YtcfkllnpkmebpaaGreatDoor

namespace Go.Proofs.YtcfkllnpkmebpaaGreatDoor
open Go.RowKit
open Go.ChangeMaps Go.MapKept Go.WideShapes
set_option linter.unusedVariables false
set_option linter.unusedSimpArgs false
theorem size_inc:(Tryz.prog.info? 27).map (·.size)=some 5:=by kernel_rfl
theorem cau_there{w:World} {g:Nat} {a b:Int} (h:w.heap[g]?=some (.cells #[.int .i64 a,.int .i64 b] 102 (0,0))):w.there g 0 2:=there_of_block (w:=w) (cs:=#[.int .i64 a,.int .i64 b]) h (Nat.le_refl 2)
def CauB(w0 w:World) (g:Nat) (c:Cau):Prop:=w.heap[g]?=some (.cells #[.int .i64 c.state,.int .i64 c.drive] 102 (0,0))∧w0.heap.size≤g∧Below w0.heap.size w0 w
theorem CauB.below{w0 w w':World} {g:Nat} {c:Cau} (h:CauB w0 w g c) (hb:Below w.heap.size w w'):CauB w0 w' g c :=
 ⟨(hb.block g (Array.getElem?_eq_some_iff.1 h.1).1).trans h.1,h.2.1,h.2.2.trans (hb.mono h.2.2.size)⟩
theorem CauB.set{w0 w:World} {g:Nat} {c:Cau} (h:CauB w0 w g c) (c':Cau):CauB w0 (w.setCells g 0 [.int .i64 c'.state,.int .i64 c'.drive]) g c':=by
 have h1:(w.setCell ⟨g,0,none⟩ (.int .i64 c'.state)).heap[g]?=some (.cells #[.int .i64 c'.state,.int .i64 c.drive] 102 (0,0)):=heap_setCell_same w g 0 _ _ _ h.1
 have h2:((w.setCell ⟨g,0,none⟩ (.int .i64 c'.state)).setCell ⟨g,1,none⟩ (.int .i64 c'.drive)).heap[g]?=some (.cells #[.int .i64 c'.state,.int .i64 c'.drive] 102 (0,0)):=heap_setCell_same _ g 1 _ _ _ h1
 exact⟨h2,h.2.1,below_setCellsV h.2.1 _ _ _ h.2.2⟩
theorem CauB.row{w0 w:World} {g:Nat} {c:Cau} (h:CauB w0 w g c):w.rangeAt g 0 [.int .i64 c.state,.int .i64 c.drive]:=World.rangeAt_of_block h.1 0 2
theorem CauB.lt{w0 w:World} {g:Nat} {c:Cau} (h:CauB w0 w g c):g<w.heap.size:=(Array.getElem?_eq_some_iff.1 h.1).1
theorem explain_any(N:Nat) (hN:N≤12) (vl vm vd vv vp vo vp0 vo0 va0:Value) (F:FltM) (r:Re) (v s EX KN KM gm n:Nat) (lost:Bool) (w:World) (hf:FleetS w (Bl w.heap.size) vl vm vd vv vp vo F) (hok:FleetOk N F) (h:ReS w (Bl w.heap.size) vp0 vo0 va0 r) (hp:r.plat.length≤24) (hl:∀l∈r.plat,l.length≤1000) (hac:r.acks.length≤1000000)
  (hv:v<F.vols.length) (hEX:F.ext=(EX:Int)) (hs:s<EX) (hKN:kOf F v=(KN:Int)) (hKM:kOf F v+mOf F v=(KM:Int)) (hM:MapG w 210 k3 gm n (fun k=>(oldD r k.v k.f k.s).map dV)) :
  Calls Tryz.prog 78 #[.agg #[.int .i64 F.ext,vl,vm,vd,vv,vp,vo],.agg #[vp0,vo0,va0],.map (some gm),.agg #[.int .i64 (v:Int),.int .i64 (s:Int)],.bool lost] w fun e w'=>∃cv,e=.returned (.agg #[.int .i64 (v:Int),.int .i64 (s:Int),.bool lost,.int .i64 (KN:Int),cv])∧SlS 2 CauK w' (Fr w.heap.size w'.heap.size) cv (causL r (v:Int) (s:Int) KM)∧Below w.heap.size w w':=by
 have hkm4:(KN=1∨KN=2)∧KM≤4:=by
  obtain⟨kk,m1,m2,-,-⟩:=kmq_ok hok hv
  omega
 obtain⟨pb,pof,ob,oof,cp,co,rfl,rfl,hRp,hRo,hPA⟩:=polAt hf hok
 have HGD:=zh (fun(i:Nat) (w':World) (hb:Below w.heap.size w w')=>good_any vp0 vo0 va0 r (v:Int) (i:Int) (s:Int) w' (h.below hb) (by omega) hl hac (by have:=hok.volN;unfold I64;omega) (by have:=hok.ext;unfold I64;omega))
 have HONL:=zh (fun(d:Nat) (hd:d≤1048576) (w':World) (hb:Below w.heap.size w w')=>ionline_any vp0 vo0 va0 r d w' (h.below hb) hd)
 have hgl:∀i:Nat,(goodI r (v:Int) (i:Int) (s:Int)).length≤1000000:=fun i=>by
  have h0:=goodTo_length (v:Int) (i:Int) (s:Int) (pieces r)
  have h1:=piecesTo_length r 1000 hl r.plat.length
  have h2:r.plat.length * 1000≤24 * 1000:=Nat.mul_le_mul_right 1000 hp
  unfold goodI
  unfold pieces at h0 ⊢
  omega
 have HGL:=zh hgl
 have HPN:=zh hp
 obtain⟨hpl,nm,hvol,a0,a4,a5,a6,a7,a8,a9,a10,a11,a12,a13,a14,a15,a16,hpol,hone⟩:=hPA v hv
 obtain⟨MM,hMM⟩:=zx (mOf F v)
 obtain⟨QQ,hQ⟩:=zx (qOf F v)
 obtain⟨p0,hpp⟩:=zx (volP F v)
 rw[hKN,←hMM,←hQ] at hpol hone
 rw[←hpp] at hvol hpl hpol
 rw[hKN,←hMM] at hKM
 have hex:EX≤2:=by have:=hok.ext;omega
 have hno:=hok.volN
 have hnp:=hok.polN
 have HIV:=zh (show I64 (v:Int)∧I64 (s:Int) by unfold I64;omega)
 rw[hEX]
 obtain⟨NO,hNO⟩:=zx F.vols.length
 obtain⟨NP,hNP⟩:=zx F.pols.length
 rw[←hNO] at hno hv ⊢
 rw[←hNP] at hnp hpl ⊢
 obtain⟨W0,hW0⟩:=zx ((((w.alloc (.cells #[.int .i64 (EX:Int),vl,vm,vd,vv,.slice (some ⟨pb,pof,none⟩) NP cp,.slice (some ⟨ob,oof,none⟩) NO co] 35)).alloc (.cells #[vp0,vo0,va0] 40)).alloc (.cells #[.int .i64 (v:Int),.int .i64 (s:Int)] 67)).alloc (.cells #[.int .i64 0,.int .i64 0,.bool false,.int .i64 0,.slice none 0 0] 27))
 obtain⟨z,hz⟩:=zx w.heap.size
 obtain⟨y,hy⟩:=zx (w.heap.size+1)
 obtain⟨gk,hgk⟩:=zx (w.heap.size+1+1)
 obtain⟨gr,hgr⟩:=zx (w.heap.size+1+1+1)
 have hb0:Below w.heap.size w W0:=by rw[hW0];exact((((Below.refl _ _).alloc (Nat.le_refl _) _).alloc (by simp) _).alloc (by simp;omega) _).alloc (by simp;omega) _
 have hrk:W0.heap[gr]?=some (.cells #[.int .i64 0,.int .i64 0,.bool false,.int .i64 0,.slice none 0 0] 27 (0,0)):=by
  rw[hW0];exact heap_alloc_at _ _ _ (by rw[hgr];simp)
 have hkk:W0.heap[gk]?=some (.cells #[.int .i64 (v:Int),.int .i64 (s:Int)] 67 (0,0)):=by
  rw[hW0];exact(Below.heap_alloc _ _ _ (by rw[hgk];simp only[sz_al];omega)).trans (heap_alloc_at _ _ _ (by rw[hgk];simp))
 have hyk:W0.heap[y]?=some (.cells #[vp0,vo0,va0] 40 (0,0)):=by
  rw[hW0];exact(Below.heap_alloc _ _ _ (by rw[hy];simp only[sz_al];omega)).trans ((Below.heap_alloc _ _ _ (by rw[hy];simp only[sz_al];omega)).trans (heap_alloc_at _ _ _ (by rw[hy];simp)))
 have hzk:W0.heap[z]?=some (.cells #[.int .i64 (EX:Int),vl,vm,vd,vv,.slice (some ⟨pb,pof,none⟩) NP cp,.slice (some ⟨ob,oof,none⟩) NO co] 35 (0,0)):=by
  rw[hW0,hz];exact(Below.heap_alloc _ _ _ (by simp only[sz_al];omega)).trans ((Below.heap_alloc _ _ _ (by simp only[sz_al];omega)).trans ((Below.heap_alloc _ _ _ (by simp only[sz_al];omega)).trans (heap_alloc_new w _)))
 have hyl:y<W0.heap.size:=(Array.getElem?_eq_some_iff.1 hyk).1
 have hzl:z<W0.heap.size:=(Array.getElem?_eq_some_iff.1 hzk).1
 have hkl:gk<W0.heap.size:=(Array.getElem?_eq_some_iff.1 hkk).1
 have hrl:gr<W0.heap.size:=(Array.getElem?_eq_some_iff.1 hrk).1
 have HC:=zh (fun(w':World) (hb:Below W0.heap.size W0 w')=>And.intro (cells7 ((hb.block z hzl).trans hzk)) (cells3 ((hb.block y hyl).trans hyk)))
 have HKC:=zh (fun(w':World) (hb:Below W0.heap.size W0 w')=>(show w'.cell? ⟨gk,0,none⟩=some (.int .i64 (v:Int))∧w'.cell? ⟨gk,1,none⟩=some (.int .i64 (s:Int)) from by
  have h1:=(hb.block gk hkl).trans hkk
  exact⟨by rw[cell_of_row _ _ _ _ _ _ h1];rfl,by rw[cell_of_row _ _ _ _ _ _ h1];rfl⟩))
 have HRC:=zh (fun(w':World) (hb:Below W0.heap.size W0 w')=>(hb.block gr hrl).trans hrk)
 have HRE:=zh (fun(w':World) (hb:Below W0.heap.size W0 w')=>hb0.trans (hb.mono hb0.size))
 have HMG:=zh (fun(w':World) (hb:Below W0.heap.size W0 w')=>hM.below (hb0.trans (hb.mono hb0.size)) hM.lt)
 have HGE:=zh (show w.heap.size≤gr∧w.heap.size≤W0.heap.size from⟨by omega,hb0.size⟩)
 have HW0:=zh hW0
 have HZ:=zh (And.intro hz (And.intro hy (And.intro hgk hgr)))
 have HB0:=zh hb0
 have HVOL:=zh (fun(w':World) (hb:Below W0.heap.size W0 w')=>(show w'.cell? ⟨ob,oof+v * 2+1,none⟩=some (.int .i64 (p0:Int)) from range_same hvol ((hb0.trans (hb.mono hb0.size)).block ob hRo) 1 _ rfl))
 have HPOL:=zh (fun(w':World) (hb:Below W0.heap.size W0 w')=>(show w'.rangeAt pb (pof+p0 * 17) [a0,.int .i64 (KN:Int),.int .i64 MM,.int .i64 QQ,a4,a5,a6,a7,a8,a9,a10,a11,a12,a13,a14,a15,a16] from range_same hpol ((hb0.trans (hb.mono hb0.size)).block pb hRp)))
 have HON:=zh hone
 have HTH:=zh (show((W0.alloc (.cells #[.string ⟨#[]⟩,.int .i64 0,.int .i64 0,.int .i64 0,.int .i64 0,.int .i64 0,.int .i64 0,.int .i64 0,.int .i64 0,.slice none 0 0,.slice none 0 0,.bool false,.slice none 0 0,.slice none 0 0,.bool false,.slice none 0 0,.slice none 0 0] 85)).drew).there W0.heap.size 0 17 from there_of_block (w:=(W0.alloc (.cells #[.string ⟨#[]⟩,.int .i64 0,.int .i64 0,.int .i64 0,.int .i64 0,.int .i64 0,.int .i64 0,.int .i64 0,.int .i64 0,.slice none 0 0,.slice none 0 0,.bool false,.slice none 0 0,.slice none 0 0,.bool false,.slice none 0 0,.slice none 0 0] 85)).drew) (cs:=#[.string ⟨#[]⟩,.int .i64 0,.int .i64 0,.int .i64 0,.int .i64 0,.int .i64 0,.int .i64 0,.int .i64 0,.int .i64 0,.slice none 0 0,.slice none 0 0,.bool false,.slice none 0 0,.slice none 0 0,.bool false,.slice none 0 0,.slice none 0 0]) (heap_alloc_new W0 _) (Nat.le_refl 17))
 have HSK:=zh (fun(w':World) (hb:Below W0.heap.size W0 w')=>(show w'.cell? ⟨z,5,none⟩=some (.slice (some ⟨pb,pof,none⟩) NP cp)∧w'.cell? ⟨z,6,none⟩=some (.slice (some ⟨ob,oof,none⟩) NO co)∧w'.cell? ⟨gk,0,none⟩=some (.int .i64 (v:Int))∧w'.cell? ⟨ob,oof+v * 2+1,none⟩=some (.int .i64 (p0:Int))∧w'.rangeAt pb (pof+p0 * 17) [a0,.int .i64 (KN:Int),.int .i64 MM,.int .i64 QQ,a4,a5,a6,a7,a8,a9,a10,a11,a12,a13,a14,a15,a16] from by
  obtain⟨⟨-,-,-,-,-,x5,x6⟩,-⟩:=HC.out w' hb
  exact⟨x5,x6,(HKC.out w' hb).1,HVOL.out w' hb,HPOL.out w' hb⟩))
 have i1:(v:Int)<(NO:Int):=by omega
 have i2:(p0:Int)<(NP:Int):=by omega
 have i3:(KN:Int)≤2:=by omega
 have i4:(1:Int)≤(KN:Int):=by omega
 have i5:(KM:Int)≤4:=by omega
 have hkw:IntKind.i64.wrap ((KN:Int)+MM)=(KM:Int):=by rw[hKM];exact IntWalk.i64_in _ (by omega)
 have hkm:(KN:Int)+MM=(KM:Int):=hKM
 have HKM4:=zh (show KM≤4 from hkm4.2)
 clear hf hok h hPA hRp hRo hvol hpol hone hW0 hz hy hgk hgr hb0 hyk hzk hkk hrk hyl hzl hkl hrl hNO hNP hEX hKN hMM hQ hpp hpl hKM hgl hkm4 hl hac hN hp hM
 go_enter Tryz.func78,Tryz.ntmps78
 go_upto_region 1 with fail
 rw[←HW0.out,←HZ.out.2.2.2,←HZ.out.2.2.1,←HZ.out.2.1,←HZ.out.1]
 refine region_tail (S:=(fun w'=>w'.cell? ⟨z,5,none⟩=some (.slice (some ⟨pb,pof,none⟩) NP cp)∧w'.cell? ⟨z,6,none⟩=some (.slice (some ⟨ob,oof,none⟩) NO co)∧w'.cell? ⟨gk,0,none⟩=some (.int .i64 (v:Int))∧w'.cell? ⟨ob,oof+v * 2+1,none⟩=some (.int .i64 (p0:Int))∧w'.rangeAt pb (pof+p0 * 17) [a0,.int .i64 (KN:Int),.int .i64 MM,.int .i64 QQ,a4,a5,a6,a7,a8,a9,a10,a11,a12,a13,a14,a15,a16])) [12] (by kernel_rfl) (HSK.out _ (Below.refl _ _).drew) (fun hHeld=>?_)
 refine tk 0 20 ?_
 refine tk 1 21 ?_
 refine tk 2 22 ?_
 refine tk 3 23 ?_
 refine tk 4 24 ?_
 refine tk 5 25 ?_
 refine tk 6 26 ?_
 refine tk 7 27 ?_
 refine tk 8 28 ?_
 refine tk 9 29 ?_
 refine takeT (i:=10) (d:=30) (v:=(.agg #[a0,.int .i64 (KN:Int),.int .i64 MM,.int .i64 QQ,a4,a5,a6,a7,a8,a9,a10,a11,a12,a13,a14,a15,a16])) rfl rfl (by kernel_rfl) (by kernel_rfl) (by kernel_rfl) (by kernel_rfl) (fun _ _ _ h=>h) (yieldsIf_load_mid (by rfl) 85 (.tmp 29) rfl pb (pof+p0 * 17) (by rfl) [a0,.int .i64 (KN:Int),.int .i64 MM,.int .i64 QQ,a4,a5,a6,a7,a8,a9,a10,a11,a12,a13,a14,a15,a16] _ (fun w hw=>hw.2.2.2.2) Tryz.underlying85 rfl size_pol) (by assumption) ?_
 (try simp only[Act.put,z1,z2,z3])
 refine readyT (rs:=[11]) (by kernel_rfl) (by simp) ?_
 refine AllReadyT.cons rfl (fun K hK=>?_) ?_
 ·go_simp
  refine hK.out _ _ ?_ (fun hHeld=>?_)
  ·exact HSK.out _ ((Below.refl _ _).drew.alloc (Nat.le_refl _) _)
  clear hK K
  (try simp only[Act.put,z1,z2,z3])
  refine readyT (rs:=[12]) (by kernel_rfl) (by simp) ?_
  refine AllReadyT.consT rfl rfl (fun K hK=>?_) ?_
  ·rw[if_pos (by rfl)]
   refine wp_store_mid 85 (.tmp 11) (.tmp 30) rfl W0.heap.size 0 #[a0,.int .i64 (KN:Int),.int .i64 MM,.int .i64 QQ,a4,a5,a6,a7,a8,a9,a10,a11,a12,a13,a14,a15,a16] (by rfl) (by rfl) HTH.out size_pol HON.out ?_
   refine hK.out _ _ ?_
   clear hK K
   (try simp only[Act.put,z1,z2,z3])
   refine doneT (by kernel_rfl) ?_ _
   clear hHeld
   obtain⟨W8,hW8⟩:=zx (World.setCells ((W0.alloc (.cells #[.string ⟨#[]⟩,.int .i64 0,.int .i64 0,.int .i64 0,.int .i64 0,.int .i64 0,.int .i64 0,.int .i64 0,.int .i64 0,.slice none 0 0,.slice none 0 0,.bool false,.slice none 0 0,.slice none 0 0,.bool false,.slice none 0 0,.slice none 0 0] 85)).drew) W0.heap.size 0 [a0,.int .i64 (KN:Int),.int .i64 MM,.int .i64 QQ,a4,a5,a6,a7,a8,a9,a10,a11,a12,a13,a14,a15,a16])
   obtain⟨gp,hgp⟩:=zx W0.heap.size
   have hb8:Below W0.heap.size W0 W8:=by rw[hW8];exact below_setCellsV (Nat.le_refl _) _ _ _ ((Below.refl _ _).alloc (Nat.le_refl _) _).drew
   have hgrn:W8.rangeAt gp 0 [a0,.int .i64 (KN:Int),.int .i64 MM,.int .i64 QQ,a4,a5,a6,a7,a8,a9,a10,a11,a12,a13,a14,a15,a16]:=by rw[hW8,hgp];exact World.rangeAt_setCells_same _ _ _ _ HTH.out
   have HGP:=zh (fun(w':World) (hb:Below W8.heap.size W8 w')=>(show w'.cell? ⟨gp,1,none⟩=some (.int .i64 (KN:Int))∧w'.cell? ⟨gp,2,none⟩=some (.int .i64 MM) from
    have hl:=World.block_lt_of_cell? W8 _ (hgrn 0 _ rfl)
    ⟨range_same hgrn (hb.block gp hl) 1 _ rfl,range_same hgrn (hb.block gp hl) 2 _ rfl⟩))
   have HB8:=zh hb8
   have HW8:=zh hW8
   have HGG:=zh hgp
   obtain⟨W9,hW9⟩:=zx (W8.alloc (.cells #[.int .i64 (v:Int),.int .i64 (s:Int),.bool lost,.int .i64 (KN:Int),.slice none 0 0] 27))
   obtain⟨g,hg⟩:=zx W8.heap.size
   have HT0:=zh (show IncT W8 g (.int .i64 (v:Int)) (.int .i64 (s:Int)) (.bool lost) (.int .i64 (KN:Int)) W9 (.slice none 0 0) [] from by rw[hW9];exact IncT.start hg)
   have HW9:=zh hW9
   have HG9:=zh hg
   clear hW8 hgp hb8 hgrn HTH HSK hW9 hg
   rw[←HW8.out,←HGG.out]
   obtain⟨p1,p2⟩:=HGP.out W8 (Below.refl _ _)
   obtain⟨k0,k1⟩:=HKC.out W8 HB8.out
   go_upto_region 3 with fail
   rw[←HW9.out,←HG9.out]
   clear p1 p2 k0 k1
   obtain⟨p1,p2⟩:=HGP.out W9 HT0.out.hot
   go_wp2_with fail
   clear p1 p2
   go_loopg [44] KM (fun z v44 wr=>∃(i:Nat) (cv:Value),v44=.int .i64 (i:Int)∧i≤KM∧z=KM - i∧Hid (IncT W8 g (.int .i64 (v:Int)) (.int .i64 (s:Int)) (.bool lost) (.int .i64 (KN:Int)) wr cv (causL r (v:Int) (s:Int) i)))
   case atStart=>exact⟨0,_,rfl,Nat.zero_le _,rfl,HT0⟩
   case round =>
    clear HT0
    obtain⟨i,cv,rfl,hi,rfl,HT⟩:=hrel
    by_cases hlt:i<KM
    ·obtain⟨wo,rfl⟩:=zx (wr:World)
     have HLT:=zh hlt
     have HB1:=zh (HB8.out.trans (HT.out.hot.mono HB8.out.size))
     have HNT:=zh (fun(cv':Value) (w':World) (ht:IncT W8 g (.int .i64 (v:Int)) (.int .i64 (s:Int)) (.bool lost) (.int .i64 (KN:Int)) w' cv' (causL r (v:Int) (s:Int) i++[causeOf r (v:Int) (i:Int) (s:Int)]))=>(show IncT W8 g (.int .i64 (v:Int)) (.int .i64 (s:Int)) (.bool lost) (.int .i64 (KN:Int)) w' cv' (causL r (v:Int) (s:Int) (i+1)) from by rw[causL_succ];exact ht))
     have hgi:=fun w' (hb:Below w.heap.size w w')=>HGD.out i w' hb
     obtain⟨G,hG⟩:=zx (goodI r (v:Int) (i:Int) (s:Int))
     obtain⟨o,ho⟩:=zx (oldD r (v:Int) (i:Int) (s:Int))
     obtain⟨CX,hCX⟩:=zx (causeOf r (v:Int) (i:Int) (s:Int))
     rw[←hG] at hgi
     rw[←hCX] at HNT
     have HCX:=zh (show causeG r G o=CX by rw[hG,ho,hCX,causeG_eq])
     have HGI:=zh hgi
     have HGN:=zh hG
     have HOO:=zh ho
     obtain⟨LG,hLG⟩:=zx G.length
     have hgn:LG≤1000000:=by rw[hLG,hG];exact HGL.out i
     have HLG:=zh hLG
     have HKV:=zh (show(.agg #[.int .i64 (v:Int),.int .i64 (i:Int),.int .i64 (s:Int)]:Value)=k3 ⟨(v:Int),(i:Int),(s:Int)⟩ from rfl)
     have HOKX:=zh (show Ky3.ok ⟨(v:Int),(i:Int),(s:Int)⟩ from⟨HIV.out.1,(show I64 (i:Int) from⟨by omega,by omega⟩),HIV.out.2⟩)
     obtain⟨D0,hD0⟩:=zx (o.getD 0)
     obtain⟨okb,hokb⟩:=zx o.isSome
     have HU:=zh (show(fun k:Ky3=>(oldD r k.v k.f k.s).map dV) ⟨(v:Int),(i:Int),(s:Int)⟩=o.map dV by rw[ho])
     have HDX:=zh (show(o.map dV).getD (.int .i64 0)=.int .i64 (D0:Int) by rw[hD0];cases o <;> rfl)
     have HOB:=zh (show(o.map dV).isSome=okb by rw[hokb];cases o <;> rfl)
     have HC1:=zh (show causeG r [] o=(if okb=true then⟨3,(D0:Int)⟩ else⟨4,-1⟩) by rw[hD0,hokb,causeG_nil];cases o <;> rfl)
     obtain⟨W10,hW10⟩:=zx (wo.alloc (.cells #[.int .i64 4,.int .i64 (-1)] 102))
     obtain⟨gc,hgc⟩:=zx wo.heap.size
     have HCB:=zh (show CauB wo W10 gc ⟨4,-1⟩ from⟨by rw[hW10,hgc];exact heap_alloc_new wo _,by omega,by rw[hW10];exact(Below.refl _ _).alloc (Nat.le_refl _) _⟩)
     have HB10:=zh (HB1.out.trans (HCB.out.2.2.mono HB1.out.size))
     have HM10:=zh (HMG.out W10 HB10.out)
     have HW10:=zh hW10
     have HGC:=zh hgc
     obtain⟨k0,k1⟩:=HKC.out W10 HB10.out
     clear hG ho hCX hgi hLG hD0 hokb hW10 hgc hlt
     go_upto_region 7 with fail
     rw[←HW10.out,←HGC.out]
     go_upto_if 59 with (refine kg_look_ok rfl (.tmp 49) (.tmp 55) 158 210 3 rfl key3 Tryz.underlying158 gm n _ _ (.int .i64 0) (by rfl) HKV.out HM10.out (zero_int8 _) HOKX.out (o.map dV) HU.out ?_;rw[HDX.out,HOB.out])
     clear k0 k1
     obtain⟨C1,hC1⟩:∃c:Cau,c=(if okb=true then⟨3,(D0:Int)⟩ else⟨4,-1⟩):=⟨_,rfl⟩
     have HC1E:=zh hC1
     have HC1F:=zh (show causeG r [] o=C1 by rw[HC1.out,hC1])
     clear hC1
     go_cut [] from 60 to 61 (fun wc=>Hid (CauB wo wc gc C1))
     case first =>
      cases okb with
      | true =>
       have HTH:=zh (cau_there HCB.out.1)
       go_wp2_with (refine wpList_store_mid rfl 102 (.tmp 14) (.tmp 61) rfl gc 0 #[.int .i64 3,.int .i64 (D0:Int)] (by rfl) (by rfl) HTH.out size_cau (one2 _ _) ?_)
       go_meet
       exact zh (by rw[HC1E.out];exact HCB.out.set ⟨3,(D0:Int)⟩)
      | false =>
       go_wp2_with fail
       go_meet
       exact zh (by rw[HC1E.out];exact HCB.out)
     case rest =>
      have HCC:=hcut
      clear hcut HCB HB10 HM10 HU HDX HOB HC1 HC1E HKV HOKX
      have HB2:=zh (HB1.out.trans (HCC.out.2.2.mono HB1.out.size))
      obtain⟨k0,k1⟩:=HKC.out wc HB2.out
      obtain⟨-,y0,y1,y2,-⟩:=HC.out wc HB2.out
      go_upto_if 71 with (go_at_call 61;refine(HGI.out _ (HRE.out _ HB2.out)).mono ?_;rintro e w2 ⟨u,rfl,hou,hb2⟩;obtain⟨Au,cu,hu⟩:=hou.form;rw[←HLG.out] at hu;subst hu;have HOU:=zh (hou.intS (fun x hx=>(by rw[HGN.out] at hx;obtain⟨d,rfl,hd⟩:=good_nat r _ _ _ x hx;have:=HPN.out;unfold I64;omega)));have HBG:=zh hb2;clear hou hb2)
      clear k0 k1 y0 y1 y2
      have HC2:=zh (HCC.out.below HBG.out)
      have HGL3:=zh HCC.out.lt
      go_cut [19] from 71 to 87 (fun v19 wd=>Hid (CauB wo wd gc CX))
      case first =>
       by_cases hg0:0<LG
       ·have hgI:(0:Int)<(LG:Int):=by omega
        have HG0:=zh (show 0<G.length by rw[←HLG.out];exact hg0)
        obtain⟨b,off,hA,hR,hc,-⟩:=HOU.out.at7 (k:=0) HG0.out
        subst hA
        have HRB:=zh hR
        obtain⟨x0,hx0⟩:=zx (G[0]'HG0.out)
        rw[←hx0] at hc
        simp only[Nat.add_zero] at hc
        have HX0:=zh hx0
        have HTH:=zh (cau_there HC2.out.1)
        clear hx0 hR
        have hbg:some b∉[some gc]:=by simp;have:=HGL3.out;have:=HRB.out.1;omega
        have HBG3:=zh hbg
        clear hbg
        go_upto_region 13 with (refine wpList_store_mid rfl 102 (.tmp 14) (.tmp 75) rfl gc 0 #[.int .i64 2,.int .i64 x0] (by rfl) (by rfl) HTH.out size_cau (one2 _ _) ?_)
        obtain⟨W3,hW3⟩:=zx (w2.setCells gc 0 [.int .i64 2,.int .i64 x0]:World)
        have hh:HotBy [some gc] w2 W3:=by rw[hW3];exact(HotBy.setCell [some gc] w2 ⟨gc,0,none⟩ (.int .i64 2) (by simp)).trans (HotBy.setCell [some gc] _ ⟨gc,1,none⟩ (.int .i64 x0) (by simp))
        have HC3:=zh (show CauB wo W3 gc ⟨2,x0⟩ by rw[hW3];exact HC2.out.set ⟨2,x0⟩)
        have HCL:=zh (fun(k:Nat) (hk:k<G.length) (w':World) (hb:Below W3.heap.size W3 w')=>(show w'.cell? ⟨b,off+k,none⟩=some (.int .i64 G[k]) from by
         obtain⟨b',off',hA',hR',hc',-⟩:=HOU.out.at7 (k:=k) hk
         injection hA' with hA'
         injection hA' with hb1 ho1
         subst hb1;subst ho1
         exact(hb.cell (p:=⟨b,off+k,none⟩) (Nat.lt_of_lt_of_le hR'.2 hh.size)).trans ((World.cell?_of_block (w:=w2) (hh.block b hR'.2 HBG3.out)).trans hc')))
        have HW3:=zh hW3
        clear hW3 hh hc
        (try simp only[Array.toList_toArray])
        rw[←HW3.out]
        go_wp2_with fail
        go_loopg [19,78] LG (fun z v19 v78 wr=>∃j:Nat,v78=.int .i64 (j:Int)∧j≤LG∧z=LG - j∧Hid (∀k (hk:k<G.length),k<j→onB r G[k].toNat=false)∧Hid (CauB wo wr gc ⟨2,x0⟩)∧Hid (Below W3.heap.size W3 wr))
        case atStart=>exact⟨0,rfl,Nat.zero_le _,rfl,zh (fun k hk h=>by omega),HC3,zh (Below.refl _ _)⟩
        case round =>
         obtain⟨j,rfl,hj,rfl,HNO,HCI,HBI⟩:=hrel
         by_cases hlj:j<LG
         ·have hjg:j<G.length:=by rw[←HLG.out];exact hlj
          obtain⟨d,hd,hdl⟩:=good_nat r (v:Int) (i:Int) (s:Int) G[j] (by rw[←HGN.out];exact List.getElem_mem hjg)
          have e0:=HCL.out j hjg wr HBI.out
          rw[hd] at e0
          have HR1:=zh (HB1.out.trans (HCI.out.2.2.mono HB1.out.size))
          obtain⟨-,y0,y1,y2,-⟩:=HC.out wr HR1.out
          have hio:=HONL.out d (by have:=HPN.out;omega) wr (HRE.out wr HR1.out)
          obtain⟨onb,honb⟩:=zx (onB r d)
          rw[←honb] at hio
          have HIO:=zh hio
          have HHIT:=zh (show onb=true→CX=⟨1,(d:Int)⟩ from fun e=>by
           rw[←HCX.out,causeG_hit hjg HNO.out (by rw[hd,Int.toNat_natCast,←honb];exact e),hd])
          have HNX:=zh (show onb=false→∀k (hk:k<G.length),k<j+1→onB r G[k].toNat=false from fun e k hk h=>by
           by_cases e2:k=j
           ·subst e2;rw[hd,Int.toNat_natCast,←honb];exact e
           ·exact HNO.out k hk (by omega))
          have hdn:(d:Int)≤24:=by have:=HPN.out;omega
          clear hjg hd hdl hio honb
          cases onb with
          | true =>
           go_upto_region 17 with (go_at_call 62;refine HIO.out.mono ?_;rintro e w4 ⟨rfl,hb4⟩;have HB4:=zh hb4;clear hb4)
           have HC4:=zh (HCI.out.below HB4.out)
           have HTH4:=zh (cau_there HC4.out.1)
           clear e0 y0 y1 y2
           go_wp2_with (refine wpList_store_mid rfl 102 (.tmp 14) (.tmp 86) rfl gc 0 #[.int .i64 1,.int .i64 (d:Int)] (by rfl) (by rfl) HTH4.out size_cau (one2 _ _) ?_)
           go_meet
           exact zh (by rw[HHIT.out (by simp)];exact HC4.out.set ⟨1,(d:Int)⟩)
          | false =>
           go_wp2_with (go_at_call 62;refine HIO.out.mono ?_;rintro e w4 ⟨rfl,hb4⟩;have HB4:=zh hb4;clear hb4)
           go_roundg (LG - (j+1))
           case measure=>omega
           case rel=>exact⟨j+1,by go_num,by omega,rfl,zh (HNX.out (by simp)),zh (HCI.out.below HB4.out),zh (HBI.out.trans (HB4.out.mono HBI.out.size))⟩
         ·have HE:=zh (show(⟨2,x0⟩:Cau)=CX by rw[←HCX.out,causeG_miss HG0.out (fun k hk=>HNO.out k hk (by have:=HLG.out;omega)),HX0.out])
          go_wp2_with fail
          go_meet
          exact zh (by rw[←HE.out];exact HCI.out)
       ·have HE:=zh (show C1=CX by rw[←HCX.out,←HC1F.out,List.eq_nil_of_length_eq_zero (show G.length=0 by have:=HLG.out;omega)])
        obtain rfl:LG=0:=by omega
        go_wp2_with fail
        go_meet
        exact zh (by rw[←HE.out];exact HC2.out)
      case rest =>
       have HCD:=hcut
       clear hcut HC2 HCC HOU HBG HB2
       have HT2:=zh (HT.out.below HCD.out.2.2)
       obtain⟨m0,m1,m2⟩:=HT2.out.cells
       have hr:=HCD.out.row
       have q0:=hr 0 _ rfl
       have q1:=hr 1 _ rfl
       simp only[Nat.add_zero,Nat.zero_add] at q0 q1
       obtain⟨Av,cvv,hvf⟩:=HT2.out.own.form
       rw[causL_len] at hvf
       subst hvf
       have HLN:=zh (causL_len r (v:Int) (s:Int) i)
       clear hr
       go_wp2_with (at_builtin;refine app_cau CX (.tmp 89) (.tmp 91) rfl rfl W8.heap.size (.slice Av i cvv) i (causL r (v:Int) (s:Int) i) HLN.out (by rfl) (by have:=HT2.out.own;unfold OwnCau at this;rw[HLN.out] at this;exact this) (by rfl) (by have:=HLT.out;have:=HKM4.out;omega) HT2.out.hot.size ?_;intro v5 w5 hown5 hg5 hat5;obtain⟨A5,c5,hv5⟩:=hown5.form;rw[List.length_append,HLN.out] at hv5;subst hv5;obtain⟨hB5,hX5⟩:=HT2.out.grown hg5;have n1:w5.cell? ⟨g,4,none⟩=some (.slice Av i cvv):=(by rw[cell_of_row _ _ _ _ _ _ hX5];rfl);have nf:w5.frozen? ⟨g,4,none⟩=false:=frozen_of_row _ _ _ _ _ hX5;have HN:=zh (HNT.out _ _ (HT2.out.push hg5 hown5));clear hB5 hX5 hown5 hg5 hat5)
       go_roundg (KM - (i+1))
       case measure=>have:=HLT.out;omega
       case rel=>exact⟨i+1,_,by go_num,by have:=HLT.out;omega,rfl,HN⟩
    ·obtain rfl:KM=i:=by omega
     have HB1:=zh (HB8.out.trans (HT.out.hot.mono HB8.out.size))
     have HRG:=zh HT.out.all
     have hrb:=HRC.out wr HB1.out
     have HTR:=zh (show wr.there gr 0 5 from there_of_block (w:=wr) (cs:=#[.int .i64 0,.int .i64 0,.bool false,.int .i64 0,.slice none 0 0]) hrb (Nat.le_refl 5))
     have HSL:=zh HT.out.own.slS
     have HOC:=zh (show(#[.int .i64 (v:Int),.int .i64 (s:Int),.bool lost,.int .i64 (KN:Int),cv]:Array Value).all (·.oneCell')=true from by simp[Value.oneCell',one_sls HSL.out];exact one_sls HSL.out)
     clear hrb
     go_wp2_with (first | (refine wpList_load_mid rfl 27 (.tmp 12) rfl g 0 (by rfl) [.int .i64 (v:Int),.int .i64 (s:Int),.bool lost,.int .i64 (KN:Int),cv] _ HRG.out Tryz.underlying27 rfl size_inc ?_) | (refine wpList_store_mid rfl 27 (.tmp 10) (.tmp 95) rfl gr 0 #[.int .i64 (v:Int),.int .i64 (s:Int),.bool lost,.int .i64 (KN:Int),cv] (by rfl) (by rfl) HTR.out size_inc HOC.out ?_))
     have hld:=run_loadVar_mid (P:=Tryz.prog) _ gr 0 27 _ _ (World.rangeAt_setCells_same wr gr 0 [.int .i64 (v:Int),.int .i64 (s:Int),.bool lost,.int .i64 (KN:Int),cv] HTR.out) Tryz.underlying27 rfl size_inc
     (try simp only[Exit.inBlock,Exit.then])
     refine bodyPost_ret (v:=.agg #[.int .i64 (v:Int),.int .i64 (s:Int),.bool lost,.int .i64 (KN:Int),cv]) ?_ rfl ?_
     ·exact results_cell _ 27 10 _ _ _ ⟨gr,0,none⟩ Tryz.results78 (by rfl) hld
     ·have hbw:=below_setCellsV HGE.out.1 [.int .i64 (v:Int),.int .i64 (s:Int),.bool lost,.int .i64 (KN:Int),cv] 0 wr (HB0.out.trans (HB1.out.mono HB0.out.size))
      have hh:=hot_setCells wr gr [.int .i64 (v:Int),.int .i64 (s:Int),.bool lost,.int .i64 (KN:Int),cv] 0
      have hg0:gr<W0.heap.size:=(Array.getElem?_eq_some_iff.1 (HRC.out W0 (Below.refl _ _))).1
      have hs8:=HB8.out.size
      have hge:=HGE.out
      exact⟨cv,rfl,SlS.mono cauK (SlS.keep cauK HSL.out (fun b hb=>hh.block b hb.2 (by have:=hb.1;simp;omega))) (fun b hb=>⟨by have:=hb.1;omega,Nat.lt_of_lt_of_le hb.2 hh.size⟩),hbw⟩
  exact AllReadyT.nil
 exact AllReadyT.nil
end Go.Proofs.YtcfkllnpkmebpaaGreatDoor
