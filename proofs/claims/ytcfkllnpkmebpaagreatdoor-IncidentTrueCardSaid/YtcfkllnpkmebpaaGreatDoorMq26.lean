/- Builder.WriteString; words, the program's line; the reference's digits, walked. -/
import Derived.Lib.AppendStr
import Derived.BigQuiet
import Derived.Deep.QuietTactic
import Derived.Test.YtcfkllnpkmebpaaGreatDoorMq14
import Derived.Test.YtcfkllnpkmebpaaGreatDoorMq21
import Derived.Test.YtcfkllnpkmebpaaGreatDoorMq23
import Derived.Test.YtcfkllnpkmebpaaGreatDoorMq01
import Derived.Test.YtcfkllnpkmebpaaGreatDoorMq25
import Derived.Lib.BufferWrite
import Derived.Test.YtcfkllnpkmebpaaGreatDoorMq22
import Derived.Test.YtcfkllnpkmebpaaGreatDoorMq08
import Derived.Test.YtcfkllnpkmebpaaGreatDoorMq20
import Derived.Test.YtcfkllnpkmebpaaGreatDoorMq04
set_option linter.unusedSectionVars false
set_option maxRecDepth 100000
set_option maxHeartbeats 12800000
namespace Go.Proofs.YtcfkllnpkmebpaaGreatDoor
open Go.RowKit Go.Shelf
set_option linter.unusedVariables false
set_option linter.unusedSimpArgs false
end Go.Proofs.YtcfkllnpkmebpaaGreatDoor

namespace Go.Proofs.YtcfkllnpkmebpaaGreatDoor
open Go.RowKit Go.Shelf
set_option linter.unusedVariables false
set_option linter.unusedSimpArgs false
end Go.Proofs.YtcfkllnpkmebpaaGreatDoor

namespace Go.Proofs.YtcfkllnpkmebpaaGreatDoor
open Go.RowKit Go.Shelf
set_option linter.unusedVariables false
set_option linter.unusedSimpArgs false
end Go.Proofs.YtcfkllnpkmebpaaGreatDoor

namespace Go.Proofs.YtcfkllnpkmebpaaGreatDoor
open Go.RowKit Go.Shelf
set_option linter.unusedVariables false
set_option linter.unusedSimpArgs false
end Go.Proofs.YtcfkllnpkmebpaaGreatDoor

namespace Go.Proofs.YtcfkllnpkmebpaaGreatDoor
open Go.RowKit Go.Shelf
set_option linter.unusedVariables false
set_option linter.unusedSimpArgs false
end Go.Proofs.YtcfkllnpkmebpaaGreatDoor

namespace Go.Proofs.YtcfkllnpkmebpaaGreatDoor
open Go.RowKit
set_option linter.unusedVariables false
set_option linter.unusedSimpArgs false
theorem cause_cases(r:Re) (v s:Int) (i:Nat):(upF r v s [] i=true∧anyF r v s i=true∧(causeOf r v (i:Int) s).state=1)∨(upF r v s [] i=false∧anyF r v s i=true∧(causeOf r v (i:Int) s).state=2)∨(upF r v s [] i=false∧anyF r v s i=false∧((causeOf r v (i:Int) s).state=3∨(causeOf r v (i:Int) s).state=4)):=by
 unfold causeOf
 cases h1:(pieces r).find? (srcB r v (i:Int) s true) with
 | some x =>
  left
  have hx:=List.mem_of_find?_eq_some h1;have hb:=List.find?_some h1;unfold srcB at hb;rw[Bool.and_eq_true] at hb;simp only[Bool.not_true,Bool.false_or] at hb;exact⟨upF_iff.2 ⟨x,hx,hb.1,.inl hb.2⟩,anyF_iff.2 ⟨x,hx,hb.1⟩,rfl⟩
 | none =>
  right
  rw[List.find?_eq_none] at h1
  have hu:upF r v s [] i=false:=by
   rw[Bool.eq_false_iff];intro h;obtain⟨x,hx,hb,ho⟩:=upF_iff.1 h;refine h1 x hx ?_;unfold srcB;rcases ho with ho | ho
   ·rw[hb,ho];rfl
   ·cases ho
  cases h2:(pieces r).find? (srcB r v (i:Int) s false) with
  | some x =>
   left
   have hx:=List.mem_of_find?_eq_some h2;have hb:=List.find?_some h2;unfold srcB at hb;rw[Bool.and_eq_true] at hb;exact⟨hu,anyF_iff.2 ⟨x,hx,hb.1⟩,rfl⟩
  | none =>
   right
   rw[List.find?_eq_none] at h2;refine⟨hu,?_,?_⟩
   ·rw[Bool.eq_false_iff];intro h;obtain⟨x,hx,hb⟩:=anyF_iff.1 h;refine h2 x hx ?_;unfold srcB;rw[hb];rfl
   ·dsimp only
    cases oldD r v (i:Int) s with
    | some d=>exact .inl rfl
    | none=>exact .inr rfl
def causR(r:Re) (v s:Int) (n:Nat):List Cau:=(List.range n).map fun i:Nat=>causeOf r v (i:Int) s
theorem causR_succ(r:Re) (v s:Int) (n:Nat):causR r v s (n+1)=causR r v s n++[causeOf r v (n:Int) s]:=by
 unfold causR;rw[List.range_succ,List.map_append]
 rfl
theorem causR_sum(r:Re) (v s:Int):∀n:Nat,sumG (causR r v s n)=(cntS r v s n []:Int)∧sumG (causR r v s n)+sumA (causR r v s n)=(((List.range n).filter (anyF r v s)).length:Int)
 | 0=>⟨rfl,rfl⟩
 | n+1=>by
  obtain⟨h1,h2⟩:=causR_sum r v s n
  have e1:cntS r v s (n+1) []=cntS r v s n []+(if upF r v s [] n=true then 1 else 0):=by
   unfold cntS;rw[List.range_succ,List.filter_append,List.length_append]
   congr 1
   by_cases h:upF r v s [] n=true <;> simp[h]
  have e2:((List.range (n+1)).filter (anyF r v s)).length=((List.range n).filter (anyF r v s)).length+(if anyF r v s n=true then 1 else 0):=by
   rw[List.range_succ,List.filter_append,List.length_append]
   congr 1
   by_cases h:anyF r v s n=true <;> simp[h]
  rw[causR_succ,sumG_snoc,sumA_snoc,e1,e2];rcases cause_cases r v s n with ⟨a,b,c⟩ | ⟨a,b,c⟩ | ⟨a,b,c | c⟩ <;> rw[a,b,c] <;> simp[addG,addA] <;> omega
theorem cause_ok{r:Re} {ND:Nat} (hp:r.plat.length≤ND) (v f s:Int):cauOk ND (causeOf r v f s)=true:=by
 unfold causeOf
 cases h1:(pieces r).find? (srcB r v f s true) with
 | some x =>
  have:=pieces_lt r x (List.mem_of_find?_eq_some h1);unfold cauOk;simp;omega
 | none =>
  dsimp only
  cases h2:(pieces r).find? (srcB r v f s false) with
  | some x =>
   have:=pieces_lt r x (List.mem_of_find?_eq_some h2);unfold cauOk;simp;omega
  | none =>
   dsimp only
   cases h3:oldD r v f s with
   | some d =>
    unfold oldD at h3;have:=(List.findIdx?_eq_some_iff_getElem.1 h3).1;unfold cauOk;simp;omega
   | none=>rfl
theorem inc_mem{F:FltM} {r:Re} {x:Inc} (hx:x∈incL F r F.ext.toNat F.vols.length 0):∃v s lost,v<F.vols.length∧s<F.ext.toNat∧x=incOf F r lost (v,s)∧(if lost=true then lostP F r (v,s)=true else lostP F r (v,s)=false∧awayP F r (v,s)=true):=by
 unfold incL at hx;obtain⟨⟨v,s⟩,hk,h⟩:=List.mem_filterMap.1 hx;obtain⟨hv,hs⟩:=keysTo_mem hk;by_cases h1:lostP F r (v,s)=true
 ·rw[if_pos h1] at h;injection h with h;exact⟨v,s,true,hv,hs,h.symm,by rw[if_pos rfl];exact h1⟩
 ·rw[if_neg h1] at h;by_cases h2:awayP F r (v,s)=true
  ·rw[if_pos h2] at h;injection h with h;exact⟨v,s,false,hv,hs,h.symm,by rw[if_neg (by decide)];exact⟨by simpa using h1,h2⟩⟩
  ·rw[if_neg h2] at h;cases h
section
variable {N : Nat} {F : FltM} (hok : FleetOk N F) {r : Re}
include hok
theorem inc_one(hp:r.plat.length≤F.dves.length) {x:Inc} (hx:x∈incL F r F.ext.toNat F.vols.length 0):oneB F x=true∧x.causes.length≤4:=by
 obtain⟨v,s,lost,hv,hs,rfl,hc⟩:=inc_mem hx;obtain⟨k1,k2,k3,-,-⟩:=kmq_ok hok hv;obtain⟨n,hn⟩:∃n:Nat,kOf F v+mOf F v=(n:Int):=⟨(kOf F v+mOf F v).toNat,by omega⟩;have he:=hok.ext
 have hcl:(incOf F r lost (v,s)).causes=causR r (v:Int) (s:Int) n:=by
  unfold incOf causR;simp only;rw[hn,Int.toNat_natCast]
 have hlen:(causR r (v:Int) (s:Int) n).length=n:=by unfold causR;simp
 obtain⟨e1,e2⟩:=causR_sum r (v:Int) (s:Int) n;have hca:=cnt_all r v s n (by omega);have hcu:=cnt_up r v s n (by omega);refine⟨?_,by rw[hcl,hlen];omega⟩;unfold oneB;rw[hcl];show(isStr F.vols.length F.ext (v:Int) (s:Int)&&(decide (kOf F v=kOf F ((v:Int).toNat))&&((causR r (v:Int) (s:Int) n).all (cauOk F.dves.length)&&finB (kOf F ((v:Int).toNat)) (mOf F ((v:Int).toNat)) (kOf F v) lost (causR r (v:Int) (s:Int) n))))=true;rw[Int.toNat_natCast,decide_eq_true rfl,(isStr_iff F.vols.length F.ext (v:Int) (s:Int)).2 (by omega),Bool.true_and,Bool.true_and,Bool.and_eq_true];refine⟨?_,?_⟩
 ·rw[List.all_eq_true];intro c hc2;unfold causR at hc2;obtain⟨i,-,rfl⟩:=List.mem_map.1 hc2;exact cause_ok hp _ _ _
 ·unfold finB;rw[hlen,hn,decide_eq_true rfl,Bool.true_and,Bool.and_eq_true,decide_eq_true_eq,beq_iff_eq];have hle:=sumA_bd (causR r (v:Int) (s:Int) n)
  cases lost with
  | true =>
   rw[if_pos rfl] at hc;unfold lostP keyP condR at hc;simp only[if_true,Bool.and_eq_true,decide_eq_true_eq] at hc;rw[hn,hca] at hc;refine⟨by omega,?_⟩;rw[e2];exact(decide_eq_true (by omega)).symm
  | false =>
   rw[if_neg (by decide)] at hc;have h2:=hc.2;unfold awayP keyP condR at h2;simp only[Bool.false_eq_true,if_false,Bool.and_eq_true,Bool.not_eq_true',decide_eq_true_eq,decide_eq_false_iff_not] at h2;rw[hn,hca,hcu] at h2;refine⟨by omega,?_⟩;rw[e2];exact(decide_eq_false (by omega)).symm
theorem expl_ok:validB F (expl F r)=true∧(∀x∈expl F r,x.causes.length≤4)∧(expl F r).length≤F.vols.length * F.ext.toNat:=by
 unfold expl;by_cases hx:r.plat.length≤F.dves.length∧r.on.length≤F.dves.length
 ·rw[if_pos hx];refine⟨valid_hit fun i hi=>?_,fun x hm=>(inc_one hok hx.1 hm).2,by have:=incL_len F r F.ext.toNat F.vols.length 0;omega⟩;unfold okAt;rw[Bool.and_eq_true];refine⟨by rw[getBang hi];exact(inc_one hok hx.1 (List.getElem_mem hi)).1,?_⟩;unfold ordAt;by_cases h0:i=0
  ·rw[decide_eq_true h0];rfl
  ·rw[decide_eq_false h0,Bool.false_or,getBang (show i - 1<(incL F r F.ext.toNat F.vols.length 0).length by omega),getBang hi];have:=List.pairwise_iff_getElem.1 (incL_rise F r F.ext.toNat F.vols.length 0 (Nat.zero_le _)) (i - 1) i (by omega) hi (by omega);unfold incLtB;exact decide_eq_true this
 ·rw[if_neg hx];exact⟨rfl,fun x h=>(by cases h),by simp⟩
end
end Go.Proofs.YtcfkllnpkmebpaaGreatDoor

namespace Go.Proofs.YtcfkllnpkmebpaaGreatDoor
open Go.RowKit
set_option linter.unusedVariables false
set_option linter.unusedSimpArgs false
def srcC(r:Re) (up:Bool) (i:Int) (x:Fd):Bool:=x.p.frag==i&&(!up||onB r x.drive)
def idxC(r:Re) (up:Bool) (i:Int) (l:List Fd):Int:=match l.findIdx? (srcC r up i) with | some j=>(j:Int) | none => -1
theorem idxC_hit{r:Re} {up:Bool} {i:Int} {l:List Fd} {j:Nat} (hn:∀t (h:t<l.length),t<j→srcC r up i l[t]=false) (hj:j<l.length) (hb:srcC r up i l[j]=true):idxC r up i l=(j:Int):=by
 unfold idxC
 have:l.findIdx? (srcC r up i)=some j:=by
  rw[List.findIdx?_eq_some_iff_getElem];exact⟨hj,hb,fun t ht=>by rw[hn t (by omega) ht];simp⟩
 rw[this]
theorem idxC_miss{r:Re} {up:Bool} {i:Int} {l:List Fd} (hn:∀t (h:t<l.length),srcC r up i l[t]=false):idxC r up i l = -1:=by
 unfold idxC
 have:l.findIdx? (srcC r up i)=none:=by
  rw[List.findIdx?_eq_none_iff];intro x hx;obtain⟨t,ht,rfl⟩:=List.getElem_of_mem hx;exact hn t ht
 rw[this]
theorem con1_any(dr:Nat) (pa pb pc pg pr i:Int) (y:ByteArray) (up:Bool) (gi gu gr:Nat) (vp vo va:Value) (r:Re) (w:World) (hi:w.cell? ⟨gi,0,none⟩=some (.int .i64 i)) (hu:w.cell? ⟨gu,0,none⟩=some (.bool up)) (h0:w.cell? ⟨gr,0,none⟩=some vp) (h1:w.cell? ⟨gr,1,none⟩=some vo) (h2:w.cell? ⟨gr,2,none⟩=some va)
  (h:ReS w (Bl w.heap.size) vp vo va r) (hd:dr≤1048576) :
  Calls Tryz.prog 73 #[.agg #[.int .i64 (dr:Int),.int .i64 pa,.int .i64 pb,.int .i64 pc,.int .i64 pg,.int .i64 pr,.string y],.pointer (some ⟨gi,0,none⟩),.pointer (some ⟨gu,0,none⟩),.pointer (some ⟨gr,0,none⟩)] w fun e w'=>e=.returned (.bool (pb==i&&(!up||onB r dr)))∧Below w.heap.size w w':=by
 obtain⟨W0,hW0⟩:=zx (w.alloc (.cells #[.int .i64 (dr:Int),.int .i64 pa,.int .i64 pb,.int .i64 pc,.int .i64 pg,.int .i64 pr,.string y] 152));obtain⟨g,hg⟩:=zx w.heap.size
 have hb0:Below w.heap.size w W0:=by rw[hW0];exact(Below.refl _ _).alloc (Nat.le_refl _) _
 have n0:W0.cell? ⟨g,0,none⟩=some (.int .i64 (dr:Int)):=by rw[hW0,hg];simp
 have n2:W0.cell? ⟨g,2,none⟩=some (.int .i64 pb):=by rw[hW0,hg];simp
 have mv:∀b o x,w.cell? ⟨b,o,none⟩=some x→W0.cell? ⟨b,o,none⟩=some x:=fun b o x hx=>(hb0.cell (p:=⟨b,o,none⟩) (World.block_lt_of_cell? w _ hx)).trans hx
 have ki:=mv _ _ _ hi;have ku:=mv _ _ _ hu;have k0:=mv _ _ _ h0;have k1:=mv _ _ _ h1;have k2:=mv _ _ _ h2;have HON:=zh (online_any vp vo va r dr W0 (h.below hb0) hd);have HW0:=zh hW0;have HG:=zh hg;have HB0:=zh hb0;obtain⟨ob,hob⟩:=zx (onB r dr);rw[←hob] at HON ⊢;clear hi hu h0 h1 h2 h hd hW0 hg hb0 mv hob
 cases hq:(pb==i) with
 | false =>
  go_enter Tryz.func73,Tryz.ntmps73;go_upto_region 1 with fail;rw[←HW0.out,←HG.out];go_wp2_with fail;go_ret;exact⟨rfl,HB0.out⟩
 | true =>
  cases up with
  | false =>
   go_enter Tryz.func73,Tryz.ntmps73;go_upto_region 1 with fail;rw[←HW0.out,←HG.out];go_wp2_with fail;go_ret;exact⟨rfl,HB0.out⟩
  | true =>
   go_enter Tryz.func73,Tryz.ntmps73;go_upto_region 1 with fail;rw[←HW0.out,←HG.out];go_wp2_with fail;refine HON.out.mono ?_;rintro e w1 ⟨rfl,hb1⟩;have HB1:=zh (HB0.out.trans (hb1.mono HB0.out.size));clear hb1 n0 n2 ki ku k0 k1 k2;go_wp2_with fail;go_ret;exact⟨by simp,HB1.out⟩
theorem indexf_any(vl:Value) (l:List Fd) (i:Int) (up:Bool) (gi gu gr:Nat) (vp vo va:Value) (r:Re) (w:World) (hl:SlS 7 FdK w (Bl w.heap.size) vl l) (hi:w.cell? ⟨gi,0,none⟩=some (.int .i64 i)) (hu:w.cell? ⟨gu,0,none⟩=some (.bool up)) (h0:w.cell? ⟨gr,0,none⟩=some vp) (h1:w.cell? ⟨gr,1,none⟩=some vo) (h2:w.cell? ⟨gr,2,none⟩=some va)
  (h:ReS w (Bl w.heap.size) vp vo va r) :
  Calls Tryz.prog 72 #[vl,.func (.func 73) #[] #[.pointer (some ⟨gi,0,none⟩),.pointer (some ⟨gu,0,none⟩),.pointer (some ⟨gr,0,none⟩)]] w fun e w'=>e=.returned (.int .i64 (idxC r up i l))∧Below w.heap.size w w':=by
 obtain⟨A,c,rfl,-,hm⟩:=hl.form;unfold maxLen at hm;have HL:=zh hl
 have mv:=fun(w':World) (hb:Below w.heap.size w w') b o x (hx:w.cell? ⟨b,o,none⟩=some x)=>(hb.cell (p:=⟨b,o,none⟩) (World.block_lt_of_cell? w _ hx)).trans hx
 have HCL:=zh (fun(w':World) (hb:Below w.heap.size w w') dr pa pb pc pg pr y (hd:dr≤1048576)=>con1_any dr pa pb pc pg pr i y up gi gu gr vp vo va r w' (mv w' hb _ _ _ hi) (mv w' hb _ _ _ hu) (mv w' hb _ _ _ h0) (mv w' hb _ _ _ h1) (mv w' hb _ _ _ h2) (h.below hb) hd);obtain⟨L,hL⟩:=zx l.length;rw[←hL] at HL hm ⊢;have HLL:=zh hL;clear hl hi hu h0 h1 h2 h mv hL;go_enter Tryz.func72,Tryz.ntmps72;go_wp2_with fail;go_loopg [8] L (fun z v8 wr=>∃j:Nat,j≤L∧z=L - j∧v8=.int .i64 (j:Int)∧Hid (∀t (h:t<l.length),t<j→srcC r up i l[t]=false)∧Hid (Below w.heap.size w wr))
 case atStart=>exact⟨0,by omega,rfl,rfl,fun t _ ht=>absurd ht (Nat.not_lt_zero t),Below.refl _ _⟩
 case round =>
  obtain⟨j,hj,rfl,rfl,HNO,HBR⟩:=hrel;by_cases hlt:j<L
  ·have hjl:j<l.length:=by rw[←HLL.out];exact hlt
   obtain⟨b,off,cs,rfl,hRb,-,hcs,hfk,hdr⟩:=HL.out.at_ (k:=j) hjl;obtain⟨k0,k1,k2,k3,k4,k5,k6⟩:=seven hcs hfk;have hsv:srcC r up i l[j]=(l[j].p.frag==i&&(!up||onB r l[j].drive)):=rfl;obtain⟨x,hx⟩:=zx (l[j]);rw[←hx] at k0 k1 k2 k3 k4 k5 k6 hdr hsv;have HX:=zh hx
   have kk:∀i u,w.cell? ⟨b,i,none⟩=some u→wr.cell? ⟨b,i,none⟩=some u:=fun i u e=>(HBR.out.cell (p:=⟨b,i,none⟩) hRb).trans e
   obtain⟨dr,⟨pa,pb,pc,pg,pr,px⟩⟩:=x;simp only at k0 k1 k2 k3 k4 k5 k6 hdr hsv;have m0:=kk _ _ k0;have m1:=kk _ _ k1;have m2:=kk _ _ k2;have m3:=kk _ _ k3;have m4:=kk _ _ k4;have m5:=kk _ _ k5;have m6:=kk _ _ k6;obtain⟨y,hy⟩:∃y:ByteArray,y=⟨px.toArray⟩:=⟨_,rfl⟩;rw[←hy] at m6;have HC:=zh (HCL.out wr HBR.out dr pa pb pc pg pr y hdr);obtain⟨sb,hsb⟩:=zx ((pb==i&&(!up||onB r dr)));rw[←hsb] at HC hsv;have HSV:=zh hsv;clear hcs hfk hdr hsv hx kk k0 k1 k2 k3 k4 k5 k6 hy hsb hRb;go_wp2_with fail;refine HC.out.mono ?_;rintro e w1 ⟨rfl,hb1⟩;have HB1:=zh (HBR.out.trans (hb1.mono HBR.out.size));clear hb1 m0 m1 m2 m3 m4 m5 m6
   cases hs:sb with
   | true =>
    have HS:=zh hs;go_wp2_with fail;go_ret;refine⟨?_,HB1.out⟩
    have hjl:j<l.length:=by rw[←HLL.out];exact hlt
    rw[idxC_hit HNO.out hjl (by rw[←HX.out,HSV.out];exact HS.out)]
    rfl
   | false =>
    have HS:=zh hs;go_wp2_with fail;go_roundg (L - (j+1))
    case measure=>omega
    case rel =>
     refine⟨j+1,by omega,rfl,by go_num,?_,HB1.out⟩;intro t ht htj;rcases Nat.lt_or_ge t j with h1 | h1
     ·exact HNO.out t ht h1
     ·obtain rfl:t=j:=by omega
      rw[←HX.out,HSV.out];exact HS.out
  ·obtain rfl:L=j:=by omega
   go_wp2_with fail;go_ret;refine⟨?_,HBR.out⟩;rw[idxC_miss (fun t ht=>HNO.out t ht (by rw[HLL.out];exact ht))]
   rfl
end Go.Proofs.YtcfkllnpkmebpaaGreatDoor

namespace Go.Proofs.YtcfkllnpkmebpaaGreatDoor
open Go.RowKit
set_option linter.unusedVariables false
set_option linter.unusedSimpArgs false
def frT(r:Re) (v s:Nat) (up:Bool) (n:Nat):List Int:=outTo r up (stripeP (pieces r) (v:Int) (s:Int)) (n:Int) 8
def pickF(r:Re) (l:List Fd) (up:Bool) (i:Int):Frg:=⟨i,((l.find? (srcC r up i)).map (·.p.data)).getD []⟩
def hvT(r:Re) (v s:Nat) (up:Bool) (k n:Nat):List Frg:=((frT r v s up n).take k).map (pickF r (stripeP (pieces r) (v:Int) (s:Int)) up)
def conE(r:Re) (v s:Nat) (up:Bool) (k n:Nat):Int:=if(frT r v s up n).length<k then 121 else decE (k:Int) ((n:Int) - (k:Int)) (hvT r v s up k n)
def conS(r:Re) (v s:Nat) (up:Bool) (k n:Nat):List UInt8:=if(frT r v s up n).length<k then [] else if decE (k:Int) ((n:Int) - (k:Int)) (hvT r v s up k n)=0 then((wordT k n (decD k (hvT r v s up k n)) (rowLen (hvT r v s up k n))).take k).flatten else []
def HeldX(gi lb o:Nat) (a b:Value) (w':World):Prop:=w'.cell? ⟨gi,0,none⟩=some a∧w'.cell? ⟨lb,o,none⟩=some b
theorem HeldX.same{wc w2:World} {gi lb o:Nat} {a b:Value} (h:HeldX gi lb o a b wc) (e1:w2.heap[gi]?=wc.heap[gi]?) (e2:w2.heap[lb]?=wc.heap[lb]?):HeldX gi lb o a b w2 :=
 ⟨(World.cell?_of_block (w:=wc) e1).trans h.1,(World.cell?_of_block (w:=wc) e2).trans h.2⟩
theorem conv_piece(y:ByteArray) (w:World) (hy:y.size≤maxLen):∃(cap:Nat) (w':World),(convert 9 53 (.string y)).run Tryz.prog w=.ok (.slice (some ⟨w.heap.size,0,none⟩) y.size cap) w'∧Below w.heap.size w w'∧w'.heap.size=w.heap.size+1∧ByS w' (Fr w.heap.size (w.heap.size+1)) (.slice (some ⟨w.heap.size,0,none⟩) y.size cap) y.data.toList:=by
 have h:=run_bytes_of_string (P:=Tryz.prog) w 9 53 5 y Tryz.underlying9 Tryz.underlying53 Tryz.underlying5;refine⟨_,_,h,(Below.refl _ _).drew.alloc (Nat.le_refl _) _,by show(Array.push w.heap _).size=w.heap.size+1;exact Array.size_push _,?_⟩;have hg:=grownCap_ge w y.size 0 5;refine⟨_,_,rfl,hg,hy,fun _=>⟨w.heap.size,0,rfl,⟨Nat.le_refl _,Nat.lt_succ_self _⟩,fun k x hk=>?_⟩⟩;rw[Nat.zero_add];have hk2:=(List.getElem?_eq_some_iff.1 hk);have hb:=heap_alloc_new w.drew (.cells (bytesRow y (grownCap w y.size 0 5)) 5 ((bytesRow y (grownCap w y.size 0 5)).size,(bytesRow y (grownCap w y.size 0 5)).size+1));rw[show(⟨w.heap.size,k,none⟩:Addr)=⟨w.drew.heap.size,k,none⟩ from rfl,cell_of_row _ _ _ _ _ _ hb];unfold bytesRow;rw[Array.getElem?_append_left (by simp;exact hk2.1),Array.getElem?_map]
 have h3:y.data[k]?=some x:=by rw[←Array.getElem?_toList];exact hk
 rw[h3];rfl
theorem isStripe_any(ext:Int) (vl vm vd vv vp:Value) (A:Option Addr) (NO co v s:Nat) (w:World) (hv:v<NO) (hs:(s:Int)<ext) :
  Calls Tryz.prog 69 #[.agg #[.int .i64 ext,vl,vm,vd,vv,vp,.slice A NO co],.int .i64 (v:Int),.int .i64 (s:Int)] w fun e w'=>e=.returned (.bool true)∧Below w.heap.size w w':=by
 have f1:decide ((0:Int)≤(v:Int))=true:=decide_eq_true (by omega);have f2:decide ((0:Int)≤(s:Int))=true:=decide_eq_true (by omega)
 have i1:(v:Int)<(NO:Int):=by omega
 go_enter Tryz.func69,Tryz.ntmps69;go_wp2_with fail;go_ret;exact⟨rfl,(Below.refl _ _).alloc (Nat.le_refl _) _⟩
theorem idxC_ok(r:Re) (up:Bool) (l:List Fd) (n:Int) (x:Int) (hx:x∈outTo r up l n 8):∃(t:Nat) (h:t<l.length),idxC r up x l=(t:Int)∧l.find? (srcC r up x)=some l[t]:=by
 unfold outTo at hx;obtain⟨i,-,hi⟩:=List.mem_filterMap.1 hx;by_cases hc:hasB r up l i=true∧(i:Int)<n
 ·rw[if_pos hc] at hi;injection hi with hi;subst hi;have ha:l.any (srcC r up (i:Int))=true:=hc.1
  have hne:(l.findIdx? (srcC r up (i:Int)))≠none:=fun e=>by
   rw[List.findIdx?_eq_none_iff] at e;obtain⟨y,hy,hp⟩:=List.any_eq_true.1 ha;rw[e y hy] at hp;cases hp
  obtain⟨t,ht⟩:=Option.ne_none_iff_exists'.1 hne;obtain⟨h1,h2,h3⟩:=List.findIdx?_eq_some_iff_getElem.1 ht;refine⟨t,h1,by unfold idxC;rw[ht],?_⟩;rw[List.find?_eq_some_iff_getElem];exact⟨h2,t,h1,rfl,fun u hu=>by have:=h3 u hu;simpa using this⟩
 ·rw[if_neg hc] at hi;cases hi
theorem hvT_le(r:Re) (v s:Nat) (up:Bool) (k n:Nat) (h16:∀x∈stripeP (pieces r) (v:Int) (s:Int),x.p.data.length=16):∀h∈hvT r v s up k n,h.data.length≤16:=fun h hh=>by
 obtain⟨i,-,rfl⟩:=List.mem_map.1 hh;unfold pickF
 cases hf:(stripeP (pieces r) (v:Int) (s:Int)).find? (srcC r up i) with
 | none=>simp
 | some x=>simp[h16 x (List.mem_of_find?_eq_some hf)]
theorem hvT_row(r:Re) (v s:Nat) (up:Bool) (k n:Nat) (h16:∀x∈stripeP (pieces r) (v:Int) (s:Int),x.p.data.length=16) (hk:1≤k) (hl:k≤(frT r v s up n).length):rowLen (hvT r v s up k n)=16:=by
 unfold rowLen hvT datas;rw[List.map_map]
 cases hfr:frT r v s up n with
 | nil=>rw[hfr] at hl;simp at hl;omega
 | cons i t =>
  obtain⟨k',rfl⟩:∃k',k=k'+1:=⟨k - 1,by omega⟩;rw[List.take_succ_cons,List.map_cons];show(pickF r _ up i).data.length=16
  have hm:i∈outTo r up (stripeP (pieces r) (v:Int) (s:Int)) (n:Int) 8:=by
   have:i∈frT r v s up n:=by rw[hfr];simp
   exact this
  obtain⟨t',ht',-,hf⟩:=idxC_ok r up _ _ i hm;unfold pickF;rw[hf];exact h16 _ (List.getElem_mem ht')
theorem contents_any(N:Nat) (hN:N≤12) (vl vm vd vv vp vo vp0 vo0 va0:Value) (F:FltM) (r:Re) (v s EX KN KM:Nat) (up:Bool) (w:World) (hf:FleetS w (Bl w.heap.size) vl vm vd vv vp vo F) (hok:FleetOk N F) (h:ReS w (Bl w.heap.size) vp0 vo0 va0 r) (hp:r.plat.length≤1000) (hl:∀l∈r.plat,l.length≤1000) (hac:r.acks.length≤1000000)
  (hv:v<F.vols.length) (hEX:F.ext=(EX:Int)) (hs:s<EX) (hKN:kOf F v=(KN:Int)) (hKM:kOf F v+mOf F v=(KM:Int)) :
  Calls Tryz.prog 27 #[.agg #[.int .i64 F.ext,vl,vm,vd,vv,vp,vo],.agg #[vp0,vo0,va0],.int .i64 (v:Int),.int .i64 (s:Int),.bool up] w fun e w'=>e=.returned (.tuple #[.string ⟨(conS r v s up KN KM).toArray⟩,.int .i64 (conE r v s up KN KM)])∧Below w.heap.size w w':=by
 obtain⟨pb,pof,ob,oof,cp,co,rfl,rfl,hRp,hRo,hPA⟩:=polAt hf hok;have HVA:=zh (fun(w':World) (hb:Below w.heap.size w w')=>fvalidate_any N hN vl vm vd vv _ _ F w' (hf.below hb) hok);have HIX:=zh (fun w1 h1=>index_any vp0 vo0 va0 r w1 h1 hp hl hac);have HRE:=zh (fun(w':World) (hb:Below w.heap.size w w')=>h.below hb);have HPL:=zh (piecesTo_all r r.plat.length);have HPD:=zh (pieces_drive r (by omega));obtain⟨hpl,nm,hvol,a0,a4,a5,a6,a7,a8,a9,a10,a11,a12,a13,a14,a15,a16,hpol,hone⟩:=hPA v hv;obtain⟨kk,m1,m2,-,-⟩:=kmq_ok hok hv;obtain⟨MM,hMM⟩:=zx (mOf F v);obtain⟨QQ,hQ⟩:=zx (qOf F v);obtain⟨p0,hpp⟩:=zx (volP F v);rw[hKN,←hMM,←hQ] at hpol hone;rw[←hpp] at hvol hpl hpol;rw[hKN,←hMM] at hKM;rw[←hMM] at m1 m2;rw[hKN] at kk;have HKM:=zh (show(KN=1∨KN=2)∧0≤MM∧MM≤2∧(KN:Int)+MM=(KM:Int)∧KM≤4 from⟨by omega,m1,m2,hKM,by omega⟩)
 have hex:EX≤2:=by have:=hok.ext;omega
 have hno:=hok.volN;have hnp:=hok.polN;have HIS:=zh (fun(w':World)=>isStripe_any (EX:Int) vl vm vd vv (.slice (some ⟨pb,pof,none⟩) F.pols.length cp) (some ⟨ob,oof,none⟩) F.vols.length co v s w' hv (by omega));rw[hEX] at HVA ⊢;have HI64:=zh (show I64 (v:Int)∧I64 (s:Int) from⟨by unfold I64;omega,by unfold I64;omega⟩);obtain⟨NO,hNO⟩:=zx F.vols.length;obtain⟨NP,hNP⟩:=zx F.pols.length;rw[←hNO] at hno hv HVA HIS ⊢;rw[←hNP] at hnp hpl HVA HIS ⊢;obtain⟨W0,hW0⟩:=zx (((w.alloc (.cells #[.int .i64 (EX:Int),vl,vm,vd,vv,.slice (some ⟨pb,pof,none⟩) NP cp,.slice (some ⟨ob,oof,none⟩) NO co] 35)).alloc (.cells #[vp0,vo0,va0] 40)).alloc (.cells #[.bool up] 4));obtain⟨z,hz⟩:=zx w.heap.size;obtain⟨y,hy⟩:=zx (w.heap.size+1);obtain⟨gu,hgu⟩:=zx (w.heap.size+1+1)
 have hb0:Below w.heap.size w W0:=by rw[hW0];exact(((Below.refl _ _).alloc (Nat.le_refl _) _).alloc (by simp) _).alloc (by simp;omega) _
 have hgk:W0.heap[gu]?=some (.cells #[.bool up] 4 (0,0)):=by rw[hW0];exact heap_alloc_at _ _ _ (by rw[hgu];simp)
 have hyk:W0.heap[y]?=some (.cells #[vp0,vo0,va0] 40 (0,0)):=by
  rw[hW0];exact(Below.heap_alloc _ _ _ (by rw[hy];simp)).trans (heap_alloc_at _ _ _ (by rw[hy];simp))
 have hzk:W0.heap[z]?=some (.cells #[.int .i64 (EX:Int),vl,vm,vd,vv,.slice (some ⟨pb,pof,none⟩) NP cp,.slice (some ⟨ob,oof,none⟩) NO co] 35 (0,0)):=by
  rw[hW0,hz];exact(Below.heap_alloc _ _ _ (by simp;omega)).trans ((Below.heap_alloc _ _ _ (by simp)).trans (heap_alloc_new w _))
 have hyl:y<W0.heap.size:=(Array.getElem?_eq_some_iff.1 hyk).1;have hzl:z<W0.heap.size:=(Array.getElem?_eq_some_iff.1 hzk).1;have hgl:gu<W0.heap.size:=(Array.getElem?_eq_some_iff.1 hgk).1;have HC:=zh (fun(w':World) (hb:Below W0.heap.size W0 w')=>And.intro (cells7 ((hb.block z hzl).trans hzk)) (And.intro (cells3 ((hb.block y hyl).trans hyk)) (show w'.cell? ⟨gu,0,none⟩=some (.bool up) from by rw[cell_of_row _ _ _ _ _ _ ((hb.block gu hgl).trans hgk)];rfl)));have HW0:=zh hW0;have HZ:=zh hz;have HY:=zh hy;have HGU:=zh hgu;have HB0:=zh hb0;have HVOL:=zh (fun(w':World) (hb:Below W0.heap.size W0 w')=>(show w'.cell? ⟨ob,oof+v * 2+1,none⟩=some (.int .i64 (p0:Int)) from range_same hvol ((hb0.trans (hb.mono hb0.size)).block ob hRo) 1 _ rfl));have HPOL:=zh (fun(w':World) (hb:Below W0.heap.size W0 w')=>(show w'.rangeAt pb (pof+p0 * 17) [a0,.int .i64 (KN:Int),.int .i64 MM,.int .i64 QQ,a4,a5,a6,a7,a8,a9,a10,a11,a12,a13,a14,a15,a16] from range_same hpol ((hb0.trans (hb.mono hb0.size)).block pb hRp)));have HON:=zh hone
 have i1:(v:Int)<(NO:Int):=by omega
 have i2:(p0:Int)<(NP:Int):=by omega
 have i3:(KN:Int)≤2:=by omega
 have i4:(1:Int)≤(KN:Int):=by omega
 have i5:(KM:Int)≤4:=by have:=HKM.out;omega
 have hkw:IntKind.i64.wrap ((KN:Int)+MM)=(KM:Int):=by rw[HKM.out.2.2.2.1];exact IntWalk.i64_in _ (by omega)
 have hkm:(KN:Int)+MM=(KM:Int):=HKM.out.2.2.2.1;have hkw2:IntKind.i64.wrap (KM:Int)=(KM:Int):=IntWalk.i64_in _ (by omega);have HMM:=zh (show MM=(KM:Int) - (KN:Int) from by omega);obtain⟨⟨c0,c1,c2,c3,c4,c5,c6⟩,-⟩:=HC.out W0 (Below.refl _ _);clear hf hok h hPA hRp hRo hvol hpol hone hW0 hz hy hgu hb0 hgk hyk hzk hyl hzl hgl hNO hNP hEX hKN hMM hQ hpp hpl kk m1 m2 hKM;go_enter Tryz.func27,Tryz.ntmps27;go_wp2_with fail;rw[←HW0.out,←HGU.out,←HY.out,←HZ.out];refine(HVA.out _ HB0.out).mono ?_;rintro e w0 ⟨rfl,hb00⟩;have HB00:=zh hb00;clear c0 c1 c2 c3 c4 c5 c6 hb00;obtain⟨⟨c0,c1,c2,c3,c4,c5,c6⟩,-⟩:=HC.out w0 HB00.out;go_wp2_with fail;refine(HIS.out _).mono ?_;rintro e w1 ⟨rfl,hb1⟩;have HB1:=zh (HB00.out.trans (hb1.mono HB00.out.size));have HTH:=zh (show((w1.alloc (.cells #[.string ⟨#[]⟩,.int .i64 0,.int .i64 0,.int .i64 0,.int .i64 0,.int .i64 0,.int .i64 0,.int .i64 0,.int .i64 0,.slice none 0 0,.slice none 0 0,.bool false,.slice none 0 0,.slice none 0 0,.bool false,.slice none 0 0,.slice none 0 0] 85)).drew).there w1.heap.size 0 17 from there_of_block (w:=(w1.alloc (.cells #[.string ⟨#[]⟩,.int .i64 0,.int .i64 0,.int .i64 0,.int .i64 0,.int .i64 0,.int .i64 0,.int .i64 0,.int .i64 0,.slice none 0 0,.slice none 0 0,.bool false,.slice none 0 0,.slice none 0 0,.bool false,.slice none 0 0,.slice none 0 0] 85)).drew) (cs:=#[.string ⟨#[]⟩,.int .i64 0,.int .i64 0,.int .i64 0,.int .i64 0,.int .i64 0,.int .i64 0,.int .i64 0,.int .i64 0,.slice none 0 0,.slice none 0 0,.bool false,.slice none 0 0,.slice none 0 0,.bool false,.slice none 0 0,.slice none 0 0]) (heap_alloc_new w1 _) (Nat.le_refl 17))
 have HSK:=zh (fun(w':World) (hb:Below w1.heap.size w1 w')=>(show w'.cell? ⟨z,5,none⟩=some (.slice (some ⟨pb,pof,none⟩) NP cp)∧w'.cell? ⟨z,6,none⟩=some (.slice (some ⟨ob,oof,none⟩) NO co)∧w'.cell? ⟨ob,oof+v * 2+1,none⟩=some (.int .i64 (p0:Int))∧w'.rangeAt pb (pof+p0 * 17) [a0,.int .i64 (KN:Int),.int .i64 MM,.int .i64 QQ,a4,a5,a6,a7,a8,a9,a10,a11,a12,a13,a14,a15,a16] from by
  have hb0':=HB1.out.trans (hb.mono HB1.out.size);obtain⟨⟨-,-,-,-,-,x5,x6⟩,-⟩:=HC.out w' hb0'
  exact⟨x5,x6,HVOL.out w' hb0',HPOL.out w' hb0'⟩))
 clear c0 c1 c2 c3 c4 c5 c6 hb1;go_upto_region 3 with fail;refine region_tail (S:=(fun w'=>w'.cell? ⟨z,5,none⟩=some (.slice (some ⟨pb,pof,none⟩) NP cp)∧w'.cell? ⟨z,6,none⟩=some (.slice (some ⟨ob,oof,none⟩) NO co)∧w'.cell? ⟨ob,oof+v * 2+1,none⟩=some (.int .i64 (p0:Int))∧w'.rangeAt pb (pof+p0 * 17) [a0,.int .i64 (KN:Int),.int .i64 MM,.int .i64 QQ,a4,a5,a6,a7,a8,a9,a10,a11,a12,a13,a14,a15,a16])) [11] (by kernel_rfl) (HSK.out _ (Below.refl _ _).drew) (fun hHeld=>?_);refine tk 0 34 ?_;refine tk 1 35 ?_;refine tk 2 36 ?_;refine tk 3 37 ?_;refine tk 4 38 ?_;refine tk 5 39 ?_;refine tk 6 40 ?_;refine tk 7 41 ?_;refine tk 8 42 ?_;refine takeT (i:=9) (d:=43) (v:=(.agg #[a0,.int .i64 (KN:Int),.int .i64 MM,.int .i64 QQ,a4,a5,a6,a7,a8,a9,a10,a11,a12,a13,a14,a15,a16])) rfl rfl (by kernel_rfl) (by kernel_rfl) (by kernel_rfl) (by kernel_rfl) (fun _ _ _ h=>h) (yieldsIf_load_mid (by rfl) 85 (.tmp 42) rfl pb (pof+p0 * 17) (by rfl) [a0,.int .i64 (KN:Int),.int .i64 MM,.int .i64 QQ,a4,a5,a6,a7,a8,a9,a10,a11,a12,a13,a14,a15,a16] _ (fun w hw=>hw.2.2.2) Tryz.underlying85 rfl size_pol) (by assumption) ?_;(try simp only[Act.put,z1,z2,z3]);refine readyT (rs:=[10]) (by kernel_rfl) (by simp) ?_;refine AllReadyT.cons rfl (fun K hK=>?_) ?_
 ·go_simp;refine hK.out _ _ ?_ (fun hHeld=>?_)
  ·exact HSK.out _ ((Below.refl _ _).drew.alloc (Nat.le_refl _) _)
  clear hK K;(try simp only[Act.put,z1,z2,z3]);refine readyT (rs:=[11]) (by kernel_rfl) (by simp) ?_;refine AllReadyT.consT rfl rfl (fun K hK=>?_) ?_
  ·rw[if_pos (by rfl)];refine wp_store_mid 85 (.tmp 12) (.tmp 43) rfl w1.heap.size 0 #[a0,.int .i64 (KN:Int),.int .i64 MM,.int .i64 QQ,a4,a5,a6,a7,a8,a9,a10,a11,a12,a13,a14,a15,a16] (by rfl) (by rfl) HTH.out size_pol HON.out ?_;refine hK.out _ _ ?_;clear hK K;(try simp only[Act.put,z1,z2,z3]);refine doneT (by kernel_rfl) ?_ _;clear hHeld;obtain⟨W6,hW6⟩:=zx (World.setCells ((w1.alloc (.cells #[.string ⟨#[]⟩,.int .i64 0,.int .i64 0,.int .i64 0,.int .i64 0,.int .i64 0,.int .i64 0,.int .i64 0,.int .i64 0,.slice none 0 0,.slice none 0 0,.bool false,.slice none 0 0,.slice none 0 0,.bool false,.slice none 0 0,.slice none 0 0] 85)).drew) w1.heap.size 0 [a0,.int .i64 (KN:Int),.int .i64 MM,.int .i64 QQ,a4,a5,a6,a7,a8,a9,a10,a11,a12,a13,a14,a15,a16]);obtain⟨gp,hgp⟩:=zx w1.heap.size
   have hb6:Below w1.heap.size w1 W6:=by rw[hW6];exact below_setCellsV (Nat.le_refl _) _ _ _ ((Below.refl _ _).alloc (Nat.le_refl _) _).drew
   have hgr:W6.rangeAt gp 0 [a0,.int .i64 (KN:Int),.int .i64 MM,.int .i64 QQ,a4,a5,a6,a7,a8,a9,a10,a11,a12,a13,a14,a15,a16]:=by rw[hW6,hgp];exact World.rangeAt_setCells_same _ _ _ _ HTH.out
   have HGP:=zh (fun(w':World) (hb:Below W6.heap.size W6 w')=>(show w'.cell? ⟨gp,1,none⟩=some (.int .i64 (KN:Int))∧w'.cell? ⟨gp,2,none⟩=some (.int .i64 MM) from
    have hl:=World.block_lt_of_cell? W6 _ (hgr 0 _ rfl)
    ⟨range_same hgr (hb.block gp hl) 1 _ rfl,range_same hgr (hb.block gp hl) 2 _ rfl⟩))
   have HB6:=zh (HB1.out.trans (hb6.mono HB1.out.size));have HW6:=zh hW6;have HGG:=zh hgp;clear hW6 hgp hb6 hgr HTH HSK;obtain⟨-,⟨y0,y1,y2,-⟩,-⟩:=HC.out W6 HB6.out;go_upto_region 4 with fail;rw[←HW6.out,←HGG.out];have hre:=HRE.out W6 (HB0.out.trans (HB6.out.mono HB0.out.size));go_wp2_with fail;refine(HIX.out _ hre).mono ?_;rintro e w2 ⟨bm,nm2,fm,rfl,hbb,hM,hG,hb2⟩;have hlk:=hM.look key_two Tryz.underlying144 (zero_fds w2) HI64.out.1 HI64.out.2;have hown:=hG.at_ (fun x hx=>(HPL.out x hx).2) HI64.out.1 HI64.out.2;obtain⟨l,hl⟩:=zx (stripeP (pieces r) (v:Int) (s:Int));rw[←hl] at hown;obtain⟨LU,hLU⟩:=zx l.length;obtain⟨Au,cu,hfm⟩:=own_form hown;rw[hfm] at hown hlk;rw[←hLU] at hown hlk;unfold kv at hlk;have HSL2:=zh (OwnFd.slBl (show OwnFd w2 (bm+1) 152 (.slice Au LU cu) l from by rw[hLU];rw[hLU] at hown;exact hown) (fun x hx=>by rw[hl] at hx;exact HPD.out x (List.mem_filter.1 hx).1))
   have hfr:∀x∈l,0≤x.p.frag∧x.p.frag<8:=fun x hx=>by
    rw[hl] at hx;have h1:=validP_iff.1 (HPL.out x (List.mem_filter.1 hx).1).1;exact⟨h1.2.2.1,h1.2.2.2.1⟩
   have HB2:=zh (HB6.out.trans (hb2.mono HB6.out.size));have HB62:=zh hb2;have HRE2:=zh (HRE.out w2 (HB0.out.trans (HB2.out.mono HB0.out.size)));have HI1:=zh (intact_any vp0 vo0 va0 (.slice Au LU cu) r l (KM:Int) up w2 HRE2.out HSL2.out hfr (by have:=HKM.out;unfold I64;omega));have HLL:=zh hl;have HL16:=zh (show ∀x∈l,x.p.data.length=16 from fun x hx=>by rw[hl] at hx;exact(validP_iff.1 (HPL.out x (List.mem_filter.1 hx).1).1).2.2.2.2.2.2.2.2.2.2);have HLU:=zh hLU;clear hbb hM hG hb2 hown hfm hfr hl hLU y0 y1 y2 hre;obtain⟨-,⟨y0,y1,y2,-⟩,b0⟩:=HC.out w2 HB2.out;obtain⟨p1,p2⟩:=HGP.out w2 HB62.out;go_wp2_with fail;clear hlk;refine HI1.out.mono ?_;rintro e w3 ⟨uf,rfl,hof,hb3⟩;obtain⟨FR,hFR⟩:=zx (outTo r up l (KM:Int) 8);rw[←hFR] at hof;obtain⟨NF,hNF⟩:=zx FR.length;obtain⟨Af,cf,huf⟩:=hof.form;rw[←hNF] at huf;subst huf;have HB3:=zh (HB2.out.trans (hb3.mono HB2.out.size));have HB63:=zh (HB62.out.trans (hb3.mono HB62.out.size));have HSL3:=zh (SlS.below fdK HSL2.out hb3);have HFI:=zh (hof.intS (fun x hx=>by rw[hFR] at hx;have:=outTo_mem x hx;unfold I64;omega));have HFR:=zh (show FR=frT r v s up KM from by rw[hFR,HLL.out];rfl);have HNF:=zh hNF
   have hnf8:NF≤8:=by rw[hNF,hFR];exact outTo_length
   clear hof hb3 hFR hNF y0 y1 y2 b0 p1 p2 HI1;obtain⟨p1,p2⟩:=HGP.out w3 HB63.out;by_cases hsh:NF<KN
   ·-- S{
    go_wp2_with fail;go_ret2;refine⟨?_,HB0.out.trans (HB3.out.mono HB0.out.size)⟩
    have h1:FR.length<KN:=by rw[←HNF.out];exact hsh
    unfold conS conE;rw[←HFR.out,if_pos h1,if_pos h1]
    rfl
   ·-- T{
    have HSH:=zh (show KN≤NF from by omega)
    have hcapn:KN≤cf:=by
     obtain⟨Ax,cx,hvx,hcx,-⟩:=HFI.out.form7;injection hvx with hv1 hv2 hv3;have h1:=HSH.out;have h2:=HNF.out;omega
    have hcap:(KN:Int)≤(cf:Int):=by omega
    obtain⟨HV,hHV⟩:=zx (hvT r v s up KN KM)
    have hhl:HV.length=KN:=by
     rw[hHV];unfold hvT;rw[List.length_map,List.length_take,←HFR.out,←HNF.out];have:=HSH.out;omega
    have HHL:=zh hhl;have HD16:=zh (show ∀h∈HV,h.data.length≤65536 from fun h hh=>by rw[hHV] at hh;exact Nat.le_trans (hvT_le r v s up KN KM (by rw[←HLL.out];exact HL16.out) h hh) (by decide))
    have HROW:=zh (show rowLen HV=16 from by
     rw[hHV];exact hvT_row r v s up KN KM (by rw[←HLL.out];exact HL16.out) (by omega) (by rw[←HFR.out,←HNF.out];exact HSH.out))
    have HHV:=zh (fun j (hj:j<KN)=>(show HV[j]?=(FR[j]?).map (pickF r l up) from by
     rw[hHV];unfold hvT
     rw[List.getElem?_map,List.getElem?_take,if_pos hj,←HFR.out,←HLL.out]))
    have HCS:=zh (show(conS r v s up KN KM=if decE (KN:Int) MM HV=0 then((wordT KN KM (decD KN HV) (rowLen HV)).take KN).flatten else [])∧conE r v s up KN KM=decE (KN:Int) MM HV from by
     have h1:¬(frT r v s up KM).length<KN:=by rw[←HFR.out,←HNF.out];have:=HSH.out;omega
     unfold conS conE;rw[if_neg h1,if_neg h1,←hHV,←HMM.out]
     exact⟨rfl,rfl⟩)
    obtain⟨i0,hi0,hz0,hz1,hz2⟩:=info_parts info_frag
    have hmf:∀(fn:Fn) (first cap:Array Value) (w:World),(Instr.makeFunc fn first cap).run Tryz.prog w=.ok (.func fn first cap) w:=fun _ _ _ _=>rfl
    clear hHV hhl;go_wp2_with fail;clear p1 p2;go_loopg [15,69] KN (fun z v15 v69 wr=>∃j:Nat,j≤KN∧z=KN - j∧v69=.int .i64 (j:Int)∧Hid (OwnFg wr w3.heap.size v15 (HV.take j))∧Hid (Below w3.heap.size w3 wr))
    case atStart=>exact⟨0,by omega,rfl,rfl,OwnFg.nil _ _,Below.refl _ _⟩
    case round =>
     obtain⟨j,hj,rfl,rfl,HO,HBR⟩:=hrel;have HR0:=zh (HB3.out.trans (HBR.out.mono HB3.out.size));by_cases hlj:j<KN
     ·-- L1{
      have hjl:j<FR.length:=by have:=HSH.out;have:=HNF.out;omega
      obtain⟨b,off,hAf,hR,hc,hx64⟩:=HFI.out.at7 (k:=j) hjl;subst hAf;have l0:=(HBR.out.cell (p:=⟨b,off+j,none⟩) hR.2).trans hc;obtain⟨x,hx⟩:=zx (FR[j]);rw[←hx] at l0 hx64
      obtain⟨t,ht,hidx,hfind⟩:=idxC_ok r up l (KM:Int) x (by
       have hm:x∈FR:=by rw[hx];exact List.getElem_mem hjl
       rw[HFR.out] at hm;rw[HLL.out]
       exact hm)
      obtain⟨W4,hW4⟩:=zx (wr.alloc (.cells #[.int .i64 x] 3));obtain⟨gi,hgi⟩:=zx wr.heap.size
      have hb4:Below wr.heap.size wr W4:=by rw[hW4];exact(Below.refl _ _).alloc (Nat.le_refl _) _
      have hgk:W4.heap[gi]?=some (.cells #[.int .i64 x] 3 (0,0)):=by rw[hW4,hgi];exact heap_alloc_new _ _
      have ki:W4.cell? ⟨gi,0,none⟩=some (.int .i64 x):=by rw[cell_of_row _ _ _ _ _ _ hgk];rfl
      have h04:=HR0.out.trans (hb4.mono HR0.out.size);obtain⟨-,⟨y0,y1,y2,-⟩,b0⟩:=HC.out W4 h04;have hsl4:=SlS.below fdK HSL3.out (HBR.out.trans (hb4.mono HBR.out.size));have HIF:=zh (indexf_any (.slice Au LU cu) l x up gi gu y vp0 vo0 va0 r W4 hsl4 ki b0 y0 y1 y2 (HRE.out W4 (HB0.out.trans (h04.mono HB0.out.size))));rw[hidx] at HIF
      have hd16:l[t].p.data.length=16:=by
       exact HL16.out _ (List.getElem_mem ht)
      obtain⟨lb,lo,csl,hAu,hlR,-,hcl,hfk,-⟩:=HSL3.out.at_ (k:=t) ht;subst hAu;obtain⟨-,-,-,-,-,-,q6⟩:=seven hcl hfk;obtain⟨px,hpx⟩:=zx (l[t].p.data);rw[←hpx] at q6 hd16;have HFD:=zh (show l.find? (srcC r up x)=some l[t]∧px=l[t].p.data from⟨hfind,hpx⟩);have HXJ:=zh (show FR[j]?=some x from by rw[hx];exact List.getElem?_eq_getElem hjl);obtain⟨sy,hsy⟩:∃y:ByteArray,y=⟨px.toArray⟩:=⟨_,rfl⟩;rw[←hsy] at q6;have HSY:=zh hsy;have HD16:=zh hd16;have HTL:=zh (show t<LU from by rw[HLU.out];exact ht)
      have hti:(t:Int)<(LU:Int):=by have:=HTL.out;omega
      have HK4:=zh (And.intro hgk (Array.getElem?_eq_some_iff.1 hgk).1);have HB4:=zh (HBR.out.trans (hb4.mono HBR.out.size));have HRW4:=zh hb4;have HQ6:=zh (fun(w':World) (hb:Below w3.heap.size w3 w')=>(show w'.cell? ⟨lb,lo+t * 7+6,none⟩=some (.string sy) from(hb.cell (p:=⟨lb,lo+t * 7+6,none⟩) hlR).trans q6));have HW4:=zh hW4;have HGI:=zh hgi;have HX64:=zh hx64;obtain⟨n0,hn0⟩:=zx ((HV.take j).length)
      have hn0j:n0=j:=by rw[hn0,List.length_take,HHL.out];omega
      obtain⟨A0,c0',hv0⟩:=HO.out.form;rw[←hn0,hn0j] at hv0;subst hv0;have HTJ:=zh (show(HV.take j).length=j from by rw[←hn0];exact hn0j);have HL3:=zh (show lb<w3.heap.size from hlR);have HOB2:=zh (fun b (e:(Value.slice A0 j c0').ownBlock=some b)=>(show w3.heap.size≤b from by obtain⟨⟨cs,ho,-⟩,-⟩:=HO.out;exact(ho.lt b e).1));have HOB:=zh (fun b (e:(Value.slice A0 j c0').ownBlock=some b)=>(show b<wr.heap.size from by obtain⟨⟨cs,ho,-⟩,-⟩:=HO.out;exact(ho.lt b e).2));clear hc hR hx hidx hfind hW4 hgi hb4 hgk h04 y0 y1 y2 b0 hsl4 hd16 hcl hfk q6 hpx hsy hlR hjl hn0 hn0j ki hx64;go_upto_region 12 with fail;rw[←HW4.out,←HGI.out];clear l0;go_wp2_with fail;refine HIF.out.mono ?_;rintro e w5 ⟨rfl,hb5⟩;have HB5:=zh (HB4.out.trans (hb5.mono HB4.out.size));have HRW5:=zh (HRW4.out.trans (hb5.mono HRW4.out.size));have HK5:=zh (show w5.cell? ⟨gi,0,none⟩=some (.int .i64 x)∧gi<w5.heap.size from⟨by rw[cell_of_row _ _ _ _ _ _ ((hb5.block gi HK4.out.2).trans HK4.out.1)];rfl,Nat.lt_of_lt_of_le HK4.out.2 hb5.size⟩);have HLB:=zh (World.block_lt_of_cell? w5 _ (HQ6.out w5 HB5.out));have HS13:=zh (show HeldX gi lb (lo+t * 7+6) (.int .i64 x) (.string sy) w5.drew from⟨HK5.out.1,HQ6.out w5 HB5.out⟩);clear hb5;go_upto_region 13 with fail;refine region_tail (S:=(fun w'=>w'.cell? ⟨gi,0,none⟩=some (.int .i64 x)∧w'.cell? ⟨lb,lo+t * 7+6,none⟩=some (.string sy))) [] (by kernel_rfl) HS13.out (fun hHeld=>?_);refine tk 0 76 ?_;refine tk 1 77 ?_;refine tk 2 78 ?_;refine tk 3 79 ?_;refine tk 4 80 ?_;refine tk 5 81 ?_;refine tk 6 82 ?_;refine tk 7 83 ?_;refine readyT (rs:=[8]) (by kernel_rfl) (by simp) ?_;refine AllReadyT.cons rfl (fun K hK=>?_) ?_
      ·go_simp;obtain⟨cap,w9,hcv,hb9,hs9,hby⟩:=conv_piece sy w5.drew (by rw[HSY.out];show px.toArray.size≤maxLen;rw[List.size_toArray,HD16.out];decide);rw[show w5.drew.heap.size=w5.heap.size from rfl] at hcv hb9 hs9 hby;rw[hcv];simp only[Result.andThen];rw[Oper.upon_value];have hb9w:=HB5.out.trans ((show Below w5.heap.size w5 w9 from⟨hb9.os,hb9.tape,hb9.output,hb9.size,hb9.block⟩).mono HB5.out.size);have hO9:=HO.out.below ((HRW5.out.trans ((show Below w5.heap.size w5 w9 from⟨hb9.os,hb9.tape,hb9.output,hb9.size,hb9.block⟩).mono HRW5.out.size)));obtain⟨⟨cs,ho9,hc9⟩,hk9⟩:=hO9;rw[HTJ.out] at ho9;have HS9:=zh hs9;have hkp8:HeldX gi lb (lo+t * 7+6) (.int .i64 x) (.string sy) w9:=HeldX.same (HS13.out) (hb9.block gi HK5.out.2) (hb9.block lb HLB.out);clear hs9;refine hK.out _ _ ?_ (fun hHeld=>?_)
       ·(first|assumption|exact hkp8|exact hkp10|exact hkp11)
       clear hK K;(try simp only[Act.put,z1,z2,z3]);refine tk 9 85 ?_;refine readyT (rs:=[10]) (by kernel_rfl) (by simp) ?_;refine AllReadyT.cons rfl (fun K hK=>?_) ?_
       ·go_simp;have hkp10:HeldX gi lb (lo+t * 7+6) (.int .i64 x) (.string sy) (w9.alloc (.cells #[.int .i64 x,.slice (some ⟨w5.heap.size,0,none⟩) sy.size cap] 155)):=HeldX.same hkp8 (Below.heap_alloc w9 _ gi (Nat.lt_of_lt_of_le HK5.out.2 hb9.size)) (Below.heap_alloc w9 _ lb (Nat.lt_of_lt_of_le HLB.out hb9.size));refine hK.out _ _ ?_ (fun hHeld=>?_)
        ·(first|assumption|exact hkp8|exact hkp10|exact hkp11)
        clear hK K;(try simp only[Act.put,z1,z2,z3]);refine readyT (rs:=[11]) (by kernel_rfl) (by simp) ?_;refine AllReadyT.cons rfl (fun K hK=>?_) ?_
        ·refine step_append_lies _ (by rfl) _ _ _ (by rfl) w3.heap.size 155 i0 _ 2 32 Tryz.underlying149 hi0 hz0 hz1 hz2 rfl (by decide) (.slice A0 j c0') j cs (by rfl) (World.ownsRow.alloc ho9 _) ⟨w9.heap.size,0,none⟩ 1 1 [.int .i64 x,.slice (some ⟨w5.heap.size,0,none⟩) sy.size cap] (by rfl) (by rfl) (World.news_of_block (cs:=#[.int .i64 x,.slice (some ⟨w5.heap.size,0,none⟩) sy.size cap]) (t:=155) (fr:=(0,0)) (heap_alloc_new w9 _)) (by simp[Value.oneCell']) (by omega) (by unfold maxLen;omega) (by omega) (Nat.le_trans hb9w.size (by simp)) (w9.heap.size+1) (by simp) ?_;intro gg cap2 wA hown5 hg5 hat5 hlt5;have hkp11:HeldX gi lb (lo+t * 7+6) (.int .i64 x) (.string sy) wA:=HeldX.same hkp10 (hg5.block gi (Nat.lt_of_lt_of_le HK5.out.2 (Nat.le_trans hb9.size (by simp))) (fun e=>by have h1:=HOB.out gi e.symm;have h2:=HGI.out;omega)) (hg5.block lb (Nat.lt_of_lt_of_le HLB.out (Nat.le_trans hb9.size (by simp))) (fun e=>by have h1:=HOB2.out lb e.symm;have h2:=HL3.out;omega));refine hK.out _ _ ?_ (fun hHeld=>?_)
         ·(first|assumption|exact hkp8|exact hkp10|exact hkp11)
         clear hK K;(try simp only[Act.put,z1,z2,z3]);refine tk 12 15 ?_;refine doneT (by kernel_rfl) ?_ _;have HHB:=zh (And.intro hb9w (And.intro HS9.out hby));have HCC:=zh (And.intro ho9 (And.intro hc9 hk9));have HAA:=zh (And.intro hown5 (And.intro hg5 hat5));clear hHeld hb9 hcv hb9w hby ho9 hc9 hk9 hown5 hg5 hat5 hlt5;go_wp2_with fail;go_roundg (KN - (j+1))
         case measure=>omega
         case rel =>
          obtain⟨hb9w,hs9,hby⟩:=HHB.out;obtain⟨ho9,hc9,hk9⟩:=HCC.out;obtain⟨hown5,hg5,hat5⟩:=HAA.out;have hg9:w9.grownBy wA (Value.slice A0 j c0').ownBlock:=⟨hg5.os,hg5.tape,hg5.output,Nat.le_trans (by simp) hg5.size,fun b hb hn=>(hg5.block b (by simp;omega) hn).trans (Below.heap_alloc w9 _ b hb)⟩;refine⟨j+1,by omega,rfl,by go_num,?_,hb9w.grown hg9 hb9w.size (fun b e=>(ho9.lt b e).1)⟩
          have hhj:HV[j]?=some ⟨x,px⟩:=by
           rw[HHV.out j hlj,HXJ.out];unfold pickF;rw[Option.map_some,HFD.out.1,HFD.out.2];rfl
          rw[take_more hhj];have hlt13:=ho9.lt;refine OwnFg.push (h:=⟨x,px⟩) hk9 hc9 (by rw[HTJ.out];exact ho9) HX64.out ?_ (by rw[HTJ.out];exact hown5) hg9 ?_
          ·have hy:sy.data.toList=px:=by rw[HSY.out]
           rw[hy] at hby;refine hby.mono (fun b hb=>⟨by rw[hs9];exact hb.2,fun e=>?_⟩);have h1:=HOB.out b e;have h2:=HRW5.out.size;have h3:=hb.1;omega
          ·rcases hat5 with e | e
           ·exact .inl e.symm
           ·exact .inr (by rw[e];rfl)
        exact AllReadyT.nil
       exact AllReadyT.nil
      exact AllReadyT.nil
     ·-- R1{
      obtain rfl:KN=j:=by omega
      obtain⟨p1,p2⟩:=HGP.out wr (HB63.out.trans (HBR.out.mono HB63.out.size));have hfrag:=HO.out.fragS;rw[List.take_of_length_le (by rw[HHL.out];exact Nat.le_refl _)] at hfrag;obtain⟨DE,hDE⟩:=zx (decE (KN:Int) MM HV);obtain⟨RT,hRT⟩:=zx ((wordT KN KM (decD KN HV) (rowLen HV)).take KN)
      have HDC:=zh (fun vh (hh:FragS wr (Bl wr.heap.size) vh HV)=>(show Calls Tryz.prog 75 #[.int .i64 (KN:Int),.int .i64 MM,vh] wr (fun e w'=>∃v,e=.returned (.tuple #[v,.int .i64 DE])∧(DE=0→MatS w' (Bl w'.heap.size) v RT)∧(DE≠0→v=.slice none 0 0)∧Below wr.heap.size wr w') from by
       have hd:=decode_any (KN:Int) MM vh HV wr (by unfold I64;omega) (by have:=HKM.out;unfold I64;omega) hh (by rw[HHL.out];omega) HD16.out;rw[←hDE,show((KN:Int)).toNat=KN from by omega,show((KN:Int)+MM).toNat=KM from by rw[hkm];omega,←hRT] at hd
       exact hd))
      have HFG:=zh hfrag
      have HRT:=zh (show RT.length=KN∧(∀x∈RT,x.length=16) from by
       rw[hRT];refine⟨by rw[List.length_take,wordT_length];have:=HKM.out;omega,fun x hx=>?_⟩;have h1:=wordT_wide KN KM (decD KN HV) (rowLen HV) x (List.mem_of_mem_take hx)
       rw[h1];exact HROW.out)
      have HCS2:=zh (show(conS r v s up KN KM=if DE=0 then RT.flatten else [])∧conE r v s up KN KM=DE from by rw[hDE,hRT];exact HCS.out);clear hfrag hDE hRT;go_wp2_with fail;refine(HDC.out _ HFG.out).mono ?_;rintro e w5 ⟨vr,rfl,hmat,hnil,hb5⟩;have HB5:=zh (HB3.out.trans ((HBR.out.trans (hb5.mono HBR.out.size)).mono HB3.out.size));clear p1 p2;by_cases hde:DE=0
      ·-- D{
       have HMT:=zh (hmat hde);obtain⟨Av,cv',hvr,-,-⟩:=(hmat hde).form;rw[HRT.out.1] at hvr;subst hvr;have HDE:=zh hde;subst hde;clear hmat hnil hb5;obtain⟨W7,hW7⟩:=zx (w5.alloc (.cells #[.pointer none,.slice none 0 0] 108));obtain⟨gb,hgb⟩:=zx w5.heap.size
       have hb7:Below w5.heap.size w5 W7:=by rw[hW7];exact(Below.refl _ _).alloc (Nat.le_refl _) _
       have hgk:W7.heap[gb]?=some (.cells #[.pointer none,.slice none 0 0] 108 (0,0)):=by rw[hW7,hgb];exact heap_alloc_new _ _
       have HBL:=zh (show Lib.IsBuilder 108 5 gb gb (bys []) W7 from .inl ⟨Nat.le_refl _,_,hgk,World.ownsRow_nil _ _ _ _,by intro e;cases e⟩);have HW7:=zh hW7;have HGB:=zh hgb;have HB7:=zh hb7;clear hW7 hgb hb7 hgk;go_upto_region 19 with fail;rw[←HW7.out,←HGB.out];go_wp2_with fail;go_loopg [103] KN (fun z v103 wr=>∃j:Nat,j≤KN∧z=KN - j∧v103=.int .i64 (j:Int)∧Hid (Lib.IsBuilder 108 5 gb gb (bys (RT.take j).flatten) wr)∧Hid (Below w5.heap.size w5 wr))
       case atStart=>exact⟨0,by omega,rfl,rfl,HBL.out,HB7.out⟩
       case round =>
        obtain⟨j,hj,rfl,rfl,HIB,HBW⟩:=hrel;by_cases hlj:j<KN
        ·-- L2{
         have hjl:j<RT.length:=by rw[HRT.out.1];exact hlj
         obtain⟨b2,off2,va,hAv,hR2,hc2,hva⟩:=HMT.out.at_ (k:=j) hjl;subst hAv;have l0:=(HBW.out.cell (p:=⟨b2,off2+j,none⟩) hR2).trans hc2;obtain⟨row,hrow⟩:=zx (RT[j]);rw[←hrow] at hva
         have hr16:row.length=16:=by rw[hrow];exact HRT.out.2 _ (List.getElem_mem hjl)
         obtain⟨A',c',e',h1',h2',h3'⟩:=hva;obtain⟨b3,off3,e3,hR3,hc3⟩:=h3' (by omega);rw[hr16] at e' h1';subst e3;subst e'
         have htk:(RT.take (j+1)).flatten=(RT.take j).flatten++row:=by
          rw[List.take_succ_eq_append_getElem hjl,List.flatten_append,←hrow];simp
         have HTK:=zh htk
         have hfl:(RT.take j).flatten.length=j * 16:=by
          have h:=wide_sum (RT.take j) 16 (fun x hx=>HRT.out.2 x (List.mem_of_mem_take hx));rw[List.length_flatten,h,List.length_take,HRT.out.1];congr 1;omega
         have hbl:(bys (RT.take j).flatten).length=j * 16:=by unfold bys;rw[List.length_map,hfl]
         have HWR:=zh (bwrite_any gb gb (bys (RT.take j).flatten) ⟨b3,off3,none⟩ 16 c' (bys row) wr HIB.out (by simp[bys,hr16]) (fun t u hu=>by
          rw[Addr.add_mid]
          have ht:∃x,row[t]?=some x∧u=.int .u8 (x.toNat:Int):=by
           unfold bys at hu;rw[List.getElem?_map] at hu;obtain⟨x,hx,e⟩:=Option.map_eq_some_iff.1 hu;exact⟨x,hx,e.symm⟩
          obtain⟨x,hx,rfl⟩:=ht
          exact(HBW.out.cell (p:=⟨b3,off3+t,none⟩) hR3).trans (hc3 t x hx)) (by rw[HGB.out];exact hR3) (fun u hu=>by unfold bys at hu;obtain⟨x,-,rfl⟩:=List.mem_map.1 hu;rfl) (by rw[hbl];omega) (by rw[HGB.out];exact HBW.out.size))
         clear hR2 hc2 hrow hr16 h1' h2' h3' hR3 hc3 htk hfl hbl hjl;go_wp2_with fail;refine HWR.out.mono ?_;rintro e w9 ⟨rfl,hbl9,hb9⟩;have HBL9:=zh hbl9;have HB9:=zh (show Below w5.heap.size w5 w9 from HBW.out.trans (by have h:=hb9;rw[HGB.out] at h;exact h));clear hbl9 hb9 l0;go_wp2_with fail;go_roundg (KN - (j+1))
         case measure=>omega
         case rel=>exact⟨j+1,by omega,rfl,by go_num,by rw[HTK.out,bys_append];exact .inr HBL9.out,HB9.out⟩
        ·obtain rfl:KN=j:=by omega
         have hib:=HIB.out;rw[List.take_of_length_le (by rw[HRT.out.1];exact Nat.le_refl _)] at hib;have HST:=zh (bstring_any gb gb RT.flatten wr hib (by rw[HGB.out];exact HBW.out.size));clear hib;go_wp2_with fail;refine HST.out.mono ?_;rintro e w9 ⟨rfl,hb9⟩;have HB9:=zh (show Below w5.heap.size w5 w9 from HBW.out.trans (by have h:=hb9;rw[HGB.out] at h;exact h));clear hb9;go_wp2_with fail;go_ret2;refine⟨?_,HB0.out.trans ((HB5.out.trans (HB9.out.mono HB5.out.size)).mono HB0.out.size)⟩
         first|(rw[HCS2.out.1,HCS2.out.2,if_pos rfl];rfl)|(rw[HCS2.out.1,HCS2.out.2];rfl)
      ·-- E{
       have HDE:=zh hde;clear hmat hnil hb5;go_wp2_with fail;go_ret2;refine⟨?_,HB0.out.trans (HB5.out.mono HB0.out.size)⟩
       first|(rw[HCS2.out.1,HCS2.out.2,if_neg HDE.out];rfl)|(rw[HCS2.out.1,HCS2.out.2];rfl)
  exact AllReadyT.nil
 exact AllReadyT.nil
end Go.Proofs.YtcfkllnpkmebpaaGreatDoor

namespace Go.Proofs.YtcfkllnpkmebpaaGreatDoor
open Go.RowKit
set_option linter.unusedVariables false
set_option linter.unusedSimpArgs false
theorem out_fewer(r:Re) (l:List Fd) (n:Int) (j:Nat):(outTo r true l n j).length≤(outTo r false l n j).length:=by
 induction j with
 | zero=>exact Nat.le_refl _
 | succ j ih =>
  rw[outTo_succ,outTo_succ,List.length_append,List.length_append]
  have hh:hasB r true l j=true→hasB r false l j=true:=fun h=>by
   unfold hasB at h ⊢;rw[List.any_eq_true] at h ⊢;obtain⟨x,hx,he⟩:=h;refine⟨x,hx,?_⟩;rw[Bool.and_eq_true] at he;rw[he.1];rfl
  by_cases h1:hasB r true l j=true∧(j:Int)<n
  ·rw[if_pos h1,if_pos ⟨hh h1.1,h1.2⟩];simp;exact ih
  ·rw[if_neg h1];simp;omega
theorem con_bad{F:FltM} {r:Re} {v s KN KM:Nat} (b:Bool) (hk:kOf F v=(KN:Int)) (hm:kOf F v+mOf F v=(KM:Int)) (h:keyP F r (condR b) (v,s)=true):conE r v s true KN KM=121:=by
 unfold keyP at h;rw[Bool.and_eq_true] at h;have h2:condR b (cntI r v s false (kOf F v+mOf F v)) (cntI r v s true (kOf F v+mOf F v)) (kOf F v)=true:=h.2;rw[hm,hk] at h2;have h3:=out_cnt r v s true (KM:Int);have h4:=out_cnt r v s false (KM:Int);have h5:=out_fewer r (stripeP (pieces r) (v:Int) (s:Int)) (KM:Int) 8
 have hl:(frT r v s true KM).length<KN:=by
  show(outTo r true (stripeP (pieces r) (v:Int) (s:Int)) (KM:Int) 8).length<KN
  unfold condR at h2
  cases b with
  | true =>
   rw[if_pos rfl,decide_eq_true_eq] at h2;omega
  | false =>
   rw[if_neg (by decide),Bool.and_eq_true,decide_eq_true_eq] at h2;have:=h2.2;omega
 unfold conE;rw[if_pos hl]
theorem split_len(F:FltM) (r:Re):∀l:List (Nat×Nat),(l.filterMap fun x=>if lostP F r x=true then some (incOf F r true x) else if awayP F r x=true then some (incOf F r false x) else none).length=(l.filter (keyP F r (condR true))).length+(l.filter (keyP F r (condR false))).length
 | []=>rfl
 | x :: l=>by
  have ih:=split_len F r l;rw[List.filterMap_cons,List.filter_cons,List.filter_cons];by_cases h1:keyP F r (condR true) x=true
  ·have h2:keyP F r (condR false) x=false:=lost_away F r x h1;rw[if_pos (show lostP F r x=true from h1),if_pos h1,if_neg (by rw[h2];decide)];simp only[List.length_cons];omega
  ·rw[if_neg (show ¬lostP F r x=true from h1),if_neg h1];by_cases h2:keyP F r (condR false) x=true
   ·rw[if_pos (show awayP F r x=true from h2),if_pos h2];simp only[List.length_cons];omega
   ·rw[if_neg (show ¬awayP F r x=true from h2),if_neg h2];exact ih
theorem expl_count{F:FltM} {r:Re} (h:r.plat.length≤F.dves.length∧r.on.length≤F.dves.length):(expl F r).length=(keyL F r (condR true) F.ext.toNat F.vols.length 0).length+(keyL F r (condR false) F.ext.toNat F.vols.length 0).length:=by
 unfold expl;rw[if_pos h];exact split_len F r _
theorem expl_at{F:FltM} {r:Re} {x:Inc} (hx:x∈expl F r):∃v s b,v<F.vols.length∧s<F.ext.toNat∧x.vol=(v:Int)∧x.stripe=(s:Int)∧x.lost=b∧keyP F r (condR b) (v,s)=true∧(v,s)∈keyL F r (condR b) F.ext.toNat F.vols.length 0:=by
 unfold expl at hx;split at hx
 ·unfold incL at hx;obtain⟨⟨v,s⟩,hk,h⟩:=List.mem_filterMap.1 hx;obtain⟨hv,hs⟩:=keysTo_mem hk;by_cases h1:lostP F r (v,s)=true
  ·rw[if_pos h1] at h;injection h with h;subst h;exact⟨v,s,true,hv,hs,rfl,rfl,rfl,h1,List.mem_filter.2 ⟨hk,h1⟩⟩
  ·rw[if_neg h1] at h;by_cases h2:awayP F r (v,s)=true
   ·rw[if_pos h2] at h;injection h with h;subst h;exact⟨v,s,false,hv,hs,rfl,rfl,rfl,h2,List.mem_filter.2 ⟨hk,h2⟩⟩
   ·rw[if_neg h2] at h;cases h
 ·cases hx
end Go.Proofs.YtcfkllnpkmebpaaGreatDoor
