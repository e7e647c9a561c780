/- What Explain returns is valid and short: plain. -/
import Derived.Test.YtcfkllnpkmebpaaGreatDoorMj20
import Derived.Test.YtcfkllnpkmebpaaGreatDoorMj23
import Derived.Test.YtcfkllnpkmebpaaGreatDoorMj01
import Derived.Test.YtcfkllnpkmebpaaGreatDoorMj18
import Derived.Test.YtcfkllnpkmebpaaGreatDoorMj19
import Derived.Test.YtcfkllnpkmebpaaGreatDoorMj26
import Derived.ProofKit
import Derived.OpenShut
import Derived.Lib.SmallJoins
import Derived.Deep.Slices
import Derived.Deep.Fields
import Derived.ChangeSame
import Derived.Test.YtcfkllnpkmebpaaGreatDoorMj04
set_option linter.unusedSectionVars false
set_option maxRecDepth 100000
set_option maxHeartbeats 12800000
namespace Go.Proofs.YtcfkllnpkmebpaaGreatDoor
open Go.RowKit
set_option linter.unusedVariables false
set_option linter.unusedSimpArgs false
theorem cause_cases(r:Re) (v s:Int) (i:Nat):(upF r v s [] i=true∧anyF r v s i=true∧(causeOf r v (i:Int) s).state=1)∨(upF r v s [] i=false∧anyF r v s i=true∧(causeOf r v (i:Int) s).state=2)∨(upF r v s [] i=false∧anyF r v s i=false∧((causeOf r v (i:Int) s).state=3∨(causeOf r v (i:Int) s).state=4)):=by
 unfold causeOf
 cases h1:(pieces r).find? (srcB r v (i:Int) s true) with
 | some x =>
  left
  have hx:=List.mem_of_find?_eq_some h1
  have hb:=List.find?_some h1
  unfold srcB at hb
  rw[Bool.and_eq_true] at hb
  simp only[Bool.not_true,Bool.false_or] at hb
  exact⟨upF_iff.2 ⟨x,hx,hb.1,.inl hb.2⟩,anyF_iff.2 ⟨x,hx,hb.1⟩,rfl⟩
 | none =>
  right
  rw[List.find?_eq_none] at h1
  have hu:upF r v s [] i=false:=by
   rw[Bool.eq_false_iff]
   intro h
   obtain⟨x,hx,hb,ho⟩:=upF_iff.1 h
   refine h1 x hx ?_
   unfold srcB
   rcases ho with ho | ho
   ·rw[hb,ho];rfl
   ·cases ho
  cases h2:(pieces r).find? (srcB r v (i:Int) s false) with
  | some x =>
   left
   have hx:=List.mem_of_find?_eq_some h2
   have hb:=List.find?_some h2
   unfold srcB at hb
   rw[Bool.and_eq_true] at hb
   exact⟨hu,anyF_iff.2 ⟨x,hx,hb.1⟩,rfl⟩
  | none =>
   right
   rw[List.find?_eq_none] at h2
   refine⟨hu,?_,?_⟩
   ·rw[Bool.eq_false_iff]
    intro h
    obtain⟨x,hx,hb⟩:=anyF_iff.1 h
    refine h2 x hx ?_
    unfold srcB
    rw[hb];rfl
   ·dsimp only
    cases oldD r v (i:Int) s with
    | some d=>exact .inl rfl
    | none=>exact .inr rfl
def causR(r:Re) (v s:Int) (n:Nat):List Cau:=(List.range n).map fun i:Nat=>causeOf r v (i:Int) s
theorem causR_succ(r:Re) (v s:Int) (n:Nat):causR r v s (n+1)=causR r v s n++[causeOf r v (n:Int) s]:=by
 unfold causR
 rw[List.range_succ,List.map_append]
 rfl
theorem causR_sum(r:Re) (v s:Int):∀n:Nat,sumG (causR r v s n)=(cntS r v s n []:Int)∧sumG (causR r v s n)+sumA (causR r v s n)=(((List.range n).filter (anyF r v s)).length:Int)
 | 0=>⟨rfl,rfl⟩
 | n+1=>by
  obtain⟨h1,h2⟩:=causR_sum r v s n
  have e1:cntS r v s (n+1) []=cntS r v s n []+(if upF r v s [] n=true then 1 else 0):=by
   unfold cntS
   rw[List.range_succ,List.filter_append,List.length_append]
   congr 1
   by_cases h:upF r v s [] n=true <;> simp[h]
  have e2:((List.range (n+1)).filter (anyF r v s)).length=((List.range n).filter (anyF r v s)).length+(if anyF r v s n=true then 1 else 0):=by
   rw[List.range_succ,List.filter_append,List.length_append]
   congr 1
   by_cases h:anyF r v s n=true <;> simp[h]
  rw[causR_succ,sumG_snoc,sumA_snoc,e1,e2]
  rcases cause_cases r v s n with ⟨a,b,c⟩ | ⟨a,b,c⟩ | ⟨a,b,c | c⟩ <;> rw[a,b,c] <;> simp[addG,addA] <;> omega
theorem cause_ok{r:Re} {ND:Nat} (hp:r.plat.length≤ND) (v f s:Int):cauOk ND (causeOf r v f s)=true:=by
 unfold causeOf
 cases h1:(pieces r).find? (srcB r v f s true) with
 | some x =>
  have:=pieces_lt r x (List.mem_of_find?_eq_some h1)
  unfold cauOk;simp;omega
 | none =>
  dsimp only
  cases h2:(pieces r).find? (srcB r v f s false) with
  | some x =>
   have:=pieces_lt r x (List.mem_of_find?_eq_some h2)
   unfold cauOk;simp;omega
  | none =>
   dsimp only
   cases h3:oldD r v f s with
   | some d =>
    unfold oldD at h3
    have:=(List.findIdx?_eq_some_iff_getElem.1 h3).1
    unfold cauOk;simp;omega
   | none=>rfl
theorem inc_mem{F:FltM} {r:Re} {x:Inc} (hx:x∈incL F r F.ext.toNat F.vols.length 0):∃v s lost,v<F.vols.length∧s<F.ext.toNat∧x=incOf F r lost (v,s)∧(if lost=true then lostP F r (v,s)=true else lostP F r (v,s)=false∧awayP F r (v,s)=true):=by
 unfold incL at hx
 obtain⟨⟨v,s⟩,hk,h⟩:=List.mem_filterMap.1 hx
 obtain⟨hv,hs⟩:=keysTo_mem hk
 by_cases h1:lostP F r (v,s)=true
 ·rw[if_pos h1] at h
  injection h with h
  exact⟨v,s,true,hv,hs,h.symm,by rw[if_pos rfl];exact h1⟩
 ·rw[if_neg h1] at h
  by_cases h2:awayP F r (v,s)=true
  ·rw[if_pos h2] at h
   injection h with h
   exact⟨v,s,false,hv,hs,h.symm,by rw[if_neg (by decide)];exact⟨by simpa using h1,h2⟩⟩
  ·rw[if_neg h2] at h;cases h
section
variable {N : Nat} {F : FltM} (hok : FleetOk N F) {r : Re}
include hok
theorem inc_one(hp:r.plat.length≤F.dves.length) {x:Inc} (hx:x∈incL F r F.ext.toNat F.vols.length 0):oneB F x=true∧x.causes.length≤4:=by
 obtain⟨v,s,lost,hv,hs,rfl,hc⟩:=inc_mem hx
 obtain⟨k1,k2,k3,-,-⟩:=kmq_ok hok hv
 obtain⟨n,hn⟩:∃n:Nat,kOf F v+mOf F v=(n:Int):=⟨(kOf F v+mOf F v).toNat,by omega⟩
 have he:=hok.ext
 have hcl:(incOf F r lost (v,s)).causes=causR r (v:Int) (s:Int) n:=by
  unfold incOf causR
  simp only
  rw[hn,Int.toNat_natCast]
 have hlen:(causR r (v:Int) (s:Int) n).length=n:=by unfold causR;simp
 obtain⟨e1,e2⟩:=causR_sum r (v:Int) (s:Int) n
 have hca:=cnt_all r v s n (by omega)
 have hcu:=cnt_up r v s n (by omega)
 refine⟨?_,by rw[hcl,hlen];omega⟩
 unfold oneB
 rw[hcl]
 show(isStr F.vols.length F.ext (v:Int) (s:Int)&&(decide (kOf F v=kOf F ((v:Int).toNat))&&((causR r (v:Int) (s:Int) n).all (cauOk F.dves.length)&&finB (kOf F ((v:Int).toNat)) (mOf F ((v:Int).toNat)) (kOf F v) lost (causR r (v:Int) (s:Int) n))))=true
 rw[Int.toNat_natCast,decide_eq_true rfl,(isStr_iff F.vols.length F.ext (v:Int) (s:Int)).2 (by omega),Bool.true_and,Bool.true_and,Bool.and_eq_true]
 refine⟨?_,?_⟩
 ·rw[List.all_eq_true]
  intro c hc2
  unfold causR at hc2
  obtain⟨i,-,rfl⟩:=List.mem_map.1 hc2
  exact cause_ok hp _ _ _
 ·unfold finB
  rw[hlen,hn,decide_eq_true rfl,Bool.true_and,Bool.and_eq_true,decide_eq_true_eq,beq_iff_eq]
  have hle:=sumA_bd (causR r (v:Int) (s:Int) n)
  cases lost with
  | true =>
   rw[if_pos rfl] at hc
   unfold lostP keyP condR at hc
   simp only[if_true,Bool.and_eq_true,decide_eq_true_eq] at hc
   rw[hn,hca] at hc
   refine⟨by omega,?_⟩
   rw[e2]
   exact(decide_eq_true (by omega)).symm
  | false =>
   rw[if_neg (by decide)] at hc
   have h2:=hc.2
   unfold awayP keyP condR at h2
   simp only[Bool.false_eq_true,if_false,Bool.and_eq_true,Bool.not_eq_true',decide_eq_true_eq,decide_eq_false_iff_not] at h2
   rw[hn,hca,hcu] at h2
   refine⟨by omega,?_⟩
   rw[e2]
   exact(decide_eq_false (by omega)).symm
theorem expl_ok:validB F (expl F r)=true∧(∀x∈expl F r,x.causes.length≤4)∧(expl F r).length≤F.vols.length * F.ext.toNat:=by
 unfold expl
 by_cases hx:r.plat.length≤F.dves.length∧r.on.length≤F.dves.length
 ·rw[if_pos hx]
  refine⟨valid_hit fun i hi=>?_,fun x hm=>(inc_one hok hx.1 hm).2,by have:=incL_len F r F.ext.toNat F.vols.length 0;omega⟩
  unfold okAt
  rw[Bool.and_eq_true]
  refine⟨by rw[getBang hi];exact(inc_one hok hx.1 (List.getElem_mem hi)).1,?_⟩
  unfold ordAt
  by_cases h0:i=0
  ·rw[decide_eq_true h0];rfl
  ·rw[decide_eq_false h0,Bool.false_or,getBang (show i - 1<(incL F r F.ext.toNat F.vols.length 0).length by omega),getBang hi]
   have:=List.pairwise_iff_getElem.1 (incL_rise F r F.ext.toNat F.vols.length 0 (Nat.zero_le _)) (i - 1) i (by omega) hi (by omega)
   unfold incLtB
   exact decide_eq_true this
 ·rw[if_neg hx]
  exact⟨rfl,fun x h=>(by cases h),by simp⟩
theorem fmt_len(hN:N≤12) {L:List Inc} (hv:∀x∈L,oneB F x=true) (hc:∀x∈L,x.causes.length≤90):(fmtT F L).length≤L.length * (31+90 * 21):=by
 have hl:∀(l:List Cau) (i:Nat),i+l.length≤100→(∀c∈l,(dnOf F c.drive.toNat).size≤3)→(linesT F i l).length≤l.length * 21:=by
  intro l
  induction l with
  | nil=>intro i _ _;simp[linesT]
  | cons c l ih =>
   intro i hi hd
   rw[List.length_cons] at hi
   have h1:=lineL_len i c.state (dnOf F c.drive.toNat) (by omega) (hd c (List.mem_cons_self ..))
   have h2:=ih (i+1) (by omega) (fun d hd2=>hd d (List.mem_cons_of_mem _ hd2))
   rw[linesT,List.length_append,List.length_cons,List.length_cons]
   omega
 induction L with
 | nil=>simp[fmtT]
 | cons x L ih =>
  have h1:=ih (fun y hy=>hv y (List.mem_cons_of_mem _ hy)) (fun y hy=>hc y (List.mem_cons_of_mem _ hy))
  have h2:=one_parts (hv x (List.mem_cons_self ..))
  have h3:=hc x (List.mem_cons_self ..)
  rw[isStr_iff] at h2
  obtain⟨⟨hs1,hs2⟩,hnd,-,-⟩:=h2
  have hno:=hok.volN
  have he:=hok.ext
  have hvl:x.vol.toNat<F.vols.length:=by omega
  obtain⟨k1,-,-,-,-⟩:=kmq_ok hok hvl
  have hnm:(nmOf F x.vol.toNat).size≤3:=by
   unfold nmOf
   rw[List.getElem?_eq_getElem hvl]
   obtain⟨-,h,-⟩:=hok.vols _ _ (List.getElem?_eq_getElem hvl)
   show(F.vols[x.vol.toNat]).name.size≤3
   rw[h];exact Nat.le_refl 3
  have h4:=headL_len x.lost (nmOf F x.vol.toNat) x.stripe.toNat x.need.toNat (by omega) (by omega) hnm
  have h5:=hl x.causes 0 (by omega) (fun c _=>dn_len hok c.drive.toNat)
  have e:fmtT F (x :: L)=incT F x++fmtT F L:=rfl
  have e2:(incT F x).length=(headL x.lost (nmOf F x.vol.toNat) x.stripe.toNat x.need.toNat).length+((linesT F 0 x.causes).length+1):=by unfold incT;rw[List.length_append,List.length_cons]
  rw[e,List.length_append,e2,List.length_cons]
  have:(L.length+1) * (31+90 * 21)=L.length * (31+90 * 21)+(31+90 * 21):=Nat.succ_mul _ _
  omega
end
end Go.Proofs.YtcfkllnpkmebpaaGreatDoor

namespace Go.Proofs.YtcfkllnpkmebpaaGreatDoor
open Go.RowKit
set_option linter.unusedVariables false
set_option linter.unusedSimpArgs false
theorem fmt_ge(F:FltM):∀L:List Inc,L.length≤(fmtT F L).length
 | []=>Nat.zero_le _
 | x :: L=>by
  have h:=fmt_ge F L
  unfold fmtT at h ⊢
  rw[List.flatMap_cons,List.length_append,List.length_cons]
  have:1≤(incT F x).length:=by unfold incT;simp;omega
  omega
theorem back_caus{N:Nat} {F:FltM} (hok:FleetOk N F) {L:List Inc} (hv:validB F L=true):∀x∈L,x.causes.length≤4:=fun x hx=>by
 obtain⟨h1,-,-,h4⟩:=one_parts (all_ok hv x hx)
 rw[isStr_iff] at h1
 have h:=fin_len h4
 have:=kmq_ok hok (v:=x.vol.toNat) (by omega)
 omega
theorem made_short{F:FltM} (hok:FleetOk 2 F) {r:Re}:(expl F r).length≤4∧(fmtT F (expl F r)).length≤10000:=by
 obtain⟨h1,h2,h3⟩:=expl_ok hok (r:=r)
 have hv:=hok.volN
 have he:=hok.ext
 have h4:F.vols.length * F.ext.toNat≤2 * 2:=Nat.mul_le_mul hv (by omega)
 have h5:=fmt_len hok (by omega) (fun x hx=>all_ok h1 x hx) (fun x hx=>by have:=h2 x hx;omega)
 have h6:(expl F r).length * (31+90 * 21)≤4 * (31+90 * 21):=Nat.mul_le_mul (by omega) (Nat.le_refl _)
 omega
theorem back_any(HMade:∀(vt:Value) (xs:List Int) (w:World) (R:Nat→Prop),IntS w R vt xs→(∀b,R b→b<w.heap.size)→Calls Tryz.prog 11 #[vt] w (MadePost w)) (vl:Value) (xs:List Int) (s:ByteArray) (w:World) (hl:IntS w (Bl w.heap.size) vl xs) :
  Calls Tryz.prog 8 #[vl,.string s] w fun e w'=>e=.returned (.bool true)∧Below w.heap.size w w':=by
 have HAW:=zh (fun w1=>awake44_any w1)
 have HMD:=zh HMade
 obtain⟨Al,nl,cl,rfl⟩:=hl.form3
 have HL:=zh hl
 clear hl HMade
 go_enter Tryz.func8,Tryz.ntmps8
 by_cases hs:200<s.size
 ·have t1:decide (200<(s.size:Int))=true:=decide_eq_true (by omega)
  clear hs
  go_wp2_with fail
  refine(HAW.out _).mono ?_
  rintro e w2 ⟨rfl,hb2⟩
  have HB2:=zh hb2
  clear hb2
  go_wp2_with fail
  go_ret
  exact⟨rfl,HB2.out⟩
 ·have t1:decide (200<(s.size:Int))=false:=decide_eq_false (by omega)
  have HS:=zh (show s.size≤200 by omega)
  clear hs
  go_wp2_with fail
  refine(HMD.out _ xs w _ HL.out (fun b h=>h)).mono ?_
  clear t1
  rintro e w2 ⟨fl,fm,fd,fv,fp,fo,F,zp,zo,za,r,gM,n,f,st,rfl,hfs,hok,hre,hmo,hmp,hdo,hgM,hb2⟩
  obtain⟨A1,c1,hf1,-⟩:=SlS.form hfs.1
  obtain⟨A2,c2,hf2,-⟩:=SlS.form hfs.2.1
  obtain⟨A3,c3,hf3,-⟩:=SlS.form hfs.2.2.1
  obtain⟨A4,c4,hf4,-⟩:=SlS.form hfs.2.2.2.1
  obtain⟨A5,c5,hf5,-⟩:=SlS.form hfs.2.2.2.2.1
  obtain⟨A6,c6,hf6,-⟩:=SlS.form hfs.2.2.2.2.2
  obtain⟨B1,d1,hz1,-⟩:=SlS.form hre.1
  obtain⟨B2,d2,hz2,-⟩:=SlS.form hre.2.1
  obtain⟨B3,d3,hz3,-⟩:=SlS.form hre.2.2
  obtain⟨n1,hn1⟩:=zx F.laws.length
  obtain⟨n2,hn2⟩:=zx F.models.length
  obtain⟨n3,hn3⟩:=zx F.doms.length
  obtain⟨n4,hn4⟩:=zx F.dves.length
  obtain⟨n5,hn5⟩:=zx F.pols.length
  obtain⟨n6,hn6⟩:=zx F.vols.length
  obtain⟨m1,hm1⟩:=zx r.plat.length
  obtain⟨m2,hm2⟩:=zx r.on.length
  obtain⟨m3,hm3⟩:=zx r.acks.length
  rw[←hn1] at hf1
  rw[←hn2] at hf2
  rw[←hn3] at hf3
  rw[←hn4] at hf4
  rw[←hn5] at hf5
  rw[←hn6] at hf6
  rw[←hm1] at hz1
  rw[←hm2] at hz2
  rw[←hm3] at hz3
  have HFS2:=zh (hfs.mono Fr.bl)
  have HOK:=zh hok
  have HRE:=zh (hre.mono Fr.bl)
  have HPL:=zh (show r.plat.length≤9 from by rw[hmo.plat];have:=hok.dveN;omega)
  have HLEN:=zh hmo.len
  have hak:r.acks.length≤1000000:=by
   have h1:=congrArg List.length hmo.keys
   rw[List.length_map] at h1
   have h2:=keysTo_le F.ext.toNat F.vols.length 0 (by have:=hok.ext;omega) hok.volN (by omega)
   rw[hmo.acks,List.length_map];omega
  have HAK:=zh hak
  have HB2:=zh hb2
  obtain⟨EX,hEX⟩:=zx F.ext
  rw[←hEX]
  have HEX:=zh hEX
  clear hfs hok hre hmo hmp hdo hgM hb2 hEX hak hn1 hn2 hn3 hn4 hn5 hn6 hm1 hm2 hm3
  rw[hf1,hf2,hf3,hf4,hf5,hf6,hz1,hz2,hz3]
  have HEF:=zh (And.intro hf1 (And.intro hf2 (And.intro hf3 (And.intro hf4 (And.intro hf5 hf6)))))
  have HEZ:=zh (And.intro hz1 (And.intro hz2 hz3))
  clear hf1 hf2 hf3 hf4 hf5 hf6 hz1 hz2 hz3
  go_upto_region 4 with fail
  rw[←HEF.out.1,←HEF.out.2.1,←HEF.out.2.2.1,←HEF.out.2.2.2.1,←HEF.out.2.2.2.2.1,←HEF.out.2.2.2.2.2,←HEZ.out.1,←HEZ.out.2.1,←HEZ.out.2.2]
  clear HEF HEZ
  obtain⟨g,hg⟩:=zx w2.heap.size
  obtain⟨p,hp⟩:=zx (w2.heap.size+1)
  obtain⟨W4,hW4⟩:=zx (((w2.alloc (.cells #[.int .i64 EX,fl,fm,fd,fv,fp,fo] 35)).alloc (.cells #[zp,zo,za] 40)))
  rw[←hW4,←hp,←hg]
  have hsz4:W4.heap.size=w2.heap.size+1+1:=by rw[hW4];simp
  have hb4:Below w2.heap.size w2 W4:=by rw[hW4];exact((Below.refl _ _).alloc (Nat.le_refl _) _).alloc (by simp) _
  have hbR:W4.heap[p]?=some (.cells #[zp,zo,za] 40 (0,0)):=by
   rw[hW4];exact heap_alloc_at _ _ _ (by rw[hp];simp)
  have hbF:W4.heap[g]?=some (.cells #[.int .i64 EX,fl,fm,fd,fv,fp,fo] 35 (0,0)):=by
   rw[hW4,hg];exact(Below.heap_alloc _ _ _ (by simp)).trans (heap_alloc_new w2 _)
  obtain⟨k0,k1,k2,k3,k4,k5,k6⟩:=cells7 hbF
  obtain⟨z0,z1,z2,-⟩:=cells3 hbR
  have hgl:g<W4.heap.size:=(Array.getElem?_eq_some_iff.1 hbF).1
  have HB4:=zh (HB2.out.trans (hb4.mono HB2.out.size))
  have HFS:=zh (HFS2.out.below hb4)
  have HM4:=zh (HRE.out.below hb4)
  have HC:=zh (fun(w':World) (hb:Below W4.heap.size W4 w')=>cells7 ((hb.block g hgl).trans hbF))
  have hp24:r.plat.length≤24:=by have:=HPL.out;omega
  have hEX:=HEX.out
  have hp1:=explain_all 2 (by omega) fl fm fd fv fp fo zp zo za F r W4 HFS.out HOK.out HM4.out hp24 HLEN.out HAK.out
  rw[←hEX] at hp1
  have HP1:=zh hp1
  have hfm:=fun(w':World) (hb:Below W4.heap.size W4 w') (vL:Value) (L:List Inc) (hL:SlS 5 IncK w' (Bl w'.heap.size) vL L) (h1:L.length≤1000) (h2:∀x∈L,x.causes.length≤1000)=>iformat_any 2 (by omega) fl fm fd fv fp fo vL F L w' (HFS.out.below hb) HOK.out hL h1 h2
  rw[←hEX] at hfm
  have HFM:=zh hfm
  have hpa:=fun(w':World) (hb:Below W4.heap.size W4 w') (S:ByteArray) (hS:S.size≤100000)=>iparse_any 2 (by omega) fl fm fd fv fp fo F S w' (HFS.out.below hb) HOK.out hS
  rw[←hEX] at hpa
  have HPA:=zh hpa
  obtain⟨hv1,hc1,-⟩:=expl_ok HOK.out (r:=r)
  obtain⟨hn1,ht1⟩:=made_short HOK.out (r:=r)
  have hkk:∀v,v<F.vols.length→kOf F v<100:=fun v hv=>by have:=kmq_ok HOK.out hv;omega
  have hrt:=pars_fmt HOK.out (by omega) hkk hv1 (fun x hx=>by have:=hc1 x hx;omega)
  obtain⟨E1,hE1⟩:=zx (expl F r)
  rw[←hE1] at HP1 hv1 hc1 hn1 ht1 hrt
  obtain⟨T,hT⟩:∃t:ByteArray,t=⟨(fmtT F E1).toArray⟩:=⟨_,rfl⟩
  have htl:T.data.toList=fmtT F E1:=by rw[hT]
  have hts:T.size≤10000:=by rw[hT];show(fmtT F E1).toArray.size≤10000;simpa using ht1
  have hfr:fmtR F E1=(fmtT F E1,0):=by unfold fmtR;rw[if_pos hv1]
  have HT:=zh (And.intro hT (And.intro htl (And.intro hts hfr)))
  have HRT:=zh hrt
  have HE1:=zh (And.intro hn1 hc1)
  clear hp24 hE1 hv1 hc1 hn1 ht1 hkk hrt hT htl hts hfr hp1 hfm hpa hgl hW4 hg hp hsz4 hb4 hbR hbF hEX
  go_wp2_with fail
  refine HP1.out.mono ?_
  rintro e w5 ⟨u5,rfl,hO5,hb5⟩
  obtain⟨A5,c5,hu5,-,-⟩:=hO5.form
  subst hu5
  have HB5:=zh hb5
  have HO5:=zh hO5
  have hfm5:=HFM.out w5 hb5 _ E1 (SlS.mono incK hO5 (fun x hx=>hx.2)) (by have:=HE1.out.1;omega) (fun x hx=>by have:=HE1.out.2 x hx;omega)
  rw[HT.out.2.2.2] at hfm5
  simp only[←HT.out.1] at hfm5
  have HFM5:=zh hfm5
  obtain⟨L1,hL1⟩:=zx E1.length
  rw[←hL1] at HFM5
  rw[←hL1]
  have HL1:=zh hL1
  clear k0 k1 k2 k3 k4 k5 k6 z0 z1 z2 hO5 hfm5 hL1
  obtain⟨k0,k1,k2,k3,k4,k5,k6⟩:=HC.out w5 hb5
  clear hb5
  go_wp2_with fail
  refine HFM5.out.mono ?_
  rintro e w6 ⟨rfl,hb6⟩
  have HB6:=zh (HB5.out.trans (hb6.mono HB5.out.size))
  have HB56:=zh hb6
  have hpa6:=HPA.out w6 HB6.out T (by have:=HT.out.2.2.1;omega)
  rw[HT.out.2.1,HRT.out] at hpa6
  have HPA6:=zh hpa6
  clear k0 k1 k2 k3 k4 k5 k6 hb6 hpa6
  obtain⟨k0,k1,k2,k3,k4,k5,k6⟩:=HC.out w6 HB6.out
  go_wp2_with fail
  refine HPA6.out.mono ?_
  rintro e w7 ⟨⟨u7,rfl,hO7⟩,hb7⟩
  have HB7:=zh (HB6.out.trans (hb7.mono HB6.out.size))
  have hO57:=SlS.mono (R':=Bl w7.heap.size) incK (SlS.keep incK HO5.out (fun x hx=>(hb7.block x (Nat.lt_of_lt_of_le hx.2 HB56.out.size)).trans (HB56.out.block x hx.2))) (fun x hx=>Nat.lt_of_lt_of_le hx.2 (Nat.le_trans HB56.out.size hb7.size))
  rw[←HL1.out] at hO57
  have HSA:=zh (sameincs_any _ _ E1 _ _ w7 hO57 hO7)
  clear k0 k1 k2 k3 k4 k5 k6 hb7 hO7 hO57
  go_wp2_with fail
  refine HSA.out.mono ?_
  rintro e w8 ⟨rfl,n8,hw8⟩
  have hb8:Below w7.heap.size w7 w8:=by rw[hw8];exact Below.drewN' (Below.refl _ _) n8
  have HB8:=zh (HB7.out.trans (hb8.mono HB7.out.size))
  obtain⟨PR,hPR⟩:=zx (parsR F [] s.data.toList 1)
  have hpa8:=HPA.out w8 HB8.out s (by have:=HS.out;omega)
  have hbk:=fun h=>pars_back HOK.out (by omega) (fun v hv=>by have:=kmq_ok HOK.out hv;omega) (s:=s.data.toList) (n:=1) h
  rw[←hPR] at hpa8 hbk
  obtain⟨Z,er,ln⟩:=PR
  simp only at hpa8 hbk
  have HPA8:=zh hpa8
  have HBK:=zh hbk
  clear hw8 hb8 hPR hpa8 hbk
  obtain⟨k0,k1,k2,k3,k4,k5,k6⟩:=HC.out w8 HB8.out
  go_wp2_with fail
  refine HPA8.out.mono ?_
  rintro e w9 ⟨⟨u9,rfl,hO9⟩,hb9⟩
  have HB9:=zh (HB8.out.trans (hb9.mono HB8.out.size))
  clear k0 k1 k2 k3 k4 k5 k6
  by_cases he:er=0
  ·subst he
   obtain⟨hvz,hfz⟩:=HBK.out rfl
   have hzl:=fmt_ge F Z
   have hsl:s.data.toList.length=s.size:=Array.length_toList
   rw[hfz,hsl] at hzl
   have hcz:=back_caus HOK.out hvz
   obtain⟨A9,c9,hu9,-,-⟩:=hO9.form
   subst hu9
   have hfm9:=HFM.out w9 HB9.out _ Z (SlS.mono incK hO9 (fun x hx=>hx.2)) (by have:=HS.out;omega) (fun x hx=>by have:=hcz x hx;omega)
   rw[show fmtR F Z=(s.data.toList,0) by unfold fmtR;rw[if_pos hvz,hfz]] at hfm9
   have hss:(⟨s.data.toList.toArray⟩:ByteArray)=s:=by cases s;simp
   simp only[hss] at hfm9
   have HFM9:=zh hfm9
   clear hvz hfz hzl hsl hcz hO9 hb9 hfm9 hss
   obtain⟨ZL,hZL⟩:=zx Z.length
   rw[←hZL] at HFM9
   rw[←hZL]
   clear hZL
   obtain⟨k0,k1,k2,k3,k4,k5,k6⟩:=HC.out w9 HB9.out
   go_wp2_with fail
   refine HFM9.out.mono ?_
   rintro e w10 ⟨rfl,hb10⟩
   have HB10:=zh (HB9.out.trans (hb10.mono HB9.out.size))
   clear k0 k1 k2 k3 k4 k5 k6 hb10
   go_wp2_with fail
   refine(HAW.out _).mono ?_
   rintro e w11 ⟨rfl,hb11⟩
   have HB11:=zh (HB10.out.trans (hb11.mono HB10.out.size))
   clear hb11
   go_wp2_with fail
   go_ret
   exact⟨by simp,HB4.out.trans (HB11.out.mono HB4.out.size)⟩
  ·have b1:(er != 0)=true:=by simpa using he
   clear he hO9 hb9
   go_wp2_with fail
   refine(HAW.out _).mono ?_
   rintro e w11 ⟨rfl,hb11⟩
   have HB11:=zh (HB9.out.trans (hb11.mono HB9.out.size))
   clear hb11
   go_wp2_with fail
   go_ret
   exact⟨rfl,HB4.out.trans (HB11.out.mono HB4.out.size)⟩
end Go.Proofs.YtcfkllnpkmebpaaGreatDoor

namespace Go.Proofs.YtcfkllnpkmebpaaGreatDoor
open Go.RowKit Go.ChangeShapes Go.WideShapes Go.ChangeAt Go.Deep Go.Joins
set_option linter.unusedVariables false
set_option linter.unusedSimpArgs false
theorem wf_i64{x:Int} (h:(Lit.int .i64 x).wf=true):I64 x:=by
 simpa[Lit.wf,IntKind.min,IntKind.max,IntKind.signed,IntKind.bits,I64] using h
section
variable {H : Type} {enc : TypeId × Value → H} {P : Program} {W : World}
theorem open_intS{t e:TypeId} {spare:Nat→Bool} {held:Bool} {base fuel:Nat} {v:Value} {x:DataW H×List MemPlace} (ht:P.underlying t=some (.slice e)) (he:P.underlying e=some (.int .i64)) (hc:P.cellsOf e=1)
  (h:DataW.trod enc P W base spare held fuel t [v]=some x):∃xs,IntS W (Bl W.heap.size) v xs:=by
 rcases open_ints ht he hc h with ⟨hcs,_⟩ | ⟨a,len,cap,zs,hcs,_,hl,hm,hz,_,hcell,hwz⟩
 ·simp at hcs;subst hcs
  exact⟨[],IntS.nil _ _ _⟩
 ·simp at hcs;subst hcs
  have hzl:len≤zs.length:=by rw[hz];split <;> omega
  have hxl:(zs.take len).length=len:=by rw[List.length_take];omega
  refine⟨zs.take len,⟨some a,cap,by rw[hxl],by rw[hxl];exact hl,by rw[hxl];omega,fun hn=>?_⟩,fun y hy=>wf_i64 (hwz y (List.mem_of_mem_take hy))⟩
  rw[hxl] at hn
  obtain⟨b,off,spot⟩:=a
  have g0:=hcell 0 (by omega)
  have hspot:spot=none:=by simpa[Addr.add] using World.cell?_spot g0
  subst hspot
  have hb:=block_lt_of_cell g0
  refine⟨b,off,rfl,by simpa[Addr.add,Bl] using hb,fun k y hk=>?_⟩
  have hkl:k<(zs.take len).length:=(List.getElem?_eq_some_iff.1 hk).1
  rw[hxl] at hkl
  have g:=hcell k (by omega)
  have e1:(⟨b,off,none⟩:Addr).add k=⟨b,off+k,none⟩:=by unfold Addr.add;split <;> simp_all
  rw[e1] at g
  rw[g]
  rw[List.getElem?_take_of_lt hkl] at hk
  rw[List.getD,hk];rfl
end
end Go.Proofs.YtcfkllnpkmebpaaGreatDoor

namespace Go.Proofs.YtcfkllnpkmebpaaGreatDoor
open Go.RowKit Go.ChangeShapes Go.WideShapes Go.ChangeAt Go.Deep Go.Joins
set_option linter.unusedVariables false
set_option linter.unusedSimpArgs false
section
variable {H : Type} {enc : TypeId × Value → H} {P : Program} {W : World}
end
end Go.Proofs.YtcfkllnpkmebpaaGreatDoor
