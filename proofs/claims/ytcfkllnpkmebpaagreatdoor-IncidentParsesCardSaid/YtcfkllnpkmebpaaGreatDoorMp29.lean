/- What Explain returns is valid and short: plain. -/
import Derived.Test.YtcfkllnpkmebpaaGreatDoorMp28
import Derived.Test.YtcfkllnpkmebpaaGreatDoorMp23
import Derived.Test.YtcfkllnpkmebpaaGreatDoorMp01
import Derived.Deep.CutRange
import Derived.Test.YtcfkllnpkmebpaaGreatDoorMp02
import Derived.Test.YtcfkllnpkmebpaaGreatDoorMp20
import Derived.Test.YtcfkllnpkmebpaaGreatDoorMp26
import Derived.ProofKit
import Derived.OpenShut
import Derived.Lib.SmallJoins
import Derived.Deep.Slices
import Derived.Deep.Fields
import Derived.ChangeSame
import Derived.Test.YtcfkllnpkmebpaaGreatDoorMp03
set_option linter.unusedSectionVars false
set_option maxRecDepth 100000
set_option maxHeartbeats 12800000
namespace Go.Proofs.YtcfkllnpkmebpaaGreatDoor
open Go.RowKit
set_option linter.unusedVariables false
set_option linter.unusedSimpArgs false
theorem cause_cases(r:Re) (v s:Int) (i:Nat):(upF r v s [] i=true∧anyF r v s i=true∧(causeOf r v (i:Int) s).state=1)∨(upF r v s [] i=false∧anyF r v s i=true∧(causeOf r v (i:Int) s).state=2)∨(upF r v s [] i=false∧anyF r v s i=false∧((causeOf r v (i:Int) s).state=3∨(causeOf r v (i:Int) s).state=4)):=by
 unfold causeOf
 cases h1:(pieces r).find? (srcB r v (i:Int) s true) with
 | some x =>
  left
  have hx:=List.mem_of_find?_eq_some h1;have hb:=List.find?_some h1;unfold srcB at hb;rw[Bool.and_eq_true] at hb;simp only[Bool.not_true,Bool.false_or] at hb;exact⟨upF_iff.2 ⟨x,hx,hb.1,.inl hb.2⟩,anyF_iff.2 ⟨x,hx,hb.1⟩,rfl⟩
 | none =>
  right
  rw[List.find?_eq_none] at h1
  have hu:upF r v s [] i=false:=by
   rw[Bool.eq_false_iff];intro h;obtain⟨x,hx,hb,ho⟩:=upF_iff.1 h;refine h1 x hx ?_;unfold srcB;rcases ho with ho | ho
   ·rw[hb,ho];rfl
   ·cases ho
  cases h2:(pieces r).find? (srcB r v (i:Int) s false) with
  | some x =>
   left
   have hx:=List.mem_of_find?_eq_some h2;have hb:=List.find?_some h2;unfold srcB at hb;rw[Bool.and_eq_true] at hb;exact⟨hu,anyF_iff.2 ⟨x,hx,hb.1⟩,rfl⟩
  | none =>
   right
   rw[List.find?_eq_none] at h2;refine⟨hu,?_,?_⟩
   ·rw[Bool.eq_false_iff];intro h;obtain⟨x,hx,hb⟩:=anyF_iff.1 h;refine h2 x hx ?_;unfold srcB;rw[hb];rfl
   ·dsimp only
    cases oldD r v (i:Int) s with
    | some d=>exact .inl rfl
    | none=>exact .inr rfl
def causR(r:Re) (v s:Int) (n:Nat):List Cau:=(List.range n).map fun i:Nat=>causeOf r v (i:Int) s
theorem causR_succ(r:Re) (v s:Int) (n:Nat):causR r v s (n+1)=causR r v s n++[causeOf r v (n:Int) s]:=by
 unfold causR;rw[List.range_succ,List.map_append]
 rfl
theorem causR_sum(r:Re) (v s:Int):∀n:Nat,sumG (causR r v s n)=(cntS r v s n []:Int)∧sumG (causR r v s n)+sumA (causR r v s n)=(((List.range n).filter (anyF r v s)).length:Int)
 | 0=>⟨rfl,rfl⟩
 | n+1=>by
  obtain⟨h1,h2⟩:=causR_sum r v s n
  have e1:cntS r v s (n+1) []=cntS r v s n []+(if upF r v s [] n=true then 1 else 0):=by
   unfold cntS;rw[List.range_succ,List.filter_append,List.length_append]
   congr 1
   by_cases h:upF r v s [] n=true <;> simp[h]
  have e2:((List.range (n+1)).filter (anyF r v s)).length=((List.range n).filter (anyF r v s)).length+(if anyF r v s n=true then 1 else 0):=by
   rw[List.range_succ,List.filter_append,List.length_append]
   congr 1
   by_cases h:anyF r v s n=true <;> simp[h]
  rw[causR_succ,sumG_snoc,sumA_snoc,e1,e2];rcases cause_cases r v s n with ⟨a,b,c⟩ | ⟨a,b,c⟩ | ⟨a,b,c | c⟩ <;> rw[a,b,c] <;> simp[addG,addA] <;> omega
theorem cause_ok{r:Re} {ND:Nat} (hp:r.plat.length≤ND) (v f s:Int):cauOk ND (causeOf r v f s)=true:=by
 unfold causeOf
 cases h1:(pieces r).find? (srcB r v f s true) with
 | some x =>
  have:=pieces_lt r x (List.mem_of_find?_eq_some h1);unfold cauOk;simp;omega
 | none =>
  dsimp only
  cases h2:(pieces r).find? (srcB r v f s false) with
  | some x =>
   have:=pieces_lt r x (List.mem_of_find?_eq_some h2);unfold cauOk;simp;omega
  | none =>
   dsimp only
   cases h3:oldD r v f s with
   | some d =>
    unfold oldD at h3;have:=(List.findIdx?_eq_some_iff_getElem.1 h3).1;unfold cauOk;simp;omega
   | none=>rfl
theorem inc_mem{F:FltM} {r:Re} {x:Inc} (hx:x∈incL F r F.ext.toNat F.vols.length 0):∃v s lost,v<F.vols.length∧s<F.ext.toNat∧x=incOf F r lost (v,s)∧(if lost=true then lostP F r (v,s)=true else lostP F r (v,s)=false∧awayP F r (v,s)=true):=by
 unfold incL at hx;obtain⟨⟨v,s⟩,hk,h⟩:=List.mem_filterMap.1 hx;obtain⟨hv,hs⟩:=keysTo_mem hk;by_cases h1:lostP F r (v,s)=true
 ·rw[if_pos h1] at h;injection h with h;exact⟨v,s,true,hv,hs,h.symm,by rw[if_pos rfl];exact h1⟩
 ·rw[if_neg h1] at h;by_cases h2:awayP F r (v,s)=true
  ·rw[if_pos h2] at h;injection h with h;exact⟨v,s,false,hv,hs,h.symm,by rw[if_neg (by decide)];exact⟨by simpa using h1,h2⟩⟩
  ·rw[if_neg h2] at h;cases h
section
variable {N : Nat} {F : FltM} (hok : FleetOk N F) {r : Re}
include hok
theorem inc_one(hp:r.plat.length≤F.dves.length) {x:Inc} (hx:x∈incL F r F.ext.toNat F.vols.length 0):oneB F x=true∧x.causes.length≤4:=by
 obtain⟨v,s,lost,hv,hs,rfl,hc⟩:=inc_mem hx;obtain⟨k1,k2,k3,-,-⟩:=kmq_ok hok hv;obtain⟨n,hn⟩:∃n:Nat,kOf F v+mOf F v=(n:Int):=⟨(kOf F v+mOf F v).toNat,by omega⟩;have he:=hok.ext
 have hcl:(incOf F r lost (v,s)).causes=causR r (v:Int) (s:Int) n:=by
  unfold incOf causR;simp only;rw[hn,Int.toNat_natCast]
 have hlen:(causR r (v:Int) (s:Int) n).length=n:=by unfold causR;simp
 obtain⟨e1,e2⟩:=causR_sum r (v:Int) (s:Int) n;have hca:=cnt_all r v s n (by omega);have hcu:=cnt_up r v s n (by omega);refine⟨?_,by rw[hcl,hlen];omega⟩;unfold oneB;rw[hcl];show(isStr F.vols.length F.ext (v:Int) (s:Int)&&(decide (kOf F v=kOf F ((v:Int).toNat))&&((causR r (v:Int) (s:Int) n).all (cauOk F.dves.length)&&finB (kOf F ((v:Int).toNat)) (mOf F ((v:Int).toNat)) (kOf F v) lost (causR r (v:Int) (s:Int) n))))=true;rw[Int.toNat_natCast,decide_eq_true rfl,(isStr_iff F.vols.length F.ext (v:Int) (s:Int)).2 (by omega),Bool.true_and,Bool.true_and,Bool.and_eq_true];refine⟨?_,?_⟩
 ·rw[List.all_eq_true];intro c hc2;unfold causR at hc2;obtain⟨i,-,rfl⟩:=List.mem_map.1 hc2;exact cause_ok hp _ _ _
 ·unfold finB;rw[hlen,hn,decide_eq_true rfl,Bool.true_and,Bool.and_eq_true,decide_eq_true_eq,beq_iff_eq];have hle:=sumA_bd (causR r (v:Int) (s:Int) n)
  cases lost with
  | true =>
   rw[if_pos rfl] at hc;unfold lostP keyP condR at hc;simp only[if_true,Bool.and_eq_true,decide_eq_true_eq] at hc;rw[hn,hca] at hc;refine⟨by omega,?_⟩;rw[e2];exact(decide_eq_true (by omega)).symm
  | false =>
   rw[if_neg (by decide)] at hc;have h2:=hc.2;unfold awayP keyP condR at h2;simp only[Bool.false_eq_true,if_false,Bool.and_eq_true,Bool.not_eq_true',decide_eq_true_eq,decide_eq_false_iff_not] at h2;rw[hn,hca,hcu] at h2;refine⟨by omega,?_⟩;rw[e2];exact(decide_eq_false (by omega)).symm
theorem expl_ok:validB F (expl F r)=true∧(∀x∈expl F r,x.causes.length≤4)∧(expl F r).length≤F.vols.length * F.ext.toNat:=by
 unfold expl;by_cases hx:r.plat.length≤F.dves.length∧r.on.length≤F.dves.length
 ·rw[if_pos hx];refine⟨valid_hit fun i hi=>?_,fun x hm=>(inc_one hok hx.1 hm).2,by have:=incL_len F r F.ext.toNat F.vols.length 0;omega⟩;unfold okAt;rw[Bool.and_eq_true];refine⟨by rw[getBang hi];exact(inc_one hok hx.1 (List.getElem_mem hi)).1,?_⟩;unfold ordAt;by_cases h0:i=0
  ·rw[decide_eq_true h0];rfl
  ·rw[decide_eq_false h0,Bool.false_or,getBang (show i - 1<(incL F r F.ext.toNat F.vols.length 0).length by omega),getBang hi];have:=List.pairwise_iff_getElem.1 (incL_rise F r F.ext.toNat F.vols.length 0 (Nat.zero_le _)) (i - 1) i (by omega) hi (by omega);unfold incLtB;exact decide_eq_true this
 ·rw[if_neg hx];exact⟨rfl,fun x h=>(by cases h),by simp⟩
theorem fmt_len(hN:N≤12) {L:List Inc} (hv:∀x∈L,oneB F x=true) (hc:∀x∈L,x.causes.length≤90):(fmtT F L).length≤L.length * (31+90 * 21):=by
 have hl:∀(l:List Cau) (i:Nat),i+l.length≤100→(∀c∈l,(dnOf F c.drive.toNat).size≤3)→(linesT F i l).length≤l.length * 21:=by
  intro l
  induction l with
  | nil=>intro i _ _;simp[linesT]
  | cons c l ih =>
   intro i hi hd;rw[List.length_cons] at hi;have h1:=lineL_len i c.state (dnOf F c.drive.toNat) (by omega) (hd c (List.mem_cons_self ..));have h2:=ih (i+1) (by omega) (fun d hd2=>hd d (List.mem_cons_of_mem _ hd2));rw[linesT,List.length_append,List.length_cons,List.length_cons];omega
 induction L with
 | nil=>simp[fmtT]
 | cons x L ih =>
  have h1:=ih (fun y hy=>hv y (List.mem_cons_of_mem _ hy)) (fun y hy=>hc y (List.mem_cons_of_mem _ hy));have h2:=one_parts (hv x (List.mem_cons_self ..));have h3:=hc x (List.mem_cons_self ..);rw[isStr_iff] at h2;obtain⟨⟨hs1,hs2⟩,hnd,-,-⟩:=h2;have hno:=hok.volN;have he:=hok.ext
  have hvl:x.vol.toNat<F.vols.length:=by omega
  obtain⟨k1,-,-,-,-⟩:=kmq_ok hok hvl
  have hnm:(nmOf F x.vol.toNat).size≤3:=by
   unfold nmOf;rw[List.getElem?_eq_getElem hvl];obtain⟨-,h,-⟩:=hok.vols _ _ (List.getElem?_eq_getElem hvl);show(F.vols[x.vol.toNat]).name.size≤3;rw[h];exact Nat.le_refl 3
  have h4:=headL_len x.lost (nmOf F x.vol.toNat) x.stripe.toNat x.need.toNat (by omega) (by omega) hnm;have h5:=hl x.causes 0 (by omega) (fun c _=>dn_len hok c.drive.toNat);have e:fmtT F (x :: L)=incT F x++fmtT F L:=rfl
  have e2:(incT F x).length=(headL x.lost (nmOf F x.vol.toNat) x.stripe.toNat x.need.toNat).length+((linesT F 0 x.causes).length+1):=by unfold incT;rw[List.length_append,List.length_cons]
  rw[e,List.length_append,e2,List.length_cons];have:(L.length+1) * (31+90 * 21)=L.length * (31+90 * 21)+(31+90 * 21):=Nat.succ_mul _ _;omega
end
end Go.Proofs.YtcfkllnpkmebpaaGreatDoor

namespace Go.Proofs.YtcfkllnpkmebpaaGreatDoor
open Go.RowKit
set_option linter.unusedVariables false
set_option linter.unusedSimpArgs false
theorem rexplain_f(N:Nat) (hN:N≤12) (vl vm vd vv vp vo vp0 vo0 va0:Value) (F:FltM) (r:Re) (w:World) (hf:FleetS w (Bl w.heap.size) vl vm vd vv vp vo F) (hok:FleetOk N F) (h:ReS w (Bl w.heap.size) vp0 vo0 va0 r) (hp:r.plat.length≤24) (hl:∀l∈r.plat,l.length≤1000) :
  Calls Tryz.prog 12 #[.agg #[.int .i64 F.ext,vl,vm,vd,vv,vp,vo],.agg #[vp0,vo0,va0]] w fun e w'=>∃u,e=.returned u∧SlS 5 IncK w' (Fr w.heap.size w'.heap.size) u (expl F r)∧Below w.heap.size w w':=by
 unfold expl;by_cases hx:r.plat.length≤F.dves.length∧r.on.length≤F.dves.length
 ·rw[if_pos hx];exact rexplain_in N hN vl vm vd vv vp vo vp0 vo0 va0 F r F.ext.toNat w hf hok h hp hl (by have:=hok.ext;omega) hx.1 hx.2
 ·rw[if_neg hx]
  exact(rexplain_out N hN vl vm vd vv vp vo vp0 vo0 va0 F r w hf hok h (by omega)).mono fun e w' ⟨he,hb⟩=>⟨_,he,Row.nil _ _ _,hb⟩
end Go.Proofs.YtcfkllnpkmebpaaGreatDoor

namespace Go.Proofs.YtcfkllnpkmebpaaGreatDoor
open Go.RowKit
set_option linter.unusedVariables false
set_option linter.unusedSimpArgs false
theorem wf_byte{x:Int} (h:(Lit.int .u8 x).wf=true):0≤x∧x≤255:=by
 simpa[Lit.wf,IntKind.min,IntKind.max,IntKind.signed,IntKind.bits] using h
theorem xor_byte(c:UInt8) (m:Int) (h:0≤m∧m≤255):∃y:UInt8,bits .xor .u8 (c.toNat:Int) m=(y.toNat:Int):=by
 have hc:=c.toNat_lt;have hx:c.toNat ^^^ m.toNat<256:=Nat.xor_lt_two_pow (n:=8) (by omega) (by omega);refine⟨UInt8.ofNat (c.toNat ^^^ m.toNat),?_⟩;rw[u8_xor _ _ (by omega) (by omega) (by omega) (by omega),UInt8.toNat_ofNat',Nat.mod_eq_of_lt (by simpa using hx)];simp
theorem txt_to(T:ByteArray) (K:Nat) (h:K≤T.size):∃X:ByteArray,X.size≤T.size∧∀w',(Instr.slice 9 (.string T) none (some (.int .i64 (K:Int))) none).run Tryz.prog w'=.ok (.string X) w' :=
 ⟨T.extract 0 K,by simp only[ByteArray.size_extract];omega,fun w'=>by
  have:=Go.run_slice_string_h (P:=Tryz.prog) w' 9 T Tryz.underlying9 .i64 (K:Int) (by omega) (by omega)
  simpa using this⟩
theorem txt_from(T:ByteArray) (K:Nat) (h:K≤T.size):∃X:ByteArray,X.size≤T.size∧∀w',(Instr.slice 9 (.string T) (some (.int .i64 (K:Int))) none none).run Tryz.prog w'=.ok (.string X) w' :=
 ⟨T.extract K T.size,by simp only[ByteArray.size_extract];omega,fun w'=>by
  have:=Go.run_slice_string_l (P:=Tryz.prog) w' 9 T Tryz.underlying9 .i64 (K:Int) (by omega) (by omega)
  simpa using this⟩
theorem within_of(x n:Int) (h:1≤n):∃a:Nat,within x n=(a:Int)∧(a:Int)<n:=by
 have:=within_range x n h;exact⟨(within x n).toNat,by omega,by omega⟩
theorem parses_short{F:FltM} (hok:FleetOk 2 F) {r:Re}:(expl F r).length≤4∧(fmtT F (expl F r)).length≤10000:=by
 obtain⟨h1,h2,h3⟩:=expl_ok hok (r:=r);have hv:=hok.volN;have he:=hok.ext;have h4:F.vols.length * F.ext.toNat≤2 * 2:=Nat.mul_le_mul hv (by omega);have h5:=fmt_len hok (by omega) (fun x hx=>all_ok h1 x hx) (fun x hx=>by have:=h2 x hx;omega);have h6:(expl F r).length * (31+90 * 21)≤4 * (31+90 * 21):=Nat.mul_le_mul (by omega) (Nat.le_refl _);omega
theorem iparse_empty(S:ByteArray) (w:World) :
  Calls Tryz.prog 19 #[.agg #[.int .i64 0,.slice none 0 0,.slice none 0 0,.slice none 0 0,.slice none 0 0,.slice none 0 0,.slice none 0 0],.string S] w fun e w'=>e=.returned (.tuple #[.slice none 0 0,.int .i64 1,.int .i64 0])∧Below w.heap.size w w':=by
 obtain⟨W0,hW0⟩:=zx (w.alloc (.cells #[.int .i64 0,.slice none 0 0,.slice none 0 0,.slice none 0 0,.slice none 0 0,.slice none 0 0,.slice none 0 0] 35));obtain⟨z,hz⟩:=zx w.heap.size
 have hb0:Below w.heap.size w W0:=by rw[hW0];exact(Below.refl _ _).alloc (Nat.le_refl _) _
 have hzk:W0.heap[z]?=some (.cells #[.int .i64 0,.slice none 0 0,.slice none 0 0,.slice none 0 0,.slice none 0 0,.slice none 0 0,.slice none 0 0] 35 (0,0)):=by rw[hW0,hz];exact heap_alloc_new w _
 obtain⟨c0,c1,c2,c3,c4,c5,c6⟩:=cells7 hzk;have HV:=zh (fvalidate_empty W0);have HW0:=zh hW0;have HZ:=zh hz;have HB0:=zh hb0;clear hW0 hz hb0 hzk;go_enter Tryz.func19,Tryz.ntmps19;go_upto_region 1 with fail;rw[←HW0.out,←HZ.out];go_wp2_with fail;refine HV.out.mono ?_;rintro e w1 ⟨rfl,hb1⟩;have HB1:=zh (HB0.out.trans (hb1.mono HB0.out.size));clear c0 c1 c2 c3 c4 c5 c6 hb1;go_wp2_with fail;go_ret3;exact⟨rfl,HB1.out⟩
theorem parses_any(HMade:∀(vt:Value) (xs:List Int) (w:World) (R:Nat→Prop),IntS w R vt xs→(∀b,R b→b<w.heap.size)→Calls Tryz.prog 11 #[vt] w (MadePost w)) (vl:Value) (xs:List Int) (s:ByteArray) (cut by_ kind:Int) (w:World) (hcut:I64 cut) (hby:0≤by_∧by_≤255) (hkd:I64 kind) (hl:IntS w (Bl w.heap.size) vl xs) :
  Calls Tryz.prog 4 #[vl,.string s,.int .i64 cut,.int .u8 by_,.int .i64 kind] w fun e w'=>e=.returned (.bool true)∧Below w.heap.size w w':=by
 have HAW:=zh (fun w1=>awake44_any w1);have HMD:=zh HMade;obtain⟨Al,nl,cl,rfl⟩:=hl.form3;have HL:=zh hl;have HBY:=zh hby;have HCU:=zh hcut;have HKD:=zh hkd;clear hl HMade hby hcut hkd;go_enter Tryz.func4,Tryz.ntmps4;by_cases hs:200<s.size
 ·have t1:decide (200<(s.size:Int))=true:=decide_eq_true (by omega);clear hs;go_wp2_with fail;refine(HAW.out _).mono ?_;rintro e w2 ⟨rfl,hb2⟩;have HB2:=zh hb2;clear hb2;go_wp2_with fail;go_ret;exact⟨rfl,HB2.out⟩
 ·have t1:decide (200<(s.size:Int))=false:=decide_eq_false (by omega);have HS:=zh (show s.size≤200 by omega);clear hs;go_wp2_with fail;refine(HMD.out _ xs w _ HL.out (fun b h=>h)).mono ?_;clear t1;rintro e w2 ⟨fl,fm,fd,fv,fp,fo,F,zp,zo,za,r,gM,n,f,st,rfl,hfs,hok,hre,hmo,hmp,hdo,hgM,hb2⟩;obtain⟨A1,c1,hf1,-⟩:=SlS.form hfs.1;obtain⟨A2,c2,hf2,-⟩:=SlS.form hfs.2.1;obtain⟨A3,c3,hf3,-⟩:=SlS.form hfs.2.2.1;obtain⟨A4,c4,hf4,-⟩:=SlS.form hfs.2.2.2.1;obtain⟨A5,c5,hf5,-⟩:=SlS.form hfs.2.2.2.2.1;obtain⟨A6,c6,hf6,-⟩:=SlS.form hfs.2.2.2.2.2;obtain⟨B1,d1,hz1,-⟩:=SlS.form hre.1;obtain⟨B2,d2,hz2,-⟩:=SlS.form hre.2.1;obtain⟨B3,d3,hz3,-⟩:=SlS.form hre.2.2;obtain⟨n1,hn1⟩:=zx F.laws.length;obtain⟨n2,hn2⟩:=zx F.models.length;obtain⟨n3,hn3⟩:=zx F.doms.length;obtain⟨n4,hn4⟩:=zx F.dves.length;obtain⟨n5,hn5⟩:=zx F.pols.length;obtain⟨n6,hn6⟩:=zx F.vols.length;obtain⟨m1,hm1⟩:=zx r.plat.length;obtain⟨m2,hm2⟩:=zx r.on.length;obtain⟨m3,hm3⟩:=zx r.acks.length;rw[←hn1] at hf1;rw[←hn2] at hf2;rw[←hn3] at hf3;rw[←hn4] at hf4;rw[←hn5] at hf5;rw[←hn6] at hf6;rw[←hm1] at hz1;rw[←hm2] at hz2;rw[←hm3] at hz3;have HFS2:=zh (hfs.mono Fr.bl);have HOK:=zh hok;have HRE:=zh (hre.mono Fr.bl);have HPL:=zh (show r.plat.length≤9 from by rw[hmo.plat];have:=hok.dveN;omega);have HLEN:=zh hmo.len
  have hak:r.acks.length≤1000000:=by
   have h1:=congrArg List.length hmo.keys;rw[List.length_map] at h1;have h2:=keysTo_le F.ext.toNat F.vols.length 0 (by have:=hok.ext;omega) hok.volN (by omega);rw[hmo.acks,List.length_map];omega
  have HAK:=zh hak;have HB2:=zh hb2;obtain⟨EX,hEX⟩:=zx F.ext;rw[←hEX];have HEX:=zh hEX;clear hfs hok hre hmo hmp hdo hgM hb2 hEX hak hn1 hn2 hn3 hn4 hn5 hn6 hm1 hm2 hm3;rw[hf1,hf2,hf3,hf4,hf5,hf6,hz1,hz2,hz3];have HEF:=zh (And.intro hf1 (And.intro hf2 (And.intro hf3 (And.intro hf4 (And.intro hf5 hf6)))));have HEZ:=zh (And.intro hz1 (And.intro hz2 hz3));clear hf1 hf2 hf3 hf4 hf5 hf6 hz1 hz2 hz3;go_upto_region 4 with fail;rw[←HEF.out.1,←HEF.out.2.1,←HEF.out.2.2.1,←HEF.out.2.2.2.1,←HEF.out.2.2.2.2.1,←HEF.out.2.2.2.2.2,←HEZ.out.1,←HEZ.out.2.1,←HEZ.out.2.2];clear HEF HEZ;obtain⟨g,hg⟩:=zx w2.heap.size;obtain⟨p,hp⟩:=zx (w2.heap.size+1);obtain⟨W4,hW4⟩:=zx (((w2.alloc (.cells #[.int .i64 EX,fl,fm,fd,fv,fp,fo] 35)).alloc (.cells #[zp,zo,za] 40)));rw[←hW4,←hp,←hg]
  have hsz4:W4.heap.size=w2.heap.size+1+1:=by rw[hW4];simp
  have hb4:Below w2.heap.size w2 W4:=by rw[hW4];exact((Below.refl _ _).alloc (Nat.le_refl _) _).alloc (by simp) _
  have hbR:W4.heap[p]?=some (.cells #[zp,zo,za] 40 (0,0)):=by
   rw[hW4];exact heap_alloc_at _ _ _ (by rw[hp];simp)
  have hbF:W4.heap[g]?=some (.cells #[.int .i64 EX,fl,fm,fd,fv,fp,fo] 35 (0,0)):=by
   rw[hW4,hg];exact(Below.heap_alloc _ _ _ (by simp)).trans (heap_alloc_new w2 _)
  obtain⟨k0,k1,k2,k3,k4,k5,k6⟩:=cells7 hbF;obtain⟨z0,z1,z2,-⟩:=cells3 hbR;have hgl:g<W4.heap.size:=(Array.getElem?_eq_some_iff.1 hbF).1;have hpl:p<W4.heap.size:=(Array.getElem?_eq_some_iff.1 hbR).1;have HB4:=zh (HB2.out.trans (hb4.mono HB2.out.size));have HFS:=zh (HFS2.out.below hb4);have HM4:=zh (HRE.out.below hb4);have HS4:=zh (fun(w':World) (hb:Below W4.heap.size W4 w')=>(show(w'.cell? ⟨g,0,none⟩=some (.int .i64 EX)∧w'.cell? ⟨g,1,none⟩=some fl∧w'.cell? ⟨g,2,none⟩=some fm∧w'.cell? ⟨g,3,none⟩=some fd∧w'.cell? ⟨g,4,none⟩=some fv∧w'.cell? ⟨g,5,none⟩=some fp∧w'.cell? ⟨g,6,none⟩=some fo)∧(w'.cell? ⟨p,0,none⟩=some zp∧w'.cell? ⟨p,1,none⟩=some zo∧w'.cell? ⟨p,2,none⟩=some za)∧Below W4.heap.size W4 w' from⟨cells7 ((hb.block g hgl).trans hbF),⟨(cells3 ((hb.block p hpl).trans hbR)).1,(cells3 ((hb.block p hpl).trans hbR)).2.1,(cells3 ((hb.block p hpl).trans hbR)).2.2.1⟩,hb⟩));have HC:=zh (fun(w':World) (hb:Below W4.heap.size W4 w')=>cells7 ((hb.block g hgl).trans hbF))
  have hp24:r.plat.length≤24:=by have:=HPL.out;omega
  have hEX:=HEX.out
  have hex1:=fun(w':World) (hb:Below W4.heap.size W4 w')=>rexplain_f 2 (by omega) fl fm fd fv fp fo zp zo za F r w' (HFS.out.below hb) HOK.out (HM4.out.below hb) hp24 HLEN.out
  have hpa:=fun(w':World) (hb:Below W4.heap.size W4 w') (S:ByteArray) (hS:S.size≤100000)=>iparse_any 2 (by omega) fl fm fd fv fp fo F S w' (HFS.out.below hb) HOK.out hS
  have hrp:=fun(w':World) (hb:Below W4.heap.size W4 w') (S:ByteArray) (hS:S.size≤100000)=>rparse_any 2 (by omega) fl fm fd fv fp fo F S w' (HFS.out.below hb) HOK.out hS
  obtain⟨hv1,hc1,-⟩:=expl_ok HOK.out (r:=r);obtain⟨hn1,ht1⟩:=parses_short HOK.out (r:=r)
  have hrf:=fun(w':World) (hb:Below W4.heap.size W4 w') (vL:Value) (hL:SlS 5 IncK w' (Bl w'.heap.size) vL (expl F r))=>rformat_any 2 (by omega) fl fm fd fv fp fo vL F (expl F r) w' (HFS.out.below hb) HOK.out hL (by omega) (fun x hx=>by have:=hc1 x hx;omega)
  rw[←hEX] at hex1 hpa hrp hrf;obtain⟨E1,hE1⟩:=zx (expl F r);rw[←hE1] at hex1 hrf hv1 hc1 hn1 ht1;obtain⟨TL,hTL⟩:=zx (fmtT F E1)
  have hfr:fmtR F E1=(TL,0):=by unfold fmtR;rw[if_pos hv1,hTL]
  rw[hfr] at hrf;rw[←hTL] at ht1;simp only at hrf;obtain⟨T,hT⟩:∃t:ByteArray,t=⟨TL.toArray⟩:=⟨_,rfl⟩;rw[←hT] at hrf
  have hts:T.size=TL.length:=by rw[hT];show TL.toArray.size=_;simp
  have HT:=zh (And.intro hT (And.intro hts ht1));have HEX1:=zh hex1;have HRF:=zh hrf;have HPA0:=zh hpa;have HRP0:=zh hrp;clear hp24 hE1 hv1 hc1 hn1 ht1 hT hTL hts hfr hex1 hrf hpa hrp hgl hpl hW4 hg hp hsz4 hb4 hbR hbF hEX k0 k1 k2 k3 k4 k5 k6 z0 z1 z2;go_cut [14] from 40 (fun v14 wc=>v14=.string T∧Hid (Below W4.heap.size W4 wc))
  case first =>
   refine region_tail (S:=(fun w'=>(w'.cell? ⟨g,0,none⟩=some (.int .i64 EX)∧w'.cell? ⟨g,1,none⟩=some fl∧w'.cell? ⟨g,2,none⟩=some fm∧w'.cell? ⟨g,3,none⟩=some fd∧w'.cell? ⟨g,4,none⟩=some fv∧w'.cell? ⟨g,5,none⟩=some fp∧w'.cell? ⟨g,6,none⟩=some fo)∧(w'.cell? ⟨p,0,none⟩=some zp∧w'.cell? ⟨p,1,none⟩=some zo∧w'.cell? ⟨p,2,none⟩=some za)∧Below W4.heap.size W4 w')) [] (by kernel_rfl) (HS4.out _ (Below.refl W4.heap.size W4).drew) (fun hHeld=>?_);refine tk 0 41 ?_;refine tk 1 42 ?_;refine tk 2 43 ?_;refine readyT (rs:=[3]) (by kernel_rfl) (by simp) ?_;refine AllReadyT.cons rfl (fun K hK=>?_) ?_
   ·go_simp;refine(HEX1.out _ hHeld.2.2).mono ?_;rintro e w2e ⟨u2,rfl,hO2,hb2e⟩;obtain⟨A2x,c2x,hu2,-,-⟩:=hO2.form;subst hu2;refine hK.out _ _ ?_ (fun hHeld=>?_)
    ·(first|exact HS4.out _ (hHeld.2.2.trans (hb6.mono hHeld.2.2.size))|exact HS4.out _ (hHeld.2.2.trans (hb2e.mono hHeld.2.2.size)))
    clear hK K;(try simp only[Act.put,z1,z2,z3]);refine readyT (rs:=[4]) (by kernel_rfl) (by simp) ?_;refine AllReadyT.cons rfl (fun K hK=>?_) ?_
    ·have hrf:=HRF.out _ hHeld.2.2 _ (SlS.mono incK hO2 (fun x hx=>hx.2));go_simp;refine hrf.mono ?_;rintro e w6 ⟨rfl,hb6⟩;refine hK.out _ _ ?_ (fun hHeld=>?_)
     ·(first|exact HS4.out _ (hHeld.2.2.trans (hb6.mono hHeld.2.2.size))|exact HS4.out _ (hHeld.2.2.trans (hb2e.mono hHeld.2.2.size)))
     clear hK K;(try simp only[Act.put,z1,z2,z3]);refine tk 5 40 ?_;refine tk 6 46 ?_;refine tk 7 47 ?_;refine tk 8 14 ?_;refine tk 9 15 ?_;refine doneT (by kernel_rfl) ?_ _;have HB6:=zh hHeld.2.2;clear hHeld hO2 hb2e hb6 hrf;go_wp2_with fail;go_meet;exact⟨rfl,HB6⟩
    exact AllReadyT.nil
   exact AllReadyT.nil
  case rest =>
   obtain⟨rfl,HB5⟩:=hcut;obtain⟨W5,rfl⟩:=zx (wc:World);obtain⟨NT,hNT⟩:=zx T.size;obtain⟨K,hK,hKl⟩:=within_of cut ((NT:Int)+1) (by omega);obtain⟨jn,hjn,hjl⟩:=within_of kind 4 (by omega)
   have hNl:NT≤10000:=by have:=HT.out.2.1;have:=HT.out.2.2;omega
   have hw1:=fun w=>within_any cut ((NT:Int)+1) w HCU.out (by unfold I64;omega)
   have hw2:=fun w=>within_any kind 4 w HKD.out (by unfold I64;omega)
   rw[hK] at hw1;rw[hjn] at hw2;have HW1:=zh hw1;have HW2:=zh hw2
   have hKT:K≤T.size:=by omega
   have q0:wrap64 ((NT:Int)+1)=(NT:Int)+1:=IntWalk.wrap64_in _ (by omega);obtain⟨X1,hx1,q1⟩:=txt_to T K hKT;have HX1:=zh hx1;have HQ1:=zh q1;have HKT:=zh hKT;have HNL:=zh hNl;have HKL:=zh hKl;clear hK hjn hw1 hw2 hKl hx1 hNl hKT;subst hNT;go_wp2_with fail;refine(HW1.out _).mono ?_;rintro e w6 ⟨rfl,rfl⟩;go_upto_region 7 with fail;go_cut [57] from 56 (fun v57 wc=>v57=.int .i64 (jn:Int)∧wc=W5)
   case first =>
    go_wp2_with fail;refine(HW2.out _).mono ?_;rintro e w6 ⟨rfl,rfl⟩;go_wp2_with fail;go_meet;exact⟨rfl,rfl⟩
   case rest =>
    obtain⟨rfl,rfl⟩:=hcut;obtain⟨W5,rfl⟩:=zx (wc:World);go_step;go_cut [17] from 56 (fun v17 wc=>∃SB:ByteArray,v17=.string SB∧SB.size≤100000∧Hid (Below W4.heap.size W4 wc))
    case first =>
     have hNl:=HNL.out;have hKT:=HKT.out;rcases (show jn=0∨jn=1∨jn=2∨jn=3 by omega) with rfl | rfl | rfl | rfl
     ·have HXS:=zh (show X1.size≤100000 by have:=HX1.out;omega);clear hNl hKT hjl;go_wp2_with fail;go_meet;exact⟨_,rfl,HXS.out,HB5⟩
     ·have hx1:=HX1.out;have hs:=HS.out;obtain⟨X2,hx2,q2⟩:=txt_from T K hKT;have q3:(9223372036854775807<X1.size+s.size)=False:=eq_false (by omega);have q4:(9223372036854775807<X1.size+s.size+X2.size)=False:=eq_false (by omega);have HXS:=zh (show(X1++s++X2).size≤100000 by simp only[ByteArray.size_append];omega);clear hNl hKT hjl hx1 hs hx2;go_upto_region 9 with fail;refine region_tail (S:=(fun w'=>Below W4.heap.size W4 w')) [] (by kernel_rfl) (HB5.out.drew) (fun hHeld=>?_);refine tk 0 60 ?_;refine tk 1 61 ?_;refine tk 2 62 ?_;refine tk 3 63 ?_;refine tk 4 64 ?_;refine tk 5 65 ?_;refine tk 6 66 ?_;refine tk 7 67 ?_;refine tk 8 68 ?_;refine tk 9 17 ?_;refine doneT (by kernel_rfl) ?_ _;have HB6:=zh hHeld;clear hHeld;go_wp2_with fail;go_meet;exact⟨_,rfl,HXS.out,HB6⟩
     ·have hx1:=HX1.out;obtain⟨M,hM⟩:∃M:Nat,M=if T.size<K+1 then T.size else K+1:=⟨_,rfl⟩
      have hMT:M≤T.size:=by rw[hM];split <;> omega
      have qm:∀(ts:Array TypeId) (t:TypeId) (w:World),(Builtin.min_ ts t #[.int .i64 ((K:Int)+1),.int .i64 (T.size:Int)]).run Tryz.prog w=.ok (.int .i64 (M:Int)) w:=fun ts t w=>by
       rw[Go.run_min_int2,hM];by_cases h:T.size<K+1
       ·rw[if_pos h,if_pos (by omega)]
       ·rw[if_neg h,if_neg (by omega)];simp
      have qk:IntKind.i64.wrap ((K:Int)+1)=(K:Int)+1:=IntWalk.i64_in _ (by omega);obtain⟨X2,hx2,q2⟩:=txt_from T M hMT;have q4:(9223372036854775807<X1.size+X2.size)=False:=eq_false (by omega);have HXS:=zh (show(X1++X2).size≤100000 by simp only[ByteArray.size_append];omega);clear hNl hKT hjl hx1 hx2 hM hMT;go_upto_region 11 with fail;refine region_tail (S:=(fun w'=>Below W4.heap.size W4 w')) [] (by kernel_rfl) (HB5.out.drew) (fun hHeld=>?_);refine tk 0 71 ?_;refine tk 1 72 ?_;refine tk 2 73 ?_;refine tk 3 74 ?_;refine tk 4 75 ?_;refine tk 5 76 ?_;refine tk 6 77 ?_;refine tk 7 78 ?_;refine tk 8 79 ?_;refine tk 9 80 ?_;refine tk 10 81 ?_;refine tk 11 17 ?_;refine doneT (by kernel_rfl) ?_ _;have HB6:=zh hHeld;clear hHeld;go_wp2_with fail;go_meet;exact⟨_,rfl,HXS.out,HB6⟩
     ·obtain⟨W2,cap2,hrun,hbW2,hltW,hcap,hbuf⟩:=run_bytes_ex (P:=Tryz.prog) W5 9 53 5 TL Tryz.underlying9 Tryz.underlying53 Tryz.underlying5;rw[←HT.out.1] at hrun;have hTL:=HT.out.2.1;have HTL:=zh (show TL.length≤10000 by omega);clear hNl hjl;go_upto_region 14 with fail;clear hrun;obtain⟨gB,hgB⟩:=zx W5.heap.size;rw[←hgB] at hbuf hltW ⊢
      have hgw:W5.heap.size≤gB:=by omega
      clear hgB;have HB2W:=zh hbW2;have HCAP:=zh hcap;have HBUF:=zh hbuf;have HGW:=zh hgw;clear hbW2 hcap hbuf hgw;by_cases hkn:K<TL.length
      ·obtain⟨hcell,hfz⟩:=HBUF.out _ _ (List.getElem?_eq_getElem hkn);obtain⟨c,hc⟩:=zx (TL[K]);rw[←hc] at hcell;obtain⟨y,hy⟩:=xor_byte c by_ HBY.out
       have hcv:(convert 53 9 (.slice (some ⟨gB,0,none⟩) TL.length cap2)).run Tryz.prog (W2.setCell ⟨gB,K,none⟩ (.int .u8 (bits .xor .u8 (c.toNat:Int) by_)))=.ok (.string ⟨(TL.set K y).toArray⟩) (W2.setCell ⟨gB,K,none⟩ (.int .u8 (bits .xor .u8 (c.toNat:Int) by_))):=by
        rw[hy];have h:=conv_bytes ((HBUF.out.set_ hkn y).byS (c:=cap2) (R:=fun _=>True) (by rw[List.length_set];exact HCAP.out) (by rw[List.length_set];unfold maxLen;have:=HTL.out;omega) trivial);rw[List.length_set] at h;exact h
       have HXS:=zh (show(⟨(TL.set K y).toArray⟩:ByteArray).size≤100000 by
        show(TL.set K y).toArray.size≤100000
        have:=HTL.out
        simp;omega)
       have HB6:=zh (HB5.out.trans ((show Below W5.heap.size W5 (W2.setCell ⟨gB,K,none⟩ (.int .u8 (bits .xor .u8 (c.toNat:Int) by_))) from HB2W.out.setCell HGW.out _).mono HB5.out.size));clear hc hy;go_wp2_with fail;go_meet;exact⟨_,rfl,HXS.out,HB6⟩
      ·have hcv:(convert 53 9 (.slice (some ⟨gB,0,none⟩) TL.length cap2)).run Tryz.prog W2=.ok (.string ⟨TL.toArray⟩) W2 :=
        conv_bytes (HBUF.out.byS (c:=cap2) (R:=fun _=>True) HCAP.out (by unfold maxLen;have:=HTL.out;omega) trivial)
       have HXS:=zh (show(⟨TL.toArray⟩:ByteArray).size≤100000 by
        show TL.toArray.size≤100000
        have:=HTL.out
        simp;omega)
       have HB6:=zh (HB5.out.trans (HB2W.out.mono HB5.out.size));go_wp2_with fail;go_meet;exact⟨_,rfl,HXS.out,HB6⟩
    case rest =>
     obtain⟨SB,rfl,hSB,HB6⟩:=hcut;obtain⟨W6,rfl⟩:=zx (wc:World);have HSB:=zh hSB;clear q0 q1 hSB hjl;go_upto_region 18 with fail;obtain⟨W9,hW9⟩:=zx (W6.alloc (.cells #[.string s,.string T,.string SB] 9));obtain⟨gA,hgA⟩:=zx W6.heap.size;rw[←hW9,←hgA]
     have hb9:Below W6.heap.size W6 W9:=by rw[hW9];exact(Below.refl _ _).alloc (Nat.le_refl _) _
     have hc9:W9.heap[gA]?=some (.cells #[.string s,.string T,.string SB] 9 (0,0)):=by rw[hW9,hgA];exact heap_alloc_new W6 _
     have HGL:=zh (Array.getElem?_eq_some_iff.1 hc9).1
     have HALL:=zh (show ∀i,i<3→∃S:ByteArray,W9.cell? ⟨gA,i,none⟩=some (.string S)∧S.size≤100000 from fun i hi=>by
      have hc3:=cells3 hc9;rcases (show i=0∨i=1∨i=2 by omega) with rfl | rfl | rfl
      ·exact⟨_,hc3.1,by have:=HS.out;omega⟩
      ·exact⟨_,hc3.2.1,by have:=HT.out.2.1;have:=HT.out.2.2;omega⟩
      ·exact⟨_,hc3.2.2.1,HSB.out⟩)
     have HB9:=zh (HB6.out.trans (hb9.mono HB6.out.size));clear hW9 hgA hb9 hc9;go_wp2_with fail;go_loopg [20] 3 (fun z v20 wr=>∃i:Nat,v20=.int .i64 (i:Int)∧i≤3∧z=3 - i∧Hid (Below W9.heap.size W9 wr))
     case atStart=>exact⟨0,rfl,by omega,rfl,zh (Below.refl _ _)⟩
     case round =>
      obtain⟨i,rfl,hi,rfl,HBW⟩:=hrel;by_cases hlt:i<3
      ·have HLT:=zh hlt;obtain⟨Si,hci,hsz⟩:=HALL.out i hlt
       have hm:=fun(w':World) (hb:Below W9.heap.size W9 w')=>HB9.out.trans (hb.mono HB9.out.size)
       have HSL:=zh (fun(w':World) (hb:Below W9.heap.size W9 w')=>(show(w'.cell? ⟨g,0,none⟩=some (.int .i64 EX)∧w'.cell? ⟨g,1,none⟩=some fl∧w'.cell? ⟨g,2,none⟩=some fm∧w'.cell? ⟨g,3,none⟩=some fd∧w'.cell? ⟨g,4,none⟩=some fv∧w'.cell? ⟨g,5,none⟩=some fp∧w'.cell? ⟨g,6,none⟩=some fo)∧w'.cell? ⟨gA,i,none⟩=some (.string Si)∧Below W9.heap.size W9 w' from⟨HC.out w' (hm w' hb),(hb.cell (p:=⟨gA,i,none⟩) HGL.out).trans hci,hb⟩))
       have hpa:=fun(w':World) (hb:Below W9.heap.size W9 w')=>HPA0.out w' (hm w' hb) Si hsz
       have hrp:=fun(w':World) (hb:Below W9.heap.size W9 w')=>HRP0.out w' (hm w' hb) Si hsz
       obtain⟨PR,hPR⟩:=zx (parsR F [] Si.data.toList 1);rw[←hPR] at hpa hrp;obtain⟨Z,ER,ln⟩:=PR;simp only at hpa hrp;obtain⟨LN,hLN⟩:∃n:Int,n=(ln:Int):=⟨_,rfl⟩;rw[←hLN] at hpa hrp;have HPA:=zh hpa;have HRPW:=zh hrp
       have e2:(ER != ER)=false:=by simp
       have e3:(LN != LN)=false:=by simp
       have i1:(i:Int)<3:=by omega
       have HBX:=zh HBW.out;clear hci hsz hm hpa hrp hPR hLN;go_upto_region 21 with fail;go_cut [21,22,23] from 103 to 142 (fun v21 v22 v23 wc=>∃A c,v21=.slice A Z.length c∧v22=.int .i64 ER∧v23=.int .i64 LN∧Hid (SlS 5 IncK wc (Bl wc.heap.size) (.slice A Z.length c) Z)∧Hid (Below W9.heap.size W9 wc))
       case first =>
        refine region_tail (S:=(fun w'=>(w'.cell? ⟨g,0,none⟩=some (.int .i64 EX)∧w'.cell? ⟨g,1,none⟩=some fl∧w'.cell? ⟨g,2,none⟩=some fm∧w'.cell? ⟨g,3,none⟩=some fd∧w'.cell? ⟨g,4,none⟩=some fv∧w'.cell? ⟨g,5,none⟩=some fp∧w'.cell? ⟨g,6,none⟩=some fo)∧w'.cell? ⟨gA,i,none⟩=some (.string Si)∧Below W9.heap.size W9 w')) [] (by kernel_rfl) (HSL.out _ HBX.out.drew) (fun hHeld=>?_);refine tk 0 110 ?_;refine tk 1 111 ?_;refine tk 2 112 ?_;refine tk 3 113 ?_;refine tk 4 114 ?_;refine readyT (rs:=[5]) (by kernel_rfl) (by simp) ?_;refine AllReadyT.cons rfl (fun K hK=>?_) ?_
        ·go_simp;refine(HPA.out _ hHeld.2.2).mono ?_;rintro e w5 ⟨⟨u5,rfl,hO5⟩,hb5⟩;obtain⟨A5x,c5x,hu5,-,-⟩:=hO5.form;subst hu5;refine hK.out _ _ ?_ (fun hHeld=>?_)
         ·exact HSL.out _ (hHeld.2.2.trans (hb5.mono hHeld.2.2.size))
         clear hK K;(try simp only[Act.put,z1,z2,z3]);refine tk 6 109 ?_;refine tk 7 116 ?_;refine tk 8 117 ?_;refine tk 9 118 ?_;refine tk 10 21 ?_;refine tk 11 22 ?_;refine tk 12 23 ?_;refine doneT (by kernel_rfl) ?_ _;have HO5:=zh (SlS.mono incK hO5 (fun x hx=>hx.2));have HB5:=zh hHeld.2.2;clear hHeld hb5 hO5;go_wp2_with fail;go_meet;exact⟨A5x,c5x,rfl,rfl,rfl,HO5,HB5⟩
        exact AllReadyT.nil
       case rest =>
        clear HBX;obtain⟨A1,c1,rfl,rfl,rfl,HO1,HBX⟩:=hcut;obtain⟨wx,rfl⟩:=zx (wc:World)
        have hmx:=fun(w':World) (hb:Below wx.heap.size wx w')=>HBX.out.trans (hb.mono HBX.out.size)
        have HSX:=zh (fun(w':World) (hb:Below wx.heap.size wx w')=>(show(w'.cell? ⟨g,0,none⟩=some (.int .i64 EX)∧w'.cell? ⟨g,1,none⟩=some fl∧w'.cell? ⟨g,2,none⟩=some fm∧w'.cell? ⟨g,3,none⟩=some fd∧w'.cell? ⟨g,4,none⟩=some fv∧w'.cell? ⟨g,5,none⟩=some fp∧w'.cell? ⟨g,6,none⟩=some fo)∧w'.cell? ⟨gA,i,none⟩=some (.string Si)∧Below wx.heap.size wx w' from⟨(HSL.out w' (hmx w' hb)).1,(HSL.out w' (hmx w' hb)).2.1,hb⟩));have HRP:=zh (fun(w':World) (hb:Below wx.heap.size wx w')=>HRPW.out w' (hmx w' hb));clear hmx;go_upto_region 22 with fail;go_cut [24,25,26] from 103 to 142 (fun v24 v25 v26 wc=>∃A c,v24=.slice A Z.length c∧v25=.int .i64 ER∧v26=.int .i64 LN∧Hid (SlS 5 IncK wc (Bl wc.heap.size) (.slice A Z.length c) Z)∧Hid (Below wx.heap.size wx wc))
        case first =>
         refine region_tail (S:=(fun w'=>(w'.cell? ⟨g,0,none⟩=some (.int .i64 EX)∧w'.cell? ⟨g,1,none⟩=some fl∧w'.cell? ⟨g,2,none⟩=some fm∧w'.cell? ⟨g,3,none⟩=some fd∧w'.cell? ⟨g,4,none⟩=some fv∧w'.cell? ⟨g,5,none⟩=some fp∧w'.cell? ⟨g,6,none⟩=some fo)∧w'.cell? ⟨gA,i,none⟩=some (.string Si)∧Below wx.heap.size wx w')) [] (by kernel_rfl) (HSX.out _ (Below.refl wx.heap.size wx).drew) (fun hHeld=>?_);refine tk 0 120 ?_;refine tk 1 121 ?_;refine tk 2 122 ?_;refine tk 3 123 ?_;refine tk 4 124 ?_;refine readyT (rs:=[5]) (by kernel_rfl) (by simp) ?_;refine AllReadyT.cons rfl (fun K hK=>?_) ?_
         ·go_simp;refine(HRP.out _ hHeld.2.2).mono ?_;rintro e w5 ⟨⟨u5,rfl,hO5⟩,hb5⟩;obtain⟨A5x,c5x,hu5,-,-⟩:=hO5.form;subst hu5;refine hK.out _ _ ?_ (fun hHeld=>?_)
          ·exact HSX.out _ (hHeld.2.2.trans (hb5.mono hHeld.2.2.size))
          clear hK K;(try simp only[Act.put,z1,z2,z3]);refine tk 6 119 ?_;refine tk 7 126 ?_;refine tk 8 127 ?_;refine tk 9 128 ?_;refine tk 10 24 ?_;refine tk 11 25 ?_;refine tk 12 26 ?_;refine doneT (by kernel_rfl) ?_ _;have HO5:=zh (SlS.mono incK hO5 (fun x hx=>hx.2));have HB5:=zh hHeld.2.2;clear hHeld hb5 hO5;go_wp2_with fail;go_meet;exact⟨A5x,c5x,rfl,rfl,rfl,HO5,HB5⟩
         exact AllReadyT.nil
        case rest =>
         obtain⟨A2,c2,rfl,rfl,rfl,HO2,HBZ⟩:=hcut;obtain⟨wy,rfl⟩:=zx (wc:World);have HSA:=zh (sameincs_any _ _ Z _ _ wy (SlS.below incK HO1.out HBZ.out) HO2.out);go_wp2_with fail;refine HSA.out.mono ?_;rintro e w8 ⟨rfl,n8,hw8⟩
         have hb8:Below wy.heap.size wy w8:=by rw[hw8];exact Below.drewN' (Below.refl _ _) n8
         have hb28:=HBZ.out.trans (hb8.mono HBZ.out.size);have HB8:=zh (HBX.out.trans (hb28.mono HBX.out.size));clear hw8 hb8 hb28;go_wp2_with fail;go_roundg (3 - (i+1))
         case measure=>have:=HLT.out;omega
         case rel=>exact⟨i+1,by go_num,by have:=HLT.out;omega,rfl,HB8⟩
      ·have hi3:i=3:=by omega
       subst hi3;go_wp2_with fail;refine(iparse_empty s _).mono ?_;rintro e w10 ⟨rfl,hb10⟩;have HB10:=zh (HBW.out.trans (hb10.mono HBW.out.size));clear hb10;go_wp2_with fail;refine(HAW.out _).mono ?_;rintro e w11 ⟨rfl,hb11⟩;have HB11:=zh (HB10.out.trans (hb11.mono HB10.out.size));clear hb11;go_wp2_with fail;go_ret;exact⟨rfl,HB4.out.trans ((HB9.out.trans (HB11.out.mono HB9.out.size)).mono HB4.out.size)⟩
end Go.Proofs.YtcfkllnpkmebpaaGreatDoor

namespace Go.Proofs.YtcfkllnpkmebpaaGreatDoor
open Go.RowKit Go.ChangeShapes Go.WideShapes Go.ChangeAt Go.Deep Go.Joins
set_option linter.unusedVariables false
set_option linter.unusedSimpArgs false
theorem wf_i64{x:Int} (h:(Lit.int .i64 x).wf=true):I64 x:=by
 simpa[Lit.wf,IntKind.min,IntKind.max,IntKind.signed,IntKind.bits,I64] using h
section
variable {H : Type} {enc : TypeId × Value → H} {P : Program} {W : World}
theorem open_intS{t e:TypeId} {spare:Nat→Bool} {held:Bool} {base fuel:Nat} {v:Value} {x:DataW H×List MemPlace} (ht:P.underlying t=some (.slice e)) (he:P.underlying e=some (.int .i64)) (hc:P.cellsOf e=1)
  (h:DataW.trod enc P W base spare held fuel t [v]=some x):∃xs,IntS W (Bl W.heap.size) v xs:=by
 rcases open_ints ht he hc h with ⟨hcs,_⟩ | ⟨a,len,cap,zs,hcs,_,hl,hm,hz,_,hcell,hwz⟩
 ·simp at hcs;subst hcs;exact⟨[],IntS.nil _ _ _⟩
 ·simp at hcs;subst hcs
  have hzl:len≤zs.length:=by rw[hz];split <;> omega
  have hxl:(zs.take len).length=len:=by rw[List.length_take];omega
  refine⟨zs.take len,⟨some a,cap,by rw[hxl],by rw[hxl];exact hl,by rw[hxl];omega,fun hn=>?_⟩,fun y hy=>wf_i64 (hwz y (List.mem_of_mem_take hy))⟩;rw[hxl] at hn;obtain⟨b,off,spot⟩:=a;have g0:=hcell 0 (by omega)
  have hspot:spot=none:=by simpa[Addr.add] using World.cell?_spot g0
  subst hspot;have hb:=block_lt_of_cell g0;refine⟨b,off,rfl,by simpa[Addr.add,Bl] using hb,fun k y hk=>?_⟩;have hkl:k<(zs.take len).length:=(List.getElem?_eq_some_iff.1 hk).1;rw[hxl] at hkl;have g:=hcell k (by omega)
  have e1:(⟨b,off,none⟩:Addr).add k=⟨b,off+k,none⟩:=by unfold Addr.add;split <;> simp_all
  rw[e1] at g;rw[g];rw[List.getElem?_take_of_lt hkl] at hk;rw[List.getD,hk];rfl
end
end Go.Proofs.YtcfkllnpkmebpaaGreatDoor

namespace Go.Proofs.YtcfkllnpkmebpaaGreatDoor
open Go.RowKit Go.ChangeShapes Go.WideShapes Go.ChangeAt Go.Deep Go.Joins
set_option linter.unusedVariables false
set_option linter.unusedSimpArgs false
section
variable {H : Type} {enc : TypeId × Value → H} {P : Program} {W : World}
end
end Go.Proofs.YtcfkllnpkmebpaaGreatDoor
