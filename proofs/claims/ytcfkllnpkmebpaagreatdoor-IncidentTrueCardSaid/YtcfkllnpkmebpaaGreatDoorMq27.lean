/- The law IncidentTrue, walked. -/
import Derived.Deep.CutRange
import Derived.Test.YtcfkllnpkmebpaaGreatDoorMq21
import Derived.Test.YtcfkllnpkmebpaaGreatDoorMq23
import Derived.Test.YtcfkllnpkmebpaaGreatDoorMq25
import Derived.Test.YtcfkllnpkmebpaaGreatDoorMq26
import Derived.Test.YtcfkllnpkmebpaaGreatDoorMq01
import Derived.ProofKit
import Derived.OpenShut
import Derived.Lib.SmallJoins
import Derived.Deep.Slices
import Derived.Deep.Fields
import Derived.ChangeSame
import Derived.Test.YtcfkllnpkmebpaaGreatDoorMq06
set_option linter.unusedSectionVars false
set_option maxRecDepth 100000
set_option maxHeartbeats 12800000
namespace Go.Proofs.YtcfkllnpkmebpaaGreatDoor
open Go.RowKit
set_option linter.unusedVariables false
set_option linter.unusedSimpArgs false
theorem true_any(HMade:∀(vt:Value) (xs:List Int) (w:World) (R:Nat→Prop),IntS w R vt xs→(∀b,R b→b<w.heap.size)→Calls Tryz.prog 11 #[vt] w (MadePost w)) (vl:Value) (xs:List Int) (w:World) (hl:IntS w (Bl w.heap.size) vl xs) :
  Calls Tryz.prog 9 #[vl] w fun e w'=>e=.returned (.bool true)∧Below w.heap.size w w':=by
 have HAW:=zh (fun w1=>awake44_any w1);have HMD:=zh HMade;obtain⟨Al,nl,cl,rfl⟩:=hl.form3;have HL:=zh hl;clear hl HMade;go_enter Tryz.func9,Tryz.ntmps9;go_wp2_with fail;refine(HMD.out _ xs w _ HL.out (fun b h=>h)).mono ?_;rintro e w2 ⟨fl,fm,fd,fv,fp,fo,F,zp,zo,za,r,gM,n,f,st,rfl,hfs,hok,hre,hmo,hmp,hdo,hgM,hb2⟩;obtain⟨A1,c1,hf1,-⟩:=SlS.form hfs.1;obtain⟨A2,c2,hf2,-⟩:=SlS.form hfs.2.1;obtain⟨A3,c3,hf3,-⟩:=SlS.form hfs.2.2.1;obtain⟨A4,c4,hf4,-⟩:=SlS.form hfs.2.2.2.1;obtain⟨A5,c5,hf5,-⟩:=SlS.form hfs.2.2.2.2.1;obtain⟨A6,c6,hf6,-⟩:=SlS.form hfs.2.2.2.2.2;obtain⟨B1,d1,hz1,-⟩:=SlS.form hre.1;obtain⟨B2,d2,hz2,-⟩:=SlS.form hre.2.1;obtain⟨B3,d3,hz3,-⟩:=SlS.form hre.2.2;obtain⟨n1,hn1⟩:=zx F.laws.length;obtain⟨n2,hn2⟩:=zx F.models.length;obtain⟨n3,hn3⟩:=zx F.doms.length;obtain⟨n4,hn4⟩:=zx F.dves.length;obtain⟨n5,hn5⟩:=zx F.pols.length;obtain⟨n6,hn6⟩:=zx F.vols.length;obtain⟨m1,hm1⟩:=zx r.plat.length;obtain⟨m2,hm2⟩:=zx r.on.length;obtain⟨m3,hm3⟩:=zx r.acks.length;rw[←hn1] at hf1;rw[←hn2] at hf2;rw[←hn3] at hf3;rw[←hn4] at hf4;rw[←hn5] at hf5;rw[←hn6] at hf6;rw[←hm1] at hz1;rw[←hm2] at hz2;rw[←hm3] at hz3;have HFS2:=zh (hfs.mono Fr.bl);have HOK:=zh hok;have HRE:=zh (hre.mono Fr.bl);have HPL:=zh (show r.plat.length≤9 from by rw[hmo.plat];have:=hok.dveN;omega);have HLEN:=zh hmo.len
 have hak:r.acks.length≤1000000:=by
  have h1:=congrArg List.length hmo.keys;rw[List.length_map] at h1;have h2:=keysTo_le F.ext.toNat F.vols.length 0 (by have:=hok.ext;omega) hok.volN (by omega);rw[hmo.acks,List.length_map];omega
 have HAK:=zh hak;have HFIT:=zh (show r.plat.length≤F.dves.length∧r.on.length≤F.dves.length from⟨Nat.le_of_eq hmo.plat,Nat.le_of_eq hmo.on⟩);have HB2:=zh hb2;obtain⟨EX,hEX⟩:=zx F.ext;rw[←hEX];have HEX:=zh hEX;clear hfs hok hre hmo hmp hdo hgM hb2 hEX hak hn1 hn2 hn3 hn4 hn5 hn6 hm1 hm2 hm3;rw[hf1,hf2,hf3,hf4,hf5,hf6,hz1,hz2,hz3];have HEF:=zh (And.intro hf1 (And.intro hf2 (And.intro hf3 (And.intro hf4 (And.intro hf5 hf6)))));have HEZ:=zh (And.intro hz1 (And.intro hz2 hz3));clear hf1 hf2 hf3 hf4 hf5 hf6 hz1 hz2 hz3;go_upto_region 2 with fail;rw[←HEF.out.1,←HEF.out.2.1,←HEF.out.2.2.1,←HEF.out.2.2.2.1,←HEF.out.2.2.2.2.1,←HEF.out.2.2.2.2.2,←HEZ.out.1,←HEZ.out.2.1,←HEZ.out.2.2];clear HEF HEZ;obtain⟨g,hg⟩:=zx w2.heap.size;obtain⟨p,hp⟩:=zx (w2.heap.size+1);obtain⟨W4,hW4⟩:=zx (((w2.alloc (.cells #[.int .i64 EX,fl,fm,fd,fv,fp,fo] 35)).alloc (.cells #[zp,zo,za] 40)));rw[←hW4,←hp,←hg]
 have hsz4:W4.heap.size=w2.heap.size+1+1:=by rw[hW4];simp
 have hb4:Below w2.heap.size w2 W4:=by rw[hW4];exact((Below.refl _ _).alloc (Nat.le_refl _) _).alloc (by simp) _
 have hbR:W4.heap[p]?=some (.cells #[zp,zo,za] 40 (0,0)):=by
  rw[hW4];exact heap_alloc_at _ _ _ (by rw[hp];simp)
 have hbF:W4.heap[g]?=some (.cells #[.int .i64 EX,fl,fm,fd,fv,fp,fo] 35 (0,0)):=by
  rw[hW4,hg];exact(Below.heap_alloc _ _ _ (by simp)).trans (heap_alloc_new w2 _)
 obtain⟨k0,k1,k2,k3,k4,k5,k6⟩:=cells7 hbF;obtain⟨z0,z1,z2,-⟩:=cells3 hbR;have hgl:g<W4.heap.size:=(Array.getElem?_eq_some_iff.1 hbF).1;have hpl:p<W4.heap.size:=(Array.getElem?_eq_some_iff.1 hbR).1;have HB4:=zh (HB2.out.trans (hb4.mono HB2.out.size));have HFS:=zh (HFS2.out.below hb4);have HM4:=zh (HRE.out.below hb4);have HS4:=zh (fun(w':World) (hb:Below W4.heap.size W4 w')=>And.intro (cells7 ((hb.block g hgl).trans hbF)) (cells3 ((hb.block p hpl).trans hbR)))
 have hp24:r.plat.length≤24:=by have:=HPL.out;omega
 have hp9:r.plat.length≤1000:=by omega
 have hEX:=HEX.out;have hp0:=explain_all 2 (by omega) fl fm fd fv fp fo zp zo za F r W4 HFS.out HOK.out HM4.out hp24 HLEN.out HAK.out
 have hp1:=fun(w':World) (hb:Below W4.heap.size W4 w')=>lost_any 2 (by omega) fl fm fd fv fp fo zp zo za F r w' (HFS.out.below hb) HOK.out (HM4.out.below hb) hp9 HLEN.out HAK.out
 have hp2:=fun(w':World) (hb:Below W4.heap.size W4 w')=>unav_any 2 (by omega) fl fm fd fv fp fo zp zo za F r w' (HFS.out.below hb) HOK.out (HM4.out.below hb) hp9 HLEN.out HAK.out
 obtain⟨hv1,hc1,hn1⟩:=expl_ok HOK.out (r:=r);have hn4:F.vols.length * F.ext.toNat≤2 * 2:=Nat.mul_le_mul HOK.out.volN (by have:=HOK.out.ext;omega)
 have hvi:=fun(w':World) (hb:Below W4.heap.size W4 w') (vL:Value) (hL:SlS 5 IncK w' (Bl w'.heap.size) vL (expl F r))=>ivalid_any 2 (by omega) fl fm fd fv fp fo vL F (expl F r) w' (HFS.out.below hb) HOK.out hL (by omega) (fun x hx=>by have:=hc1 x hx;omega)
 rw[hv1] at hvi;have hcn:=expl_count HFIT.out;obtain⟨EN,hEN⟩:∃n:Nat,F.ext=(n:Int):=⟨F.ext.toNat,by have:=HOK.out.ext;omega⟩;have HEN:=zh (show ∀s,s<F.ext.toNat→s<EN from fun s h=>by omega)
 have hco:=fun(w':World) (hb:Below W4.heap.size W4 w') (v s KN KM:Nat) (hv:v<F.vols.length) (hs:s<EN) (hKN:kOf F v=(KN:Int)) (hKM:kOf F v+mOf F v=(KM:Int))=>contents_any 2 (by omega) fl fm fd fv fp fo zp zo za F r v s EN KN KM true w' (HFS.out.below hb) HOK.out (HM4.out.below hb) hp9 HLEN.out HAK.out hv hEN hs hKN hKM
 have hat:=fun(x:Inc) (hx:x∈expl F r)=>expl_at hx
 obtain⟨KA,hKA⟩:=zx (keyL F r (condR true) F.ext.toNat F.vols.length 0);obtain⟨KB,hKB⟩:=zx (keyL F r (condR false) F.ext.toNat F.vols.length 0);rw[←hKA] at hp1 hcn;rw[←hKB] at hp2 hcn;rw[←hEX] at hp0 hp1 hp2 hvi hco;obtain⟨E1,hE1⟩:=zx (expl F r);rw[←hE1] at hp0 hvi hcn hat hn1;obtain⟨LE,hLE⟩:=zx E1.length;obtain⟨NA,hNA⟩:=zx KA.length;obtain⟨NB,hNB⟩:=zx KB.length;have HP1:=zh hp1;have HP2:=zh hp2;have HVI:=zh hvi;have HCO:=zh hco;have HAT:=zh hat;have HLE:=zh hLE;have HNA:=zh hNA;have HNB:=zh hNB;have HKA:=zh hKA;have HKB:=zh hKB;have HP0:=zh hp0;have HSM:=zh (show LE≤4∧NA≤4∧NB≤4 by omega);have HQ0:=zh (show wrap64 ((NA:Int)+(NB:Int))=(LE:Int) by rw[IntWalk.wrap64_in _ (by omega)];omega);clear hEN hp24 hp9 hEX hp0 hp1 hp2 hv1 hc1 hn1 hn4 hvi hcn hco hat hKA hKB hE1 hLE hNA hNB hgl hpl hW4 hg hp hsz4 hb4 hbR hbF;go_wp2_with fail;refine HP0.out.mono ?_;rintro e W5 ⟨u5,rfl,hO5,hb5⟩;obtain⟨A5,c5,hu5,-,-⟩:=hO5.form;subst hu5;have HE5:=zh (SlS.mono (R':=Bl W5.heap.size) incK hO5 (fun x hx=>hx.2));rw[←HLE.out] at HE5 ⊢;have HB5:=zh hb5
 have hm5:=fun(w':World) (hb:Below W5.heap.size W5 w')=>hb5.trans (hb.mono hb5.size)
 have HM5:=zh hm5;have HS5:=zh (fun(w':World) (hb:Below W5.heap.size W5 w')=>(show(w'.cell? ⟨g,0,none⟩=some (.int .i64 EX)∧w'.cell? ⟨g,1,none⟩=some fl∧w'.cell? ⟨g,2,none⟩=some fm∧w'.cell? ⟨g,3,none⟩=some fd∧w'.cell? ⟨g,4,none⟩=some fv∧w'.cell? ⟨g,5,none⟩=some fp∧w'.cell? ⟨g,6,none⟩=some fo)∧(w'.cell? ⟨p,0,none⟩=some zp∧w'.cell? ⟨p,1,none⟩=some zo∧w'.cell? ⟨p,2,none⟩=some za)∧Below W5.heap.size W5 w' from⟨(HS4.out w' (hm5 w' hb)).1,⟨(HS4.out w' (hm5 w' hb)).2.1,(HS4.out w' (hm5 w' hb)).2.2.1,(HS4.out w' (hm5 w' hb)).2.2.2.1⟩,hb⟩));have HP1:=zh (fun(w':World) (hb:Below W5.heap.size W5 w')=>HP1.out w' (hm5 w' hb));have HP2:=zh (fun(w':World) (hb:Below W5.heap.size W5 w')=>HP2.out w' (hm5 w' hb));clear hO5 hb5 hm5 k0 k1 k2 k3 k4 k5 k6 z0 z1 z2;go_upto_region 3 with fail;go_cut [7,8] from 16 (fun v7 v8 wc=>∃A7 c7 A8 c8,v7=.slice A7 KA.length c7∧v8=.slice A8 KB.length c8∧Hid (SlS 2 KyK wc (Bl wc.heap.size) (.slice A7 KA.length c7) KA)∧Hid (SlS 2 KyK wc (Bl wc.heap.size) (.slice A8 KB.length c8) KB)∧Hid (Below W5.heap.size W5 wc))
 case first =>
  refine region_tail (S:=(fun w'=>(w'.cell? ⟨g,0,none⟩=some (.int .i64 EX)∧w'.cell? ⟨g,1,none⟩=some fl∧w'.cell? ⟨g,2,none⟩=some fm∧w'.cell? ⟨g,3,none⟩=some fd∧w'.cell? ⟨g,4,none⟩=some fv∧w'.cell? ⟨g,5,none⟩=some fp∧w'.cell? ⟨g,6,none⟩=some fo)∧(w'.cell? ⟨p,0,none⟩=some zp∧w'.cell? ⟨p,1,none⟩=some zo∧w'.cell? ⟨p,2,none⟩=some za)∧Below W5.heap.size W5 w')) [] (by kernel_rfl) (HS5.out _ (Below.refl W5.heap.size W5).drew) (fun hHeld=>?_);refine tk 0 25 ?_;refine tk 1 26 ?_;refine tk 3 28 ?_;refine tk 4 29 ?_;refine readyT (rs:=[2]) (by kernel_rfl) (by simp) ?_;refine AllReadyT.cons rfl (fun K hK=>?_) ?_
  ·go_simp;refine(HP1.out _ hHeld.2.2).mono ?_;rintro e w2e ⟨u2,rfl,hO2,hb2e⟩;obtain⟨A2x,c2x,hu2⟩:=hO2.form;subst hu2;refine hK.out _ _ ?_ (fun hHeld=>?_)
   ·(first|exact HS5.out _ (hHeld.2.2.trans (hb6.mono hHeld.2.2.size))|exact HS5.out _ (hHeld.2.2.trans (hb2e.mono hHeld.2.2.size)))
   clear hK K;(try simp only[Act.put,z1,z2,z3]);refine readyT (rs:=[5]) (by kernel_rfl) (by simp) ?_;refine AllReadyT.cons rfl (fun K hK=>?_) ?_
   ·go_simp;refine(HP2.out _ hHeld.2.2).mono ?_;rintro e w6 ⟨u6,rfl,hO6,hb6⟩;obtain⟨A6x,c6x,hu6⟩:=hO6.form;subst hu6;refine hK.out _ _ ?_ (fun hHeld=>?_)
    ·(first|exact HS5.out _ (hHeld.2.2.trans (hb6.mono hHeld.2.2.size))|exact HS5.out _ (hHeld.2.2.trans (hb2e.mono hHeld.2.2.size)))
    clear hK K;(try simp only[Act.put,z1,z2,z3]);refine tk 6 7 ?_;refine tk 7 8 ?_;refine doneT (by kernel_rfl) ?_ _;have hk2:=SlS.keep kyK hO2.slS (fun x hx=>hb6.block x hx.2);have HO2:=zh (SlS.mono (R':=Bl w6.heap.size) kyK hk2 (fun x hx=>Nat.lt_of_lt_of_le hx.2 hb6.size));have HO6:=zh (SlS.mono (R':=Bl w6.heap.size) kyK hO6.slS (fun x hx=>hx.2));have HB6:=zh hHeld.2.2;clear hHeld hO2 hO6 hk2 hb2e hb6;go_wp2_with fail;go_meet;exact⟨A2x,c2x,A6x,c6x,rfl,rfl,HO2,HO6,HB6⟩
   exact AllReadyT.nil
  exact AllReadyT.nil
 case rest =>
  obtain⟨A7,c7,A8,c8,rfl,rfl,HLO,HUA,HB6⟩:=hcut;obtain⟨W6,rfl⟩:=zx (wc:World);rw[←HNA.out,←HNB.out];rw[←HNA.out] at HLO;rw[←HNB.out] at HUA;have hb46:=HM5.out _ HB6.out;have hvi:=HVI.out W6 hb46 _ (SlS.below incK HE5.out HB6.out);have HVI6:=zh hvi;have q0:=HQ0.out;obtain⟨k0,k1,k2,k3,k4,k5,k6⟩:=(HS5.out W6 HB6.out).1;clear hb46 hvi;go_wp2_with fail;refine HVI6.out.mono ?_;rintro e W7 ⟨rfl,hb7⟩;have HB67:=zh hb7;have HB57:=zh (HB6.out.trans (hb7.mono HB6.out.size));clear hb7 k0 k1 k2 k3 k4 k5 k6;go_wp2_with fail;clear q0;go_loopg [9] LE (fun z v9 wr=>∃i:Nat,v9=.int .i64 (i:Int)∧i≤LE∧z=LE - i∧Hid (Below W7.heap.size W7 wr))
  case atStart=>exact⟨0,rfl,by omega,rfl,zh (Below.refl _ _)⟩
  case round =>
   obtain⟨i,rfl,hi,rfl,HBW⟩:=hrel;obtain⟨W8,rfl⟩:=zx (wr:World);obtain⟨s1,s2,s3⟩:=HSM.out;by_cases hlt:i<LE
   ·have HLT:=zh hlt
    have hil:i<E1.length:=by rw[←HLE.out];exact hlt
    have hb58:=HB57.out.trans (HBW.out.mono HB57.out.size);have hE8:=SlS.below incK HE5.out hb58;obtain⟨bE,oE,cs,hA,hbE,-,hc,hcs⟩:=hE8.at_ (k:=i) hil;subst hA;obtain⟨Ax,cx,x0,x1,x2,-⟩:=five_inc hc hcs;obtain⟨v,s,b,hv,hs,e1,e2,e3,hkey,hmem⟩:=HAT.out _ (List.getElem_mem hil);rw[e1] at x0;rw[e2] at x1;rw[e3] at x2;have hbE':bE<W8.heap.size:=hbE;have HS9:=zh (fun(w':World) (hb:Below W8.heap.size W8 w')=>(show w'.cell? ⟨bE,oE+i * 5,none⟩=some (.int .i64 (v:Int))∧w'.cell? ⟨bE,oE+i * 5+1,none⟩=some (.int .i64 (s:Int))∧Below W8.heap.size W8 w' from⟨(hb.cell (p:=⟨bE,oE+i * 5,none⟩) hbE').trans x0,(hb.cell (p:=⟨bE,oE+i * 5+1,none⟩) hbE').trans x1,hb⟩));have HX2:=zh (fun(w':World) (hb:Below W8.heap.size W8 w')=>(hb.cell (p:=⟨bE,oE+i * 5+2,none⟩) hbE').trans x2);have HB58:=zh hb58;obtain⟨k1,k2,-,-,-⟩:=kmq_ok HOK.out hv;obtain⟨KN,hKN⟩:∃n:Nat,kOf F v=(n:Int):=⟨(kOf F v).toNat,by omega⟩;obtain⟨KM,hKM⟩:∃n:Nat,kOf F v+mOf F v=(n:Int):=⟨(kOf F v+mOf F v).toNat,by omega⟩
    have HCON:=zh (fun(w':World) (hb:Below W8.heap.size W8 w')=>(show Calls Tryz.prog 27 #[.agg #[.int .i64 EX,fl,fm,fd,fv,fp,fo],.agg #[zp,zo,za],.int .i64 (v:Int),.int .i64 (s:Int),.bool true] w' (fun e w2=>e=.returned (.tuple #[.string ⟨(conS r v s true KN KM).toArray⟩,.int .i64 121])∧Below w'.heap.size w' w2) from by
     have h:=HCO.out w' (HM5.out _ (hb58.trans (hb.mono hb58.size))) v s KN KM hv (HEN.out s hs) hKN hKM;rw[con_bad b hKN hKM hkey] at h
     exact h))
    have HMEM:=zh hmem;obtain⟨TX,hTX⟩:∃t:ByteArray,t=⟨(conS r v s true KN KM).toArray⟩:=⟨_,rfl⟩;rw[←hTX] at HCON;clear hil hE8 hbE hc hcs x0 x1 x2 e1 e2 e3 hv hs hkey hmem hbE' hb58 k1 k2 hKN hKM hTX
    have i1:(i:Int)<(LE:Int):=by omega
    go_upto_region 9 with fail;go_cut [10] from 45 to 100 (fun v10 wc=>∃gs,v10=.pointer (some ⟨gs,0,none⟩)∧Hid (gs<wc.heap.size∧wc.cell? ⟨gs,0,none⟩=some (.int .i64 (v:Int))∧wc.cell? ⟨gs,1,none⟩=some (.int .i64 (s:Int)))∧Hid (Below W8.heap.size W8 wc))
    case first =>
     refine region_tail (S:=(fun w'=>w'.cell? ⟨bE,oE+i * 5,none⟩=some (.int .i64 (v:Int))∧w'.cell? ⟨bE,oE+i * 5+1,none⟩=some (.int .i64 (s:Int))∧Below W8.heap.size W8 w')) [12] (by kernel_rfl) (HS9.out _ (Below.refl W8.heap.size W8).drew) (fun hHeld=>?_);refine tk 0 51 ?_;refine tk 1 52 ?_;refine tk 2 53 ?_;refine tk 3 54 ?_;refine tk 4 55 ?_;refine tk 5 56 ?_;refine tk 6 57 ?_;refine tk 7 58 ?_;refine tk 8 59 ?_;refine tk 9 60 ?_;refine tk 10 61 ?_;refine readyT (rs:=[11]) (by kernel_rfl) (by simp) ?_;refine AllReadyT.cons rfl (fun K hK=>?_) ?_
     ·go_simp;refine hK.out _ _ ?_ (fun hHeld=>?_)
      ·exact HS9.out _ (hHeld.2.2.alloc hHeld.2.2.size _)
      clear hK K;(try simp only[Act.put,z1,z2,z3]);refine readyT (rs:=[12]) (by kernel_rfl) (by simp) ?_;refine AllReadyT.consT rfl rfl (fun K hK=>?_) ?_
      ·go_simp;refine hK.out _ _ ?_;clear hK K;(try simp only[Act.put,z1,z2,z3]);refine doneT (by kernel_rfl) ?_ _;go_wp2_with fail;go_meet;exact⟨W8.heap.size,rfl,zh ⟨(by simp),(by first | (simp;done) | (show(W8.alloc _).cell? _=_;simp)),(by first | (simp;done) | (show(W8.alloc _).cell? _=_;simp))⟩,zh ((Below.refl _ _).alloc (Nat.le_refl _) _).drew⟩
      exact AllReadyT.nil
     exact AllReadyT.nil
    case rest =>
     obtain⟨gs,rfl,HGS,HB9⟩:=hcut;obtain⟨W9,rfl⟩:=zx (wc:World);have hx:=HS5.out W9 (HB58.out.trans (HB9.out.mono HB58.out.size));obtain⟨⟨k0,k1,k2,k3,k4,k5,k6⟩,⟨z0,z1,z2⟩,-⟩:=hx;obtain⟨hg0,g0,g1⟩:=HGS.out;clear hg0;go_wp2_with fail;refine(HCON.out _ HB9.out).mono ?_;rintro e W10 ⟨rfl,hb10⟩;have HB10:=zh (HB9.out.trans (hb10.mono HB9.out.size));have HG10:=zh (fun(w':World) (hb:Below W10.heap.size W10 w')=>And.intro (((hb10.trans (hb.mono hb10.size)).cell (p:=⟨gs,0,none⟩) HGS.out.1).trans HGS.out.2.1) (((hb10.trans (hb.mono hb10.size)).cell (p:=⟨gs,1,none⟩) HGS.out.1).trans HGS.out.2.2));clear k0 k1 k2 k3 k4 k5 k6 z0 z1 z2 g0 g1 hb10;have x2:=HX2.out W10 HB10.out
     cases b with
     | true =>
      have hb610:=HB67.out.trans ((HBW.out.trans (HB10.out.mono HBW.out.size)).mono HB67.out.size);have HK10:=zh (SlS.below kyK HLO.out hb610);have HM10:=zh (show(v,s)∈KA by rw[HKA.out];exact HMEM.out);clear hb610;go_wp2_with fail;clear x2;go_loopg [14,15] NA (fun z v14 v15 wr=>∃(j:Nat) (B:Bool),v14=.bool B∧v15=.int .i64 (j:Int)∧j≤NA∧z=NA - j∧Hid (B=decide ((v,s)∈KA.take j))∧Hid (Below W10.heap.size W10 wr))
      case atStart=>exact⟨0,false,rfl,rfl,Nat.zero_le _,rfl,zh (by simp),zh (Below.refl _ _)⟩
      case round =>
       obtain⟨j,B,rfl,rfl,hj,rfl,HBJ,HBR⟩:=hrel;by_cases hjn:j<NA
       ·have HJN:=zh hjn
        have hjl:j<KA.length:=by rw[←HNA.out];exact hjn
        have hKr:=SlS.below kyK HK10.out HBR.out;obtain⟨bk,ok,cs,hAk,hRb,-,hc,hcs⟩:=hKr.at_ (k:=j) hjl;subst hAk;obtain⟨c0,c1⟩:=two_ky hc hcs;have hti:=List.take_succ_eq_append_getElem hjl;obtain⟨u,hu⟩:=zx (KA[j]);rw[←hu] at c0 c1 hti;obtain⟨u1,u2⟩:=u;simp only at c0 c1;obtain⟨d0,d1⟩:=HG10.out wr HBR.out;have HT:=zh hti
        have j1:(j:Int)<(NA:Int):=by omega
        clear hjl hKr hRb hc hcs hti hu
        cases B with
        | true =>
         have HTR:=zh (show true=decide ((v,s)∈KA.take (j+1)) from(decide_eq_true (by rw[HT.out];exact List.mem_append.2 (.inl (of_decide_eq_true HBJ.out.symm)))).symm);go_upto_region 18 with fail
         go_quiet (fail)
         go_wp2_with fail;go_roundg (NA - (j+1))
         case measure=>have:=HJN.out;omega
         case rel=>exact⟨j+1,true,rfl,by go_num,by have:=HJN.out;omega,rfl,HTR,zh (by first | exact HBR.out | exact Below.drewN' HBR.out _)⟩
        | false =>
         by_cases hu:u1=v∧u2=s
         ·obtain⟨rfl,rfl⟩:=hu;have HTR:=zh (show true=decide ((u1,u2)∈KA.take (j+1)) from(decide_eq_true (by rw[HT.out];exact List.mem_append.2 (.inr (by simp)))).symm);go_upto_region 18 with fail
          go_quiet (fail)
          go_wp2_with fail;go_roundg (NA - (j+1))
          case measure=>have:=HJN.out;omega
          case rel=>exact⟨j+1,true,rfl,by go_num,by have:=HJN.out;omega,rfl,HTR,zh (by first | exact HBR.out | exact Below.drewN' HBR.out _)⟩
         ·have HTR:=zh (show false=decide ((v,s)∈KA.take (j+1)) from(decide_eq_false (fun h=>by
           rw[HT.out] at h;rcases List.mem_append.1 h with h | h
           ·exact of_decide_eq_false HBJ.out.symm h
           ·exact hu (by have:=List.mem_singleton.1 h;injection this with a b;exact⟨a.symm,b.symm⟩))).symm)
          by_cases e:u1=v
          ·subst e
           have hv:((u2:Int)==(s:Int))=false:=by rw[beq_eq_false_iff_ne];exact fun e2=>hu ⟨rfl,by omega⟩
           clear hu;go_upto_region 18 with fail
           go_quiet (fail)
           go_wp2_with fail;go_roundg (NA - (j+1))
           case measure=>have:=HJN.out;omega
           case rel=>exact⟨j+1,false,rfl,by go_num,by have:=HJN.out;omega,rfl,HTR,zh (by first | exact HBR.out | exact Below.drewN' HBR.out _)⟩
          ·have hv:((u1:Int)==(v:Int))=false:=by rw[beq_eq_false_iff_ne];omega
           clear hu e;go_upto_region 18 with fail
           go_quiet (fail)
           go_wp2_with fail;go_roundg (NA - (j+1))
           case measure=>have:=HJN.out;omega
           case rel=>exact⟨j+1,false,rfl,by go_num,by have:=HJN.out;omega,rfl,HTR,zh (by first | exact HBR.out | exact Below.drewN' HBR.out _)⟩
       ·have hB:B=true:=by rw[HBJ.out,List.take_of_length_le (by rw[←HNA.out];omega)];exact decide_eq_true HM10.out
        subst hB;go_wp2_with fail;go_roundg (LE - (i+1))
        case measure=>have:=HLT.out;omega
        case rel=>exact⟨i+1,by go_num,by have:=HLT.out;omega,rfl,zh (HBW.out.trans ((HB10.out.trans (HBR.out.mono HB10.out.size)).mono HBW.out.size))⟩
     | false =>
      have hb610:=HB67.out.trans ((HBW.out.trans (HB10.out.mono HBW.out.size)).mono HB67.out.size);have HK10:=zh (SlS.below kyK HUA.out hb610);have HM10:=zh (show(v,s)∈KB by rw[HKB.out];exact HMEM.out);clear hb610;go_wp2_with fail;clear x2;go_loopg [14,15] NB (fun z v14 v15 wr=>∃(j:Nat) (B:Bool),v14=.bool B∧v15=.int .i64 (j:Int)∧j≤NB∧z=NB - j∧Hid (B=decide ((v,s)∈KB.take j))∧Hid (Below W10.heap.size W10 wr))
      case atStart=>exact⟨0,false,rfl,rfl,Nat.zero_le _,rfl,zh (by simp),zh (Below.refl _ _)⟩
      case round =>
       obtain⟨j,B,rfl,rfl,hj,rfl,HBJ,HBR⟩:=hrel;by_cases hjn:j<NB
       ·have HJN:=zh hjn
        have hjl:j<KB.length:=by rw[←HNB.out];exact hjn
        have hKr:=SlS.below kyK HK10.out HBR.out;obtain⟨bk,ok,cs,hAk,hRb,-,hc,hcs⟩:=hKr.at_ (k:=j) hjl;subst hAk;obtain⟨c0,c1⟩:=two_ky hc hcs;have hti:=List.take_succ_eq_append_getElem hjl;obtain⟨u,hu⟩:=zx (KB[j]);rw[←hu] at c0 c1 hti;obtain⟨u1,u2⟩:=u;simp only at c0 c1;obtain⟨d0,d1⟩:=HG10.out wr HBR.out;have HT:=zh hti
        have j1:(j:Int)<(NB:Int):=by omega
        clear hjl hKr hRb hc hcs hti hu
        cases B with
        | true =>
         have HTR:=zh (show true=decide ((v,s)∈KB.take (j+1)) from(decide_eq_true (by rw[HT.out];exact List.mem_append.2 (.inl (of_decide_eq_true HBJ.out.symm)))).symm);go_upto_region 18 with fail
         go_quiet (fail)
         go_wp2_with fail;go_roundg (NB - (j+1))
         case measure=>have:=HJN.out;omega
         case rel=>exact⟨j+1,true,rfl,by go_num,by have:=HJN.out;omega,rfl,HTR,zh (by first | exact HBR.out | exact Below.drewN' HBR.out _)⟩
        | false =>
         by_cases hu:u1=v∧u2=s
         ·obtain⟨rfl,rfl⟩:=hu;have HTR:=zh (show true=decide ((u1,u2)∈KB.take (j+1)) from(decide_eq_true (by rw[HT.out];exact List.mem_append.2 (.inr (by simp)))).symm);go_upto_region 18 with fail
          go_quiet (fail)
          go_wp2_with fail;go_roundg (NB - (j+1))
          case measure=>have:=HJN.out;omega
          case rel=>exact⟨j+1,true,rfl,by go_num,by have:=HJN.out;omega,rfl,HTR,zh (by first | exact HBR.out | exact Below.drewN' HBR.out _)⟩
         ·have HTR:=zh (show false=decide ((v,s)∈KB.take (j+1)) from(decide_eq_false (fun h=>by
           rw[HT.out] at h;rcases List.mem_append.1 h with h | h
           ·exact of_decide_eq_false HBJ.out.symm h
           ·exact hu (by have:=List.mem_singleton.1 h;injection this with a b;exact⟨a.symm,b.symm⟩))).symm)
          by_cases e:u1=v
          ·subst e
           have hv:((u2:Int)==(s:Int))=false:=by rw[beq_eq_false_iff_ne];exact fun e2=>hu ⟨rfl,by omega⟩
           clear hu;go_upto_region 18 with fail
           go_quiet (fail)
           go_wp2_with fail;go_roundg (NB - (j+1))
           case measure=>have:=HJN.out;omega
           case rel=>exact⟨j+1,false,rfl,by go_num,by have:=HJN.out;omega,rfl,HTR,zh (by first | exact HBR.out | exact Below.drewN' HBR.out _)⟩
          ·have hv:((u1:Int)==(v:Int))=false:=by rw[beq_eq_false_iff_ne];omega
           clear hu e;go_upto_region 18 with fail
           go_quiet (fail)
           go_wp2_with fail;go_roundg (NB - (j+1))
           case measure=>have:=HJN.out;omega
           case rel=>exact⟨j+1,false,rfl,by go_num,by have:=HJN.out;omega,rfl,HTR,zh (by first | exact HBR.out | exact Below.drewN' HBR.out _)⟩
       ·have hB:B=true:=by rw[HBJ.out,List.take_of_length_le (by rw[←HNB.out];omega)];exact decide_eq_true HM10.out
        subst hB;go_wp2_with fail;go_roundg (LE - (i+1))
        case measure=>have:=HLT.out;omega
        case rel=>exact⟨i+1,by go_num,by have:=HLT.out;omega,rfl,zh (HBW.out.trans ((HB10.out.trans (HBR.out.mono HB10.out.size)).mono HBW.out.size))⟩
   ·have hiL:i=LE:=by omega
    subst hiL;go_wp2_with fail;refine(HAW.out _).mono ?_;rintro e w11 ⟨rfl,hb11⟩;have HB11:=zh (HBW.out.trans (hb11.mono HBW.out.size));clear hb11;go_wp2_with fail;go_ret;exact⟨rfl,HB4.out.trans ((HM5.out _ (HB57.out.trans (HB11.out.mono HB57.out.size))).mono HB4.out.size)⟩
end Go.Proofs.YtcfkllnpkmebpaaGreatDoor

namespace Go.Proofs.YtcfkllnpkmebpaaGreatDoor
open Go.RowKit Go.ChangeShapes Go.WideShapes Go.ChangeAt Go.Deep Go.Joins
set_option linter.unusedVariables false
set_option linter.unusedSimpArgs false
theorem wf_i64{x:Int} (h:(Lit.int .i64 x).wf=true):I64 x:=by
 simpa[Lit.wf,IntKind.min,IntKind.max,IntKind.signed,IntKind.bits,I64] using h
section
variable {H : Type} {enc : TypeId × Value → H} {P : Program} {W : World}
theorem open_intS{t e:TypeId} {spare:Nat→Bool} {held:Bool} {base fuel:Nat} {v:Value} {x:DataW H×List MemPlace} (ht:P.underlying t=some (.slice e)) (he:P.underlying e=some (.int .i64)) (hc:P.cellsOf e=1)
  (h:DataW.trod enc P W base spare held fuel t [v]=some x):∃xs,IntS W (Bl W.heap.size) v xs:=by
 rcases open_ints ht he hc h with ⟨hcs,_⟩ | ⟨a,len,cap,zs,hcs,_,hl,hm,hz,_,hcell,hwz⟩
 ·simp at hcs;subst hcs;exact⟨[],IntS.nil _ _ _⟩
 ·simp at hcs;subst hcs
  have hzl:len≤zs.length:=by rw[hz];split <;> omega
  have hxl:(zs.take len).length=len:=by rw[List.length_take];omega
  refine⟨zs.take len,⟨some a,cap,by rw[hxl],by rw[hxl];exact hl,by rw[hxl];omega,fun hn=>?_⟩,fun y hy=>wf_i64 (hwz y (List.mem_of_mem_take hy))⟩;rw[hxl] at hn;obtain⟨b,off,spot⟩:=a;have g0:=hcell 0 (by omega)
  have hspot:spot=none:=by simpa[Addr.add] using World.cell?_spot g0
  subst hspot;have hb:=block_lt_of_cell g0;refine⟨b,off,rfl,by simpa[Addr.add,Bl] using hb,fun k y hk=>?_⟩;have hkl:k<(zs.take len).length:=(List.getElem?_eq_some_iff.1 hk).1;rw[hxl] at hkl;have g:=hcell k (by omega)
  have e1:(⟨b,off,none⟩:Addr).add k=⟨b,off+k,none⟩:=by unfold Addr.add;split <;> simp_all
  rw[e1] at g;rw[g];rw[List.getElem?_take_of_lt hkl] at hk;rw[List.getD,hk];rfl
end
end Go.Proofs.YtcfkllnpkmebpaaGreatDoor

namespace Go.Proofs.YtcfkllnpkmebpaaGreatDoor
open Go.RowKit Go.ChangeShapes Go.WideShapes Go.ChangeAt Go.Deep Go.Joins
set_option linter.unusedVariables false
set_option linter.unusedSimpArgs false
section
variable {H : Type} {enc : TypeId × Value → H} {P : Program} {W : World}
end
end Go.Proofs.YtcfkllnpkmebpaaGreatDoor
