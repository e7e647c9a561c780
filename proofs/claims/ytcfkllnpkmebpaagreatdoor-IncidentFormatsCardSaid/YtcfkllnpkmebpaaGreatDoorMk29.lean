/- The law IncidentFormats, walked. -/
import Derived.Test.YtcfkllnpkmebpaaGreatDoorMk20
import Derived.Test.YtcfkllnpkmebpaaGreatDoorMk26
import Derived.Test.YtcfkllnpkmebpaaGreatDoorMk27
import Derived.Test.YtcfkllnpkmebpaaGreatDoorMk28
import Derived.Test.YtcfkllnpkmebpaaGreatDoorMk01
import Derived.ProofKit
import Derived.OpenShut
import Derived.Lib.SmallJoins
import Derived.Deep.Slices
import Derived.Deep.Fields
import Derived.ChangeSame
import Derived.Test.YtcfkllnpkmebpaaGreatDoorMk03
set_option maxRecDepth 100000
set_option maxHeartbeats 12800000
namespace Go.Proofs.YtcfkllnpkmebpaaGreatDoor
open Go.RowKit
set_option linter.unusedVariables false
set_option linter.unusedSimpArgs false
theorem formats_any(HMade:∀(vt:Value) (xs:List Int) (w:World) (R:Nat→Prop),IntS w R vt xs→(∀b,R b→b<w.heap.size)→Calls Tryz.prog 11 #[vt] w (MadePost w)) (vl vr:Value) (xs:List Int) (which pos by_:Int) (raw:List Inc) (w:World) (hwh:I64 which) (hpo:I64 pos) (hby:I64 by_) (hl:IntS w (Bl w.heap.size) vl xs) (hr:SlS 5 IncK w (Bl w.heap.size) vr raw) :
  Calls Tryz.prog 3 #[vl,.int .i64 which,.int .i64 pos,.int .i64 by_,vr] w fun e w'=>e=.returned (.bool true)∧Below w.heap.size w w':=by
 have HAW:=zh (fun w1=>awake44_any w1)
 have HMD:=zh HMade
 obtain⟨Al,nl,cl,rfl⟩:=hl.form3
 obtain⟨AR,cR,rfl,-,hmr⟩:=hr.form
 unfold maxLen at hmr
 obtain⟨NR,hNR⟩:=zx raw.length
 rw[←hNR] at hr hmr ⊢
 have HNR:=zh hNR
 have HL:=zh hl
 have HR:=zh hr
 have HI:=zh (And.intro hwh (And.intro hpo hby))
 clear hl hr HMade hNR hwh hpo hby
 go_enter Tryz.func3,Tryz.ntmps3
 by_cases hs:10<NR
 ·have t1:decide (10<(NR:Int))=true:=decide_eq_true (by omega)
  go_wp2_with fail
  refine(HAW.out _).mono ?_
  rintro e w2 ⟨rfl,hb2⟩
  have HB2:=zh hb2
  clear hb2
  go_wp2_with fail
  go_ret
  exact⟨rfl,HB2.out⟩
 have t1:decide (10<(NR:Int))=false:=decide_eq_false (by omega)
 go_wp2_with fail
 go_loopg [11] NR (fun z v11 wr=>∃i:Nat,v11=.int .i64 (i:Int)∧i≤NR∧z=NR - i∧w=wr∧Hid (∀x∈raw.take i,x.causes.length≤20))
 case atStart=>exact⟨0,rfl,Nat.zero_le _,rfl,rfl,zh (fun x h=>by simp at h)⟩
 case round =>
  obtain⟨i,rfl,hi,rfl,rfl,HTK⟩:=hrel
  by_cases hlt:i<NR
  ·have HLT:=zh hlt
   have hil:i<raw.length:=by rw[←HNR.out];exact hlt
   obtain⟨b,off,cs,hA,-,-,hc,hcs⟩:=HR.out.at_ (k:=i) hil
   subst hA
   obtain⟨Ax,cx,x0,x1,x2,x3,x4,-,-⟩:=five_inc hc hcs
   have htn:=List.take_succ_eq_append_getElem hil
   obtain⟨x,hx⟩:=zx (raw[i])
   rw[←hx] at x4 htn
   obtain⟨CN,hCN⟩:=zx x.causes.length
   rw[←hCN] at x4
   have HCN:=zh hCN
   have HTN:=zh htn
   clear hc hcs hil x0 x1 x2 x3 hx htn hCN
   by_cases hc:20<CN
   ·have t2:decide (20<(CN:Int))=true:=decide_eq_true (by omega)
    go_wp2_with fail
    refine(HAW.out _).mono ?_
    rintro e w2 ⟨rfl,hb2⟩
    have HB2:=zh hb2
    clear hb2
    go_wp2_with fail
    go_ret
    exact⟨rfl,HB2.out⟩
   ·have t2:decide (20<(CN:Int))=false:=decide_eq_false (by omega)
    have HC2:=zh (show CN≤20 by omega)
    go_wp2_with fail
    go_roundg (NR - (i+1))
    case measure=>have:=HLT.out;omega
    case rel=>exact⟨i+1,by go_num,by have:=HLT.out;omega,rfl,rfl,zh (fun y hy=>by
     rw[HTN.out] at hy
     rcases List.mem_append.1 hy with h | h
     ·exact HTK.out y h
     ·rw[List.mem_singleton.1 h,←HCN.out];exact HC2.out)⟩
  ·have hrl:∀x∈raw,x.causes.length≤20:=by
    have h:=HTK.out
    rw[List.take_of_length_le (by rw[←HNR.out];omega)] at h
    exact h
   have HRL:=zh (show raw.length≤10∧∀x∈raw,x.causes.length≤20 from⟨by rw[←HNR.out];omega,hrl⟩)
   clear hrl
   go_wp2_with fail
   refine(HMD.out _ xs w _ HL.out (fun b h=>h)).mono ?_
   clear t1 hlt hi hs hmr
   rintro e w2 ⟨fl,fm,fd,fv,fp,fo,F,zp,zo,za,r,gM,n,f,st,rfl,hfs,hok,hre,hmo,hmp,hdo,hgM,hb2⟩
   obtain⟨A1,c1,hf1,-⟩:=SlS.form hfs.1
   obtain⟨A2,c2,hf2,-⟩:=SlS.form hfs.2.1
   obtain⟨A3,c3,hf3,-⟩:=SlS.form hfs.2.2.1
   obtain⟨A4,c4,hf4,-⟩:=SlS.form hfs.2.2.2.1
   obtain⟨A5,c5,hf5,-⟩:=SlS.form hfs.2.2.2.2.1
   obtain⟨A6,c6,hf6,-⟩:=SlS.form hfs.2.2.2.2.2
   obtain⟨B1,d1,hz1,-⟩:=SlS.form hre.1
   obtain⟨B2,d2,hz2,-⟩:=SlS.form hre.2.1
   obtain⟨B3,d3,hz3,-⟩:=SlS.form hre.2.2
   obtain⟨n1,hn1⟩:=zx F.laws.length
   obtain⟨n2,hn2⟩:=zx F.models.length
   obtain⟨n3,hn3⟩:=zx F.doms.length
   obtain⟨n4,hn4⟩:=zx F.dves.length
   obtain⟨n5,hn5⟩:=zx F.pols.length
   obtain⟨n6,hn6⟩:=zx F.vols.length
   obtain⟨m1,hm1⟩:=zx r.plat.length
   obtain⟨m2,hm2⟩:=zx r.on.length
   obtain⟨m3,hm3⟩:=zx r.acks.length
   rw[←hn1] at hf1
   rw[←hn2] at hf2
   rw[←hn3] at hf3
   rw[←hn4] at hf4
   rw[←hn5] at hf5
   rw[←hn6] at hf6
   rw[←hm1] at hz1
   rw[←hm2] at hz2
   rw[←hm3] at hz3
   have HFS2:=zh (hfs.mono Fr.bl)
   have HOK:=zh hok
   have HRE:=zh (hre.mono Fr.bl)
   have HPL:=zh (show r.plat.length≤9 from by rw[hmo.plat];have:=hok.dveN;omega)
   have HLEN:=zh hmo.len
   have hak:r.acks.length≤1000000:=by
    have h1:=congrArg List.length hmo.keys
    rw[List.length_map] at h1
    have h2:=keysTo_le F.ext.toNat F.vols.length 0 (by have:=hok.ext;omega) hok.volN (by omega)
    rw[hmo.acks,List.length_map];omega
   have HAK:=zh hak
   have HB2:=zh hb2
   obtain⟨EX,hEX⟩:=zx F.ext
   rw[←hEX]
   have HEX:=zh hEX
   clear hfs hok hre hmo hmp hdo hgM hb2 hEX hak hn1 hn2 hn3 hn4 hn5 hn6 hm1 hm2 hm3
   rw[hf1,hf2,hf3,hf4,hf5,hf6,hz1,hz2,hz3]
   have HEF:=zh (And.intro hf1 (And.intro hf2 (And.intro hf3 (And.intro hf4 (And.intro hf5 hf6)))))
   have HEZ:=zh (And.intro hz1 (And.intro hz2 hz3))
   clear hf1 hf2 hf3 hf4 hf5 hf6 hz1 hz2 hz3
   go_upto_region 9 with fail
   rw[←HEF.out.1,←HEF.out.2.1,←HEF.out.2.2.1,←HEF.out.2.2.2.1,←HEF.out.2.2.2.2.1,←HEF.out.2.2.2.2.2,←HEZ.out.1,←HEZ.out.2.1,←HEZ.out.2.2]
   clear HEF HEZ
   obtain⟨g,hg⟩:=zx w2.heap.size
   obtain⟨p,hp⟩:=zx (w2.heap.size+1)
   obtain⟨W4,hW4⟩:=zx (((w2.alloc (.cells #[.int .i64 EX,fl,fm,fd,fv,fp,fo] 35)).alloc (.cells #[zp,zo,za] 40)))
   rw[←hW4,←hp,←hg]
   have hsz4:W4.heap.size=w2.heap.size+1+1:=by rw[hW4];simp
   have hb4:Below w2.heap.size w2 W4:=by rw[hW4];exact((Below.refl _ _).alloc (Nat.le_refl _) _).alloc (by simp) _
   have hbR:W4.heap[p]?=some (.cells #[zp,zo,za] 40 (0,0)):=by
    rw[hW4];exact heap_alloc_at _ _ _ (by rw[hp];simp)
   have hbF:W4.heap[g]?=some (.cells #[.int .i64 EX,fl,fm,fd,fv,fp,fo] 35 (0,0)):=by
    rw[hW4,hg];exact(Below.heap_alloc _ _ _ (by simp)).trans (heap_alloc_new w2 _)
   obtain⟨k0,k1,k2,k3,k4,k5,k6⟩:=cells7 hbF
   obtain⟨z0,z1,z2,-⟩:=cells3 hbR
   have hgl:g<W4.heap.size:=(Array.getElem?_eq_some_iff.1 hbF).1
   have hpl:p<W4.heap.size:=(Array.getElem?_eq_some_iff.1 hbR).1
   have HB4:=zh (HB2.out.trans (hb4.mono HB2.out.size))
   have HFS:=zh (HFS2.out.below hb4)
   have HM4:=zh (HRE.out.below hb4)
   have hb24:=HB2.out.trans (hb4.mono HB2.out.size)
   have HRAW:=zh (fun(w':World) (hb:Below W4.heap.size W4 w')=>(show SlS 5 IncK w' (Bl w'.heap.size) (.slice AR NR cR) raw from by
    have h:=SlS.below incK HR.out (hb24.trans (hb.mono hb24.size))
    exact h))
   have HS9:=zh (fun(w':World) (hb:Below W4.heap.size W4 w')=>(show(w'.cell? ⟨g,0,none⟩=some (.int .i64 EX)∧w'.cell? ⟨g,1,none⟩=some fl∧w'.cell? ⟨g,2,none⟩=some fm∧w'.cell? ⟨g,3,none⟩=some fd∧w'.cell? ⟨g,4,none⟩=some fv∧w'.cell? ⟨g,5,none⟩=some fp∧w'.cell? ⟨g,6,none⟩=some fo)∧(w'.cell? ⟨p,0,none⟩=some zp∧w'.cell? ⟨p,1,none⟩=some zo∧w'.cell? ⟨p,2,none⟩=some za)∧Below W4.heap.size W4 w' from⟨cells7 ((hb.block g hgl).trans hbF),⟨(cells3 ((hb.block p hpl).trans hbR)).1,(cells3 ((hb.block p hpl).trans hbR)).2.1,(cells3 ((hb.block p hpl).trans hbR)).2.2.1⟩,hb⟩))
   have HC:=zh (fun(w':World) (hb:Below W4.heap.size W4 w')=>cells7 ((hb.block g hgl).trans hbF))
   have hp24:r.plat.length≤24:=by have:=HPL.out;omega
   have hEX:=HEX.out
   have hex1:=fun(w':World) (hb:Below W4.heap.size W4 w')=>rexplain_f 2 (by omega) fl fm fd fv fp fo zp zo za F r w' (HFS.out.below hb) HOK.out (HM4.out.below hb) hp24 HLEN.out
   have hfm:=fun(w':World) (hb:Below W4.heap.size W4 w') (vL:Value) (L:List Inc) (hL:SlS 5 IncK w' (Bl w'.heap.size) vL L) (h1:L.length≤1000) (h2:∀x∈L,x.causes.length≤1000)=>iformat_any 2 (by omega) fl fm fd fv fp fo vL F L w' (HFS.out.below hb) HOK.out hL h1 h2
   have hrf:=fun(w':World) (hb:Below W4.heap.size W4 w') (vL:Value) (L:List Inc) (hL:SlS 5 IncK w' (Bl w'.heap.size) vL L) (h1:L.length≤1000) (h2:∀x∈L,x.causes.length≤1000)=>rformat_any 2 (by omega) fl fm fd fv fp fo vL F L w' (HFS.out.below hb) HOK.out hL h1 h2
   have hvi:=fun(w':World) (hb:Below W4.heap.size W4 w') (vL:Value) (L:List Inc) (hL:SlS 5 IncK w' (Bl w'.heap.size) vL L) (h1:L.length≤1000) (h2:∀x∈L,x.causes.length≤1000)=>ivalid_any 2 (by omega) fl fm fd fv fp fo vL F L w' (HFS.out.below hb) HOK.out hL h1 h2
   have hrv:=fun(w':World) (hb:Below W4.heap.size W4 w') (vL:Value) (L:List Inc) (hL:SlS 5 IncK w' (Bl w'.heap.size) vL L) (h1:L.length≤1000) (h2:∀x∈L,x.causes.length≤1000)=>rvalidI_any 2 (by omega) fl fm fd fv fp fo vL F L w' (HFS.out.below hb) HOK.out hL h1 h2
   rw[←hEX] at hex1 hfm hrf hvi hrv
   obtain⟨A4,c4,hf4,-,-⟩:=HFS.out.2.2.2.1.form
   have hnd9:=HOK.out.dveN
   obtain⟨hE1,hE2,hE3⟩:=expl_ok HOK.out (r:=r)
   have hE4:F.vols.length * F.ext.toNat≤2 * 2:=Nat.mul_le_mul HOK.out.volN (by have:=HOK.out.ext;omega)
   have hbt:=fun(w':World) (hb:Below W4.heap.size W4 w') (vL:Value) (hL:SlS 5 IncK w' (Bl w'.heap.size) vL (expl F r))=>(show Calls Tryz.prog 13 #[.agg #[.int .i64 EX,fl,fm,fd,fv,fp,fo],vL,.int .i64 which,.int .i64 pos,.int .i64 by_] w' _ from by
    rw[hf4]
    exact bent_any EX fl fm fd fp fo vL A4 F.dves.length c4 (expl F r) which pos by_ w' hL (by omega) (fun x hx=>by have:=hE2 x hx;omega) (by omega) HI.out.1 HI.out.2.1 HI.out.2.2)
   have HEL:=zh (show(expl F r).length≤4∧∀x∈expl F r,x.causes.length≤4 from⟨by omega,hE2⟩)
   obtain⟨E1,hEE⟩:=zx (expl F r)
   rw[←hEE] at hex1 hbt HEL
   have HEX1:=zh hex1
   have HBT:=zh hbt
   have HFM0:=zh hfm
   have HRF0:=zh hrf
   have HVI0:=zh hvi
   have HRV0:=zh hrv
   clear hEE hE1 hE2 hE3 hE4 hf4 hnd9 hp24 hEX hex1 hfm hrf hvi hrv hbt hgl hpl hb24 hW4 hg hp hsz4 hb4 hbR hbF k0 k1 k2 k3 k4 k5 k6 z0 z1 z2
   go_cut [15] from 45 to 57 (fun v15 wc=>∃gA,v15=.slice (some ⟨gA,0,none⟩) 3 3∧Hid (∀i,i<3→∃v L,wc.cell? ⟨gA,i,none⟩=some v∧SlS 5 IncK wc (Bl wc.heap.size) v L∧L.length≤1000∧∀x∈L,x.causes.length≤1000)∧Hid (Below W4.heap.size W4 wc))
   case first =>
    refine region_tail (S:=(fun w'=>(w'.cell? ⟨g,0,none⟩=some (.int .i64 EX)∧w'.cell? ⟨g,1,none⟩=some fl∧w'.cell? ⟨g,2,none⟩=some fm∧w'.cell? ⟨g,3,none⟩=some fd∧w'.cell? ⟨g,4,none⟩=some fv∧w'.cell? ⟨g,5,none⟩=some fp∧w'.cell? ⟨g,6,none⟩=some fo)∧(w'.cell? ⟨p,0,none⟩=some zp∧w'.cell? ⟨p,1,none⟩=some zo∧w'.cell? ⟨p,2,none⟩=some za)∧Below W4.heap.size W4 w')) [] (by kernel_rfl) (HS9.out _ (Below.refl W4.heap.size W4).drew) (fun hHeld=>?_)
    refine tk 0 45 ?_
    refine tk 1 46 ?_
    refine tk 3 48 ?_
    refine tk 4 49 ?_
    refine tk 5 50 ?_
    refine tk 7 52 ?_
    refine tk 8 53 ?_
    refine tk 9 54 ?_
    refine tk 11 56 ?_
    refine readyT (rs:=[2]) (by kernel_rfl) (by simp) ?_
    refine AllReadyT.cons rfl (fun K hK=>?_) ?_
    ·go_simp
     refine(HEX1.out _ hHeld.2.2).mono ?_
     rintro e w2e ⟨u2,rfl,hO2,hb2e⟩
     obtain⟨A2x,c2x,hu2,-,-⟩:=hO2.form
     subst hu2
     refine hK.out _ _ ?_ (fun hHeld=>?_)
     ·(first|exact HS9.out _ hb12|exact HS9.out _ (hHeld.2.2.trans (hb10.mono hHeld.2.2.size))|exact HS9.out _ (hHeld.2.2.trans (hb6.mono hHeld.2.2.size))|exact HS9.out _ (hHeld.2.2.trans (hb2e.mono hHeld.2.2.size)))
     clear hK K
     (try simp only[Act.put,z1,z2,z3])
     refine readyT (rs:=[6]) (by kernel_rfl) (by simp) ?_
     refine AllReadyT.cons rfl (fun K hK=>?_) ?_
     ·go_simp
      refine(HEX1.out _ hHeld.2.2).mono ?_
      rintro e w6e ⟨u6,rfl,hO6,hb6⟩
      obtain⟨A6x,c6x,hu6,-,-⟩:=hO6.form
      subst hu6
      refine hK.out _ _ ?_ (fun hHeld=>?_)
      ·(first|exact HS9.out _ hb12|exact HS9.out _ (hHeld.2.2.trans (hb10.mono hHeld.2.2.size))|exact HS9.out _ (hHeld.2.2.trans (hb6.mono hHeld.2.2.size))|exact HS9.out _ (hHeld.2.2.trans (hb2e.mono hHeld.2.2.size)))
      clear hK K
      (try simp only[Act.put,z1,z2,z3])
      refine readyT (rs:=[10]) (by kernel_rfl) (by simp) ?_
      refine AllReadyT.cons rfl (fun K hK=>?_) ?_
      ·have hbt:=HBT.out _ hHeld.2.2 _ (SlS.mono incK hO6 (fun x hx=>hx.2))
       go_simp
       refine hbt.mono ?_
       rintro e w10 ⟨u10,M10,rfl,hO10,hl10,hc10,hb10⟩
       obtain⟨A10x,c10x,hu10,-,-⟩:=hO10.form
       subst hu10
       refine hK.out _ _ ?_ (fun hHeld=>?_)
       ·(first|exact HS9.out _ hb12|exact HS9.out _ (hHeld.2.2.trans (hb10.mono hHeld.2.2.size))|exact HS9.out _ (hHeld.2.2.trans (hb6.mono hHeld.2.2.size))|exact HS9.out _ (hHeld.2.2.trans (hb2e.mono hHeld.2.2.size)))
       clear hK K
       (try simp only[Act.put,z1,z2,z3])
       refine readyT (rs:=[12]) (by kernel_rfl) (by simp) ?_
       refine AllReadyT.cons rfl (fun K hK=>?_) ?_
       ·have hb12:Below W4.heap.size W4 (w10.alloc (.cells #[.slice A2x E1.length c2x,.slice A10x M10.length c10x,.slice AR NR cR] 23)):=hHeld.2.2.alloc hHeld.2.2.size _
        have hb2c:Below w2e.heap.size w2e (w10.alloc (.cells #[.slice A2x E1.length c2x,.slice A10x M10.length c10x,.slice AR NR cR] 23)):=(hb6.trans (hb10.mono hb6.size)).alloc (hb6.trans (hb10.mono hb6.size)).size _
        have hb10c:Below w10.heap.size w10 (w10.alloc (.cells #[.slice A2x E1.length c2x,.slice A10x M10.length c10x,.slice AR NR cR] 23)):=(Below.refl w10.heap.size w10).alloc (Nat.le_refl _) _
        have ho1:SlS 5 IncK (w10.alloc (.cells #[.slice A2x E1.length c2x,.slice A10x M10.length c10x,.slice AR NR cR] 23)) (Bl (w10.alloc (.cells #[.slice A2x E1.length c2x,.slice A10x M10.length c10x,.slice AR NR cR] 23)).heap.size) (.slice A2x E1.length c2x) E1:=SlS.mono incK (SlS.keep incK hO2 (fun x hx=>hb2c.block x hx.2)) (fun x hx=>Nat.lt_of_lt_of_le hx.2 hb2c.size)
        have ho2:SlS 5 IncK (w10.alloc (.cells #[.slice A2x E1.length c2x,.slice A10x M10.length c10x,.slice AR NR cR] 23)) (Bl (w10.alloc (.cells #[.slice A2x E1.length c2x,.slice A10x M10.length c10x,.slice AR NR cR] 23)).heap.size) (.slice A10x M10.length c10x) M10:=SlS.mono incK (SlS.keep incK hO10 (fun x hx=>hb10c.block x hx.2)) (fun x hx=>Nat.lt_of_lt_of_le hx.2 hb10c.size)
        have ho3:=HRAW.out _ hb12
        have hX:=heap_alloc_new w10 (.cells #[.slice A2x E1.length c2x,.slice A10x M10.length c10x,.slice AR NR cR] 23)
        go_simp
        refine hK.out _ _ ?_ (fun hHeld=>?_)
        ·(first|exact HS9.out _ hb12|exact HS9.out _ (hHeld.2.2.trans (hb10.mono hHeld.2.2.size))|exact HS9.out _ (hHeld.2.2.trans (hb6.mono hHeld.2.2.size))|exact HS9.out _ (hHeld.2.2.trans (hb2e.mono hHeld.2.2.size)))
        clear hK K
        (try simp only[Act.put,z1,z2,z3])
        refine tk 13 15 ?_
        refine doneT (by kernel_rfl) ?_ _
        have HA:=zh hX
        have HO1:=zh ho1
        have HO2:=zh ho2
        have HO3:=zh ho3
        have HB12:=zh hb12
        have HLC:=zh (And.intro hl10 hc10)
        clear hHeld hO2 hO6 hO10 hb2e hb6 hb10 hb2c hb10c hl10 hc10 hb12 ho1 ho2 ho3 hX
        go_wp2_with fail
        go_meet
        exact⟨w10.heap.size,rfl,zh (fun i hi=>by
         have hc3:=cells3 HA.out
         rcases (show i=0∨i=1∨i=2 by omega) with rfl | rfl | rfl
         ·exact⟨_,_,hc3.1,HO1.out,by have:=HEL.out.1;omega,fun x hx=>by have:=HEL.out.2 x hx;omega⟩
         ·exact⟨_,_,hc3.2.1,HO2.out,by have:=HLC.out.1;omega,fun x hx=>by have:=HLC.out.2 x hx;omega⟩
         ·exact⟨_,_,hc3.2.2.1,HO3.out,by have:=HRL.out.1;omega,fun x hx=>by have:=HRL.out.2 x hx;omega⟩),HB12⟩
       exact AllReadyT.nil
      exact AllReadyT.nil
     exact AllReadyT.nil
    exact AllReadyT.nil
   case rest =>
    obtain⟨gA,rfl,HALL,HB9⟩:=hcut
    obtain⟨W9,rfl⟩:=zx (wc:World)
    go_wp2_with fail
    go_loopg [16] 3 (fun z v16 wr=>∃i:Nat,v16=.int .i64 (i:Int)∧i≤3∧z=3 - i∧Hid (Below W9.heap.size W9 wr))
    case atStart=>exact⟨0,rfl,by omega,rfl,zh (Below.refl _ _)⟩
    case round =>
     obtain⟨i,rfl,hi,rfl,HBW⟩:=hrel
     by_cases hlt:i<3
     ·have HLT:=zh hlt
      obtain⟨vi,Li,hci,hLi,hl1,hl2⟩:=HALL.out i hlt
      obtain⟨Ai,ci,hvi,-,-⟩:=hLi.form
      have hgAl:gA<W9.heap.size:=World.block_lt_of_cell? W9 _ hci
      have hm:=fun(w':World) (hb:Below W9.heap.size W9 w')=>And.intro (HB9.out.trans (hb.mono HB9.out.size)) (SlS.below incK hLi hb)
      have HSL:=zh (fun(w':World) (hb:Below W9.heap.size W9 w')=>(show(w'.cell? ⟨g,0,none⟩=some (.int .i64 EX)∧w'.cell? ⟨g,1,none⟩=some fl∧w'.cell? ⟨g,2,none⟩=some fm∧w'.cell? ⟨g,3,none⟩=some fd∧w'.cell? ⟨g,4,none⟩=some fv∧w'.cell? ⟨g,5,none⟩=some fp∧w'.cell? ⟨g,6,none⟩=some fo)∧w'.cell? ⟨gA,i,none⟩=some vi∧Below W9.heap.size W9 w' from⟨HC.out w' (hm w' hb).1,(hb.cell (p:=⟨gA,i,none⟩) hgAl).trans hci,hb⟩))
      have HFM:=zh (fun(w':World) (hb:Below W9.heap.size W9 w')=>HFM0.out w' (hm w' hb).1 vi Li (hm w' hb).2 hl1 hl2)
      have HRF:=zh (fun(w':World) (hb:Below W9.heap.size W9 w')=>HRF0.out w' (hm w' hb).1 vi Li (hm w' hb).2 hl1 hl2)
      have HVI:=zh (fun(w':World) (hb:Below W9.heap.size W9 w')=>HVI0.out w' (hm w' hb).1 vi Li (hm w' hb).2 hl1 hl2)
      have HRV:=zh (fun(w':World) (hb:Below W9.heap.size W9 w')=>HRV0.out w' (hm w' hb).1 vi Li (hm w' hb).2 hl1 hl2)
      obtain⟨TT,hTT⟩:∃t:ByteArray,t=⟨(fmtR F Li).1.toArray⟩:=⟨_,rfl⟩
      obtain⟨ER,hER⟩:=zx ((fmtR F Li).2)
      obtain⟨VB,hVB⟩:=zx (validB F Li)
      rw[←hTT,←hER] at HFM HRF
      rw[←hVB] at HVI HRV
      have e1:(TT.toList==TT.toList)=true:=by simp
      have e2:(ER != ER)=false:=by simp
      have e3:(VB != VB)=false:=by simp
      have i1:(i:Int)<3:=by omega
      have HBX:=zh HBW.out
      clear hci hLi hl1 hl2 hvi hgAl hm hTT hER hVB
      go_upto_region 13 with fail
      go_cut [17,18] from 58 to 104 (fun v17 v18 wc=>v17=.string TT∧v18=.int .i64 ER∧Hid (Below W9.heap.size W9 wc))
      case first =>
       refine region_tail (S:=(fun w'=>(w'.cell? ⟨g,0,none⟩=some (.int .i64 EX)∧w'.cell? ⟨g,1,none⟩=some fl∧w'.cell? ⟨g,2,none⟩=some fm∧w'.cell? ⟨g,3,none⟩=some fd∧w'.cell? ⟨g,4,none⟩=some fv∧w'.cell? ⟨g,5,none⟩=some fp∧w'.cell? ⟨g,6,none⟩=some fo)∧w'.cell? ⟨gA,i,none⟩=some vi∧Below W9.heap.size W9 w')) [] (by kernel_rfl) (HSL.out _ HBX.out.drew) (fun hHeld=>?_)
       refine tk 0 65 ?_
       refine tk 1 66 ?_
       refine tk 2 67 ?_
       refine tk 3 68 ?_
       refine tk 4 69 ?_
       refine readyT (rs:=[5]) (by kernel_rfl) (by simp) ?_
       refine AllReadyT.cons rfl (fun K hK=>?_) ?_
       ·go_simp
        refine(HFM.out _ hHeld.2.2).mono ?_
        rintro e w5 ⟨rfl,hb5⟩
        refine hK.out _ _ ?_ (fun hHeld=>?_)
        ·exact HSL.out _ (hHeld.2.2.trans (hb5.mono hHeld.2.2.size))
        clear hK K
        (try simp only[Act.put,z1,z2,z3])
        refine tk 6 64 ?_
        refine tk 7 71 ?_
        refine tk 8 72 ?_
        refine tk 9 17 ?_
        refine tk 10 18 ?_
        refine doneT (by kernel_rfl) ?_ _
        have HB5:=zh hHeld.2.2
        clear hHeld hb5
        go_wp2_with fail
        go_meet
        exact⟨rfl,rfl,HB5⟩
       exact AllReadyT.nil
      case rest =>
       clear HBX
       obtain⟨rfl,rfl,HBX⟩:=hcut
       obtain⟨wx,rfl⟩:=zx (wc:World)
       go_upto_region 14 with fail
       go_cut [19,20] from 58 to 104 (fun v19 v20 wc=>v19=.string TT∧v20=.int .i64 ER∧Hid (Below W9.heap.size W9 wc))
       case first =>
        refine region_tail (S:=(fun w'=>(w'.cell? ⟨g,0,none⟩=some (.int .i64 EX)∧w'.cell? ⟨g,1,none⟩=some fl∧w'.cell? ⟨g,2,none⟩=some fm∧w'.cell? ⟨g,3,none⟩=some fd∧w'.cell? ⟨g,4,none⟩=some fv∧w'.cell? ⟨g,5,none⟩=some fp∧w'.cell? ⟨g,6,none⟩=some fo)∧w'.cell? ⟨gA,i,none⟩=some vi∧Below W9.heap.size W9 w')) [] (by kernel_rfl) (HSL.out _ HBX.out.drew) (fun hHeld=>?_)
        refine tk 0 74 ?_
        refine tk 1 75 ?_
        refine tk 2 76 ?_
        refine tk 3 77 ?_
        refine tk 4 78 ?_
        refine readyT (rs:=[5]) (by kernel_rfl) (by simp) ?_
        refine AllReadyT.cons rfl (fun K hK=>?_) ?_
        ·go_simp
         refine(HRF.out _ hHeld.2.2).mono ?_
         rintro e w5 ⟨rfl,hb5⟩
         refine hK.out _ _ ?_ (fun hHeld=>?_)
         ·exact HSL.out _ (hHeld.2.2.trans (hb5.mono hHeld.2.2.size))
         clear hK K
         (try simp only[Act.put,z1,z2,z3])
         refine tk 6 73 ?_
         refine tk 7 80 ?_
         refine tk 8 81 ?_
         refine tk 9 19 ?_
         refine tk 10 20 ?_
         refine doneT (by kernel_rfl) ?_ _
         have HB5:=zh hHeld.2.2
         clear hHeld hb5
         go_wp2_with fail
         go_meet
         exact⟨rfl,rfl,HB5⟩
        exact AllReadyT.nil
       case rest =>
        clear HBX
        obtain⟨rfl,rfl,HBX⟩:=hcut
        obtain⟨wy,rfl⟩:=zx (wc:World)
        go_upto_region 15 with fail
        go_cut [104] from 58 to 104 (fun v104 wc=>v104=.bool false∧Hid (Below W9.heap.size W9 wc))
        case first =>
         refine region_tail (S:=(fun w'=>(w'.cell? ⟨g,0,none⟩=some (.int .i64 EX)∧w'.cell? ⟨g,1,none⟩=some fl∧w'.cell? ⟨g,2,none⟩=some fm∧w'.cell? ⟨g,3,none⟩=some fd∧w'.cell? ⟨g,4,none⟩=some fv∧w'.cell? ⟨g,5,none⟩=some fp∧w'.cell? ⟨g,6,none⟩=some fo)∧w'.cell? ⟨gA,i,none⟩=some vi∧Below W9.heap.size W9 w')) [] (by kernel_rfl) (HSL.out _ HBX.out.drew) (fun hHeld=>?_)
         refine tk 0 82 ?_
         refine tk 1 83 ?_
         refine tk 2 84 ?_
         refine tk 3 85 ?_
         refine tk 4 86 ?_
         refine tk 5 87 ?_
         refine tk 6 88 ?_
         refine tk 7 89 ?_
         refine tk 8 90 ?_
         refine tk 9 91 ?_
         refine tk 10 92 ?_
         refine tk 11 93 ?_
         refine tk 12 94 ?_
         refine tk 13 95 ?_
         refine tk 15 97 ?_
         refine tk 16 98 ?_
         refine tk 17 99 ?_
         refine tk 18 100 ?_
         refine tk 19 101 ?_
         refine readyT (rs:=[14]) (by kernel_rfl) (by simp) ?_
         refine AllReadyT.cons rfl (fun K hK=>?_) ?_
         ·go_simp
          refine(HVI.out _ hHeld.2.2).mono ?_
          rintro e w5 ⟨rfl,hb5⟩
          refine hK.out _ _ ?_ (fun hHeld=>?_)
          ·(first|exact HSL.out _ (hHeld.2.2.trans (hb6.mono hHeld.2.2.size))|exact HSL.out _ (hHeld.2.2.trans (hb5.mono hHeld.2.2.size)))
          clear hK K
          (try simp only[Act.put,z1,z2,z3])
          refine readyT (rs:=[20]) (by kernel_rfl) (by simp) ?_
          refine AllReadyT.cons rfl (fun K hK=>?_) ?_
          ·go_simp
           refine(HRV.out _ hHeld.2.2).mono ?_
           rintro e w6 ⟨rfl,hb6⟩
           refine hK.out _ _ ?_ (fun hHeld=>?_)
           ·(first|exact HSL.out _ (hHeld.2.2.trans (hb6.mono hHeld.2.2.size))|exact HSL.out _ (hHeld.2.2.trans (hb5.mono hHeld.2.2.size)))
           clear hK K
           (try simp only[Act.put,z1,z2,z3])
           refine tk 21 103 ?_
           refine tk 22 104 ?_
           refine doneT (by kernel_rfl) ?_ _
           have HB6:=zh hHeld.2.2
           clear hHeld hb5 hb6
           go_wp2_with fail
           go_meet
           exact⟨rfl,HB6⟩
          exact AllReadyT.nil
         exact AllReadyT.nil
        case rest =>
         clear HBX
         obtain⟨rfl,HBX⟩:=hcut
         go_wp2_with fail
         go_roundg (3 - (i+1))
         case measure=>have:=HLT.out;omega
         case rel=>exact⟨i+1,by go_num,by have:=HLT.out;omega,rfl,HBX⟩
     ·have hi3:i=3:=by omega
      subst hi3
      go_wp2_with fail
      refine(HAW.out _).mono ?_
      rintro e w11 ⟨rfl,hb11⟩
      have HB11:=zh (HBW.out.trans (hb11.mono HBW.out.size))
      clear hb11
      go_wp2_with fail
      go_ret
      exact⟨rfl,HB4.out.trans ((HB9.out.trans (HB11.out.mono HB9.out.size)).mono HB4.out.size)⟩
end Go.Proofs.YtcfkllnpkmebpaaGreatDoor

namespace Go.Proofs.YtcfkllnpkmebpaaGreatDoor
open Go.RowKit Go.ChangeShapes Go.WideShapes Go.ChangeAt Go.Deep Go.Joins
set_option linter.unusedVariables false
set_option linter.unusedSimpArgs false
theorem wf_i64{x:Int} (h:(Lit.int .i64 x).wf=true):I64 x:=by
 simpa[Lit.wf,IntKind.min,IntKind.max,IntKind.signed,IntKind.bits,I64] using h
def RowsAt{α:Type} (w:World) (size:Nat) (K:List Value→α→Prop) (els:List α) (b off:Nat):Prop :=
 ∀k a,els[k]?=some a→∃cs,cs.length=size∧(∀i v,cs[i]?=some v→w.cell? ⟨b,off+k * size+i,none⟩=some v)∧K cs a
section
variable {H : Type} {enc : TypeId × Value → H} {P : Program} {W : World}
theorem open_intS{t e:TypeId} {spare:Nat→Bool} {held:Bool} {base fuel:Nat} {v:Value} {x:DataW H×List MemPlace} (ht:P.underlying t=some (.slice e)) (he:P.underlying e=some (.int .i64)) (hc:P.cellsOf e=1)
  (h:DataW.trod enc P W base spare held fuel t [v]=some x):∃xs,IntS W (Bl W.heap.size) v xs:=by
 rcases open_ints ht he hc h with ⟨hcs,_⟩ | ⟨a,len,cap,zs,hcs,_,hl,hm,hz,_,hcell,hwz⟩
 ·simp at hcs;subst hcs
  exact⟨[],IntS.nil _ _ _⟩
 ·simp at hcs;subst hcs
  have hzl:len≤zs.length:=by rw[hz];split <;> omega
  have hxl:(zs.take len).length=len:=by rw[List.length_take];omega
  refine⟨zs.take len,⟨some a,cap,by rw[hxl],by rw[hxl];exact hl,by rw[hxl];omega,fun hn=>?_⟩,fun y hy=>wf_i64 (hwz y (List.mem_of_mem_take hy))⟩
  rw[hxl] at hn
  obtain⟨b,off,spot⟩:=a
  have g0:=hcell 0 (by omega)
  have hspot:spot=none:=by simpa[Addr.add] using World.cell?_spot g0
  subst hspot
  have hb:=block_lt_of_cell g0
  refine⟨b,off,rfl,by simpa[Addr.add,Bl] using hb,fun k y hk=>?_⟩
  have hkl:k<(zs.take len).length:=(List.getElem?_eq_some_iff.1 hk).1
  rw[hxl] at hkl
  have g:=hcell k (by omega)
  have e1:(⟨b,off,none⟩:Addr).add k=⟨b,off+k,none⟩:=by unfold Addr.add;split <;> simp_all
  rw[e1] at g
  rw[g]
  rw[List.getElem?_take_of_lt hkl] at hk
  rw[List.getD,hk];rfl
theorem open_int1{t:TypeId} {spare:Nat→Bool} {held:Bool} {base fuel:Nat} {v:Value} {x:DataW H×List MemPlace} (ht:P.underlying t=some (.int .i64))
  (h:DataW.trod enc P W base spare held fuel t [v]=some x):∃a,v=.int .i64 a∧I64 a:=by
 obtain⟨a,e0,_,wa⟩:=DataW.trod_int ht h
 simp at e0
 exact⟨a,e0,wf_i64 wa⟩
theorem open_rows{α:Type} {t te:TypeId} {size fuel:Nat} {v:Value} {x:DataW H×List MemPlace} (K:List Value→α→Prop) (ht:P.underlying t=some (.slice te)) (hC:P.cellsOf te=size) (h0:0<size)
  (hel:∀n cs y,DataW.trod enc P W 0 (fun _=>true) true n te cs=some y→cs.length=size→∃a,K cs a)
  (h:DataW.trod enc P W 0 (fun _=>true) true fuel t [v]=some x):∃els,Row (Bl W.heap.size) v els.length (RowsAt W size K els)∧∀a∈els,∃cs,K cs a:=by
 rcases open_slice ht h with ⟨hcs1,_⟩ | ⟨a,len,cap,m,n,D,Pl,hcs1,hb,hl,hm,hmm,_,hi⟩
 ·simp at hcs1;subst hcs1
  exact⟨[],Row.nil _ _ _,fun a ha=>by cases ha⟩
 ·simp at hcs1;subst hcs1
  have hlm:len≤m:=by rw[hmm];split <;> omega
  have key:∀i,i<m→∃(e:α) (cs:List Value),cs.length=size∧(∀j u,cs[j]?=some u→W.cell? (a.add (i * size+j))=some u)∧K cs e:=by
   intro i him
   obtain⟨cs',hcell,ht'⟩:=hi i him
   rw[hC] at hcell
   obtain⟨_,hl2,hat⟩:=World.cells?_some hcell
   obtain⟨e,he⟩:=hel _ _ _ ht' hl2
   refine⟨e,cs',hl2,fun j u hu=>?_,he⟩
   have hj:j<cs'.length:=(List.getElem?_eq_some_iff.1 hu).1
   have g:=hat j (by omega)
   have e2:(a.add (i * size)).add j=a.add (i * size+j):=by
    unfold Addr.add
    by_cases hi0:i * size=0 <;> by_cases hj0:j=0 <;> simp[hi0,hj0,Nat.add_assoc]
   rw[e2] at g
   rw[g]
   exact hu
  have hex:∃els:List α,els.length=len∧∀k e,els[k]?=some e→∃cs:List Value,cs.length=size∧(∀j u,cs[j]?=some u→W.cell? (a.add (k * size+j))=some u)∧K cs e:=by
   have:∀q,q≤len→∃els:List α,els.length=q∧∀k e,els[k]?=some e→∃cs:List Value,cs.length=size∧(∀j u,cs[j]?=some u→W.cell? (a.add (k * size+j))=some u)∧K cs e:=by
    intro q
    induction q with
    | zero=>intro _;exact⟨[],rfl,fun k e he=>by simp at he⟩
    | succ q ih =>
     intro hq
     obtain⟨els,h1,h2⟩:=ih (by omega)
     obtain⟨e,cs,h3⟩:=key q (by omega)
     refine⟨els++[e],by simp[h1],fun k e' he'=>?_⟩
     rcases Nat.lt_or_ge k els.length with hk | hk
     ·rw[List.getElem?_append_left hk] at he'
      exact h2 k e' he'
     ·rw[List.getElem?_append_right hk] at he'
      have:k - els.length=0:=by
       rcases Nat.eq_zero_or_pos (k - els.length) with h0 | h0
       ·exact h0
       ·rw[List.getElem?_eq_none (by simp;omega)] at he';cases he'
      rw[this] at he'
      simp at he'
      subst he'
      have hkq:k=q:=by omega
      subst hkq
      exact⟨cs,h3⟩
   exact this len (Nat.le_refl _)
  obtain⟨els,hal,has⟩:=hex
  refine⟨els,⟨some a,cap,by rw[hal],by rw[hal];exact hl,by rw[hal];omega,fun hn=>?_⟩,fun e he=>?_⟩
  ·rw[hal] at hn
   obtain⟨b,off,spot⟩:=a
   obtain⟨cs0,hc0,hc1,-⟩:=has 0 els[0] (List.getElem?_eq_getElem (by omega))
   have g0:=hc1 0 cs0[0] (List.getElem?_eq_getElem (by omega))
   have hspot:spot=none:=by simpa[Addr.add] using World.cell?_spot g0
   subst hspot
   have hbb:=block_lt_of_cell g0
   refine⟨b,off,rfl,by simpa[Addr.add,Bl] using hbb,fun k e hk=>?_⟩
   obtain⟨cs,q1,q2,q3⟩:=has k e hk
   refine⟨cs,q1,fun i u hu=>?_,q3⟩
   have:=q2 i u hu
   rw[←this]
   unfold Addr.add;split <;> simp_all [Nat.add_assoc]
  ·obtain⟨k,hk,rfl⟩:=List.getElem_of_mem he
   obtain⟨cs,_,_,q3⟩:=has k _ (List.getElem?_eq_getElem hk)
   exact⟨cs,q3⟩
end
end Go.Proofs.YtcfkllnpkmebpaaGreatDoor

namespace Go.Proofs.YtcfkllnpkmebpaaGreatDoor
open Go.RowKit Go.ChangeShapes Go.WideShapes Go.ChangeAt Go.Deep Go.Joins
set_option linter.unusedVariables false
set_option linter.unusedSimpArgs false
section
variable {H : Type} {enc : TypeId × Value → H} {P : Program} {W : World}
theorem open_sls{α:Type} {t te:TypeId} {size fuel:Nat} {v:Value} {x:DataW H×List MemPlace} (K:World→(Nat→Prop)→List Value→α→Prop) (ht:P.underlying t=some (.slice te)) (hC:P.cellsOf te=size) (h0:0<size)
  (hel:∀n cs y,DataW.trod enc P W 0 (fun _=>true) true n te cs=some y→cs.length=size→∃a,K W (Bl W.heap.size) cs a)
  (h:DataW.trod enc P W 0 (fun _=>true) true fuel t [v]=some x):∃es,SlS size K W (Bl W.heap.size) v es:=by
 obtain⟨es,h1,-⟩:=open_rows (fun cs a=>K W (Bl W.heap.size) cs a) ht hC h0 hel h
 exact⟨es,h1⟩
end
end Go.Proofs.YtcfkllnpkmebpaaGreatDoor

namespace Go.Proofs.YtcfkllnpkmebpaaGreatDoor
open Go.RowKit Go.ChangeShapes Go.WideShapes Go.ChangeAt Go.Deep Go.Joins
set_option linter.unusedVariables false
set_option linter.unusedSimpArgs false
theorem open_incs{H:Type} {enc:TypeId×Value→H} {W:World} {r:Reach} {b0:Nat} {v:Value} {d:DataW H} {p:List MemPlace} (hv:Value.okWide Tryz.prog W r b0 23 v) (h:DataW.Trod enc Tryz.prog W 0 (fun _=>true) true 23 v d p) :
  ∃raw,SlS 5 IncK W (Bl W.heap.size) v raw:=by
 obtain⟨a,len,cap,rfl⟩:=okWide_slice Tryz.underlying23 hv
 obtain⟨fuel,hf⟩:=h
 have hc1:Tryz.prog.cellsOf 3=1:=by kernel_rfl
 have hc2:Tryz.prog.cellsOf 4=1:=by kernel_rfl
 have hc3:Tryz.prog.cellsOf 25=1:=by kernel_rfl
 refine open_sls (α:=Inc) IncK Tryz.underlying23 (size:=5) (by kernel_rfl) (by omega) (fun n cs y hy hl=>?_) (show DataW.trod enc Tryz.prog W 0 (fun _=>true) true fuel 23 [.slice a len cap]=some (d,p) from hf)
 obtain⟨xs,n,_,rfl,-,hlen,hf⟩:=DataW.trod_struct Tryz.underlying27 hy
 match cs,hl,xs,hlen,hf with
 | [u0,u1,u2,u3,u4],_,[z0,z1,z2,z3,z4],_,hf =>
  have t0:=hf 0 _ rfl
  have t1:=hf 1 _ rfl
  have t2:=hf 2 _ rfl
  have t3:=hf 3 _ rfl
  have t4:=hf 4 _ rfl
  obtain⟨k0,rfl,h0⟩:=open_int1 (t:=3) Tryz.underlying3 (by simpa[hc1] using t0)
  obtain⟨k1,rfl,h1⟩:=open_int1 (t:=3) Tryz.underlying3 (by simpa[hc1] using t1)
  obtain⟨b2,e2,-⟩:=DataW.trod_bool (t:=4) Tryz.underlying4 (by simpa[hc2] using t2)
  obtain⟨k3,rfl,h3⟩:=open_int1 (t:=3) Tryz.underlying3 (by simpa[hc1] using t3)
  simp at e2
  subst e2
  obtain⟨l,hl⟩:=open_sls (α:=Cau) (te:=102) (v:=u4) (t:=25) (W:=W) (enc:=enc) (P:=Tryz.prog) CauK Tryz.underlying25 (size:=2) (by kernel_rfl) (by omega) (fun n cs y hy hl=>by
   obtain⟨xs,n,_,rfl,-,hlen,hf⟩:=DataW.trod_struct Tryz.underlying102 hy
   match cs,hl,xs,hlen,hf with
   | [u0,u1],_,[z0,z1],_,hf =>
    have t0:=hf 0 _ rfl
    have t1:=hf 1 _ rfl
    obtain⟨k0,rfl,h0⟩:=open_int1 (t:=3) Tryz.underlying3 (by simpa[hc1] using t0)
    obtain⟨k1,rfl,h1⟩:=open_int1 (t:=3) Tryz.underlying3 (by simpa[hc1] using t1)
    exact⟨⟨k0,k1⟩,rfl⟩) (by simpa[hc3] using t4)
  exact⟨⟨k0,k1,b2,k3,l⟩,u4,rfl,hl⟩
end Go.Proofs.YtcfkllnpkmebpaaGreatDoor
