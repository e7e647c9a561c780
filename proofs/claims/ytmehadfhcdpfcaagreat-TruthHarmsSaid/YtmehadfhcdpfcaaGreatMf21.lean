/- The law of a made fleet is valid, by the reference: walked. -/
import Derived.Test.YtmehadfhcdpfcaaGreatMf20
import Derived.Test.YtmehadfhcdpfcaaGreatMf17
import Derived.Test.YtmehadfhcdpfcaaGreatMf01
set_option maxRecDepth 100000
set_option maxHeartbeats 12800000
namespace Go.Proofs.YtmehadfhcdpfcaaGreat
open Go.RowKit
set_option linter.unusedVariables false
set_option linter.unusedSimpArgs false
theorem rlaw_any(n:ByteArray) (r bs os bl ol be oe br orr cs cl ce cr:Nat) (sn sd rn rd en ed:Value) (w:World) (h:LawE w r bs os bl ol be oe br orr cr sn sd rn rd en ed) (hcs:1≤cs) (hce:1≤ce) (hcr:1≤cr) :
  Calls Tryz.prog 105 #[.agg #[.string n,.slice (some ⟨bs,os,none⟩) 1 cs,.slice (some ⟨bl,ol,none⟩) 1 cl,.slice (some ⟨be,oe,none⟩) 1 ce]] w fun e w'=>e=.returned (.bool true)∧Below w.heap.size w w':=by
 obtain⟨A1,N1,d1,rfl⟩:=h.rN.frm
 obtain⟨A2,N2,d2,rfl⟩:=h.rD.frm
 obtain⟨A3,N3,d3,rfl⟩:=h.eN.frm
 obtain⟨A4,N4,d4,rfl⟩:=h.eD.frm
 obtain⟨W0,hW0⟩:=zx (w.alloc (.cells #[.string n,.slice (some ⟨bs,os,none⟩) 1 cs,.slice (some ⟨bl,ol,none⟩) 1 cl,.slice (some ⟨be,oe,none⟩) 1 ce] 141))
 obtain⟨q,hq⟩:=zx w.heap.size
 have hb0:Below w.heap.size w W0:=by rw[hW0];exact(Below.refl _ _).alloc (Nat.le_refl _) _
 have hqk:W0.heap[q]?=some (.cells #[.string n,.slice (some ⟨bs,os,none⟩) 1 cs,.slice (some ⟨bl,ol,none⟩) 1 cl,.slice (some ⟨be,oe,none⟩) 1 ce] 141 (0,0)):=by rw[hW0,hq];exact heap_alloc_new _ _
 have hql:q<W0.heap.size:=(Array.getElem?_eq_some_iff.1 hqk).1
 have HF:=zh (fun(w':World) (hb:Below W0.heap.size W0 w')=>cells4 ((hb.block q hql).trans hqk))
 have HE:=zh (fun(w':World) (hb:Below W0.heap.size W0 w')=>(h.below hb0).below hb)
 have HS:=zh (fun(w':World) (hb:Below W0.heap.size W0 w')=>(show Calls Tryz.prog 149 #[.slice (some ⟨bs,os,none⟩) 1 cs,.int .i64 1] w' fun e w2=>e=.returned (.bool true)∧Below w'.heap.size w' w2 from rsmalls_any _ [⟨false,1,1⟩] w' (((h.below hb0).below hb).start cs hcs) (fun x hx=>by rw[List.mem_singleton.1 hx];exact⟨rfl,by decide,by decide⟩)))
 have HX:=zh (fun(w':World) (hb:Below W0.heap.size W0 w')=>(show Calls Tryz.prog 149 #[.slice (some ⟨be,oe,none⟩) 1 ce,.int .i64 1] w' fun e w2=>e=.returned (.bool true)∧Below w'.heap.size w' w2 from rsmalls_any _ [⟨false,1,100+r⟩] w' (((h.below hb0).below hb).exit ce hce) (fun x hx=>by rw[List.mem_singleton.1 hx];exact⟨rfl,by show 0<100+r;omega,Nat.gcd_one_left _⟩)))
 have HRW:=zh (fun(w':World) (hb:Below W0.heap.size W0 w')=>(show Calls Tryz.prog 149 #[.slice (some ⟨br,orr,none⟩) 1 cr,.int .i64 1] w' fun e w2=>e=.returned (.bool true)∧Below w'.heap.size w' w2 from rsmalls_any _ [⟨false,0,1⟩] w' (((h.below hb0).below hb).row hcr) (fun x hx=>by rw[List.mem_singleton.1 hx];exact⟨rfl,by decide,by decide⟩)))
 have HSU:=zh (fun(w':World) (hb:Below W0.heap.size W0 w')=>rsum1_any _ 1 1 w' (((h.below hb0).below hb).start cs hcs) (by omega) (by omega) (by decide))
 have HW0:=zh hW0
 have HQ:=zh hq
 have HB0:=zh hb0
 obtain⟨c0,c1,c2,c3⟩:=HF.out W0 (Below.refl _ _)
 clear h hW0 hq hb0 hqk hql hcs hce hcr
 go_enter Tryz.func105,Tryz.ntmps105
 go_wp2_with fail
 rw[←HW0.out,←HQ.out]
 refine(HS.out _ (Below.refl _ _)).mono ?_
 rintro e w1 ⟨rfl,hb1⟩
 have HB1:=zh hb1
 clear hb1 c0 c1 c2 c3
 obtain⟨c0,c1,c2,c3⟩:=HF.out w1 HB1.out
 go_wp2_with fail
 refine(HX.out _ HB1.out).mono ?_
 rintro e w2 ⟨rfl,hb2⟩
 have HB2:=zh (HB1.out.trans (hb2.mono HB1.out.size))
 clear hb2 c0 c1 c2 c3
 obtain⟨c0,c1,c2,c3⟩:=HF.out w2 HB2.out
 go_wp2_with fail
 clear c0 c1 c2 c3
 go_loopg [4] 1 (fun z v4 wr=>Hid (Below W0.heap.size W0 wr)∧((z=1∧v4=.int .i64 0)∨(z=0∧v4=.int .i64 1)))
 case atStart=>exact⟨HB2.out,.inl ⟨rfl,rfl⟩⟩
 case round =>
  obtain⟨HBR,h2⟩:=hrel
  rcases h2 with ⟨rfl,rfl⟩ | ⟨rfl,rfl⟩
  ·obtain⟨c0,c1,c2,c3⟩:=HF.out wr HBR.out
   have hE:=HE.out wr HBR.out
   have m0:=hE.r0
   clear hE
   go_wp2_with fail
   refine(HRW.out _ HBR.out).mono ?_
   rintro e w3 ⟨rfl,hb3⟩
   have HB3:=zh (HBR.out.trans (hb3.mono HBR.out.size))
   clear hb3 c0 c1 c2 c3 m0
   obtain⟨c0,c1,c2,c3⟩:=HF.out w3 HB3.out
   have hE:=HE.out w3 HB3.out
   have m0:=hE.r0
   have x0:=hE.x0
   have x1:=hE.x1
   have x2:=hE.x2
   have HSG:=zh (rsign_any _ _ 0 1 w3 hE.rN hE.rD (by omega))
   rw[show cmpI 0 0=0 from rfl] at HSG
   clear hE
   go_wp2_with fail
   refine HSG.out.mono ?_
   rintro e w4 ⟨rfl,hb4⟩
   have HB4:=zh (HB3.out.trans (hb4.mono HB3.out.size))
   clear hb4 c0 c1 c2 c3 m0 x0 x1 x2
   go_wp2_with fail
   go_roundg 0
   case measure=>omega
   case rel=>exact⟨HB4.out,.inr ⟨rfl,rfl⟩⟩
  ·obtain⟨c0,c1,c2,c3⟩:=HF.out wr HBR.out
   go_wp2_with fail
   refine(HSU.out _ HBR.out).mono ?_
   rintro e w4 ⟨un,um,rfl,hun,hum,hb4⟩
   obtain⟨B1,M1,f1,rfl⟩:=hun.frm
   obtain⟨B2,M2,f2,rfl⟩:=hum.frm
   obtain⟨W5,hW5⟩:=zx (w4.alloc (.cells #[.bool false,.slice B1 M1 f1,.slice B2 M2 f2] 61))
   obtain⟨y,hy⟩:=zx w4.heap.size
   have hb5:Below w4.heap.size w4 W5:=by rw[hW5];exact(Below.refl _ _).alloc (Nat.le_refl _) _
   have hyk:W5.heap[y]?=some (.cells #[.bool false,.slice B1 M1 f1,.slice B2 M2 f2] 61 (0,0)):=by rw[hW5,hy];exact heap_alloc_new _ _
   obtain⟨y1,hy1⟩:=zx (Value.slice B1 M1 f1)
   obtain⟨y2,hy2⟩:=zx (Value.slice B2 M2 f2)
   have hu1:=(hun.mono Fr.bl).below hb5
   have hu2:=(hum.mono Fr.bl).below hb5
   rw[←hy1] at hu1 hyk
   rw[←hy2] at hu2 hyk
   obtain⟨z0,z1,z2,-⟩:=cells3 hyk
   have HB5:=zh ((HBR.out.trans (hb4.mono HBR.out.size)).trans (hb5.mono (Nat.le_trans HBR.out.size hb4.size)))
   have HYL:=zh (Array.getElem?_eq_some_iff.1 hyk).1
   have HU1:=zh hu1
   have HU2:=zh hu2
   have HSA:=zh (fun W a b (h:HeldF W5 y y (.bool false) y1 y2 (.bool false) y1 y2 W) (h3:LS W (Bl W.heap.size) a (natL 1)) (h4:LS W (Bl W.heap.size) b (natL 1))=>rsame_any y1 y2 a b 1 1 1 1 W (h.ls HU1.out) (h.ls HU2.out) h3 h4 (by omega) (by omega) (by omega) (by omega))
   rw[show decide (cmpI (1 * 1) (1 * 1)=0)=true from by decide] at HSA
   have HS0:=zh (show HeldF W5 y y (.bool false) y1 y2 (.bool false) y1 y2 W5.drew from⟨z0,z1,z2,z0,z1,z2,(Below.refl _ _).drew⟩)
   have HW5:=zh hW5
   have HY:=zh hy
   clear hun hum hb4 hb5 hyk hu1 hu2 z0 z1 z2 hW5 hy hy1 hy2 c0 c1 c2 c3
   go_upto_region 10 with fail
   rw[←HW5.out,←HY.out]
   refine region_tail (S:=(fun w'=>w'.cell? ⟨y,0,none⟩=some (.bool false)∧w'.cell? ⟨y,1,none⟩=some y1∧w'.cell? ⟨y,2,none⟩=some y2∧w'.cell? ⟨y,0,none⟩=some (.bool false)∧w'.cell? ⟨y,1,none⟩=some y1∧w'.cell? ⟨y,2,none⟩=some y2∧Below W5.heap.size W5 w')) [] (by kernel_rfl) HS0.out (fun hHeld=>?_)
   refine tk 0 73 ?_
   refine tk 1 74 ?_
   refine tk 2 75 ?_
   refine tk 3 76 ?_
   refine readyT (rs:=[4]) (by kernel_rfl) (by simp) ?_
   refine AllReadyT.cons rfl (fun K hK=>?_) ?_
   ·go_simp
    (go_at_call 152;refine(rint_any 1 _ (by omega)).mono ?_;rintro e w6 ⟨un,um,rfl,hun,hum,hb6⟩)
    go_wp2_with fail
    refine hK.out _ _ ?_ (fun hHeld=>?_)
    ·(first|(with_reducible assumption)|exact HeldF.below (by assumption) hb7 HYL.out HYL.out|exact HeldF.below (by assumption) hb6 HYL.out HYL.out)
    clear hK K
    (try simp only[Act.put,z1,z2,z3])
    refine readyT (rs:=[5]) (by kernel_rfl) (by simp) ?_
    refine AllReadyT.cons rfl (fun K hK=>?_) ?_
    ·go_simp
     (go_at_call 151;refine(HSA.out _ _ _ (by assumption) (hun.mono Fr.bl) (hum.mono Fr.bl)).mono ?_;rintro e w7 ⟨rfl,hb7⟩)
     go_wp2_with fail
     refine hK.out _ _ ?_ (fun hHeld=>?_)
     ·(first|(with_reducible assumption)|exact HeldF.below (by assumption) hb7 HYL.out HYL.out|exact HeldF.below (by assumption) hb6 HYL.out HYL.out)
     clear hK K
     (try simp only[Act.put,z1,z2,z3])
     refine tk 6 79 ?_
     refine tk 7 80 ?_
     refine doneT (by kernel_rfl) ?_ _
     have hBZ:Below W5.heap.size W5 w7:=HeldF.bl (q:=y) (p:=y) (by assumption)
     have hB07:=HB5.out.trans (hBZ.mono HB5.out.size)
     have HB7:=zh hB07
     clear hHeld hun hum hb6 hb7 hBZ hB07
     obtain⟨WG,hWG⟩:=zx (w7.alloc (.cells #[.bool false] 4))
     obtain⟨g,hg⟩:=zx w7.heap.size
     have hgk:WG.heap[g]?=some (.cells #[.bool false] 4 (0,0)):=by rw[hWG,hg];exact heap_alloc_new _ _
     have HBG:=zh (show Below W0.heap.size W0 WG from by rw[hWG];exact HB7.out.alloc HB7.out.size _)
     have HGG:=zh (show W0.heap.size≤g from by rw[hg];exact HB7.out.size)
     have HGK:=zh hgk
     have HWG:=zh hWG
     have HGE:=zh hg
     clear hWG hg hgk
     have hmk:=mk_bool1
     go_upto_region 13 with fail
     rw[←HWG.out,←HGE.out]
     clear hmk
     go_wp2_with fail
     go_loopg [8,9,10] 1 (fun z v8 v9 v10 wr=>(z=1∧v8=.int .i64 0∧WG=wr)∨(z=0∧v8=.int .i64 1∧Hid (wr.heap[g]?=some (.cells #[.bool true] 4 (0,0)))∧Hid (Below W0.heap.size W0 wr)))
     case atStart=>exact .inl ⟨rfl,rfl,rfl⟩
     case round =>
      rcases hrel with ⟨rfl,rfl,rfl⟩ | ⟨rfl,rfl,hgt,hbt⟩
      ·go_wp2_with fail
       go_loopg [9,10] 1 (fun z v9 v10 wr=>(z=1∧v9=.int .i64 0∧WG=wr)∨(z=0∧v9=.int .i64 1∧Hid (wr.heap[g]?=some (.cells #[.bool true] 4 (0,0)))∧Hid (Below W0.heap.size W0 wr)))
       case atStart=>exact .inl ⟨rfl,rfl,rfl⟩
       case round =>
        rcases hrel with ⟨rfl,rfl,rfl⟩ | ⟨rfl,rfl,hgt,hbt⟩
        ·have kg:WG.cell? ⟨g,0,none⟩=some (.bool false):=by rw[cell_of_row _ _ _ _ _ _ HGK.out];rfl
         obtain⟨k0,k1,k2,k3⟩:=HF.out WG HBG.out
         have hE:=HE.out WG HBG.out
         have m0:=hE.e0
         have m1:=hE.e1
         have m2:=hE.e2
         have HSG:=zh (rsign_any _ _ 1 (100+r) WG hE.eN hE.eD (by omega))
         rw[show cmpI 1 0=1 from rfl] at HSG
         clear hE
         go_wp2_with fail
         refine HSG.out.mono ?_
         rintro e w8 ⟨rfl,hb8⟩
         have hgk8:=(hb8.block g (Array.getElem?_eq_some_iff.1 HGK.out).1).trans HGK.out
         have kg8:w8.cell? ⟨g,0,none⟩=some (.bool false):=by rw[cell_of_row _ _ _ _ _ _ hgk8];rfl
         have kf8:w8.frozen? ⟨g,0,none⟩=false:=frozen_of_row _ _ _ _ _ hgk8
         obtain⟨WX,hWX⟩:=zx (w8.setCell ⟨g,0,none⟩ (.bool true))
         have hgx:WX.heap[g]?=some (.cells #[.bool true] 4 (0,0)):=by rw[hWX];exact heap_setCell_same w8 g 0 _ _ _ hgk8
         have HGX:=zh hgx
         have HBX:=zh (show Below W0.heap.size W0 WX from by rw[hWX];exact(HBG.out.trans (hb8.mono HBG.out.size)).setCell HGG.out _)
         have HWX:=zh hWX
         clear hb8 hgk8 hWX hgx kg k0 k1 k2 k3 m0 m1 m2
         go_upto_region 20 with fail
         rw[←HWX.out]
         clear kg8 kf8
         go_wp2_with fail
         go_loopg [10] 1 (fun z v10 wr=>(z=1∧v10=.int .i64 0∧WX=wr)∨(z=0∧v10=.int .i64 1∧Hid (wr.heap[g]?=some (.cells #[.bool true] 4 (0,0)))∧Hid (Below W0.heap.size W0 wr)))
         case atStart=>exact .inl ⟨rfl,rfl,rfl⟩
         case round =>
          rcases hrel with ⟨rfl,rfl,rfl⟩ | ⟨rfl,rfl,hgt,hbt⟩
          ·have kg:WX.cell? ⟨g,0,none⟩=some (.bool true):=by rw[cell_of_row _ _ _ _ _ _ HGX.out];rfl
           have kf:WX.frozen? ⟨g,0,none⟩=false:=frozen_of_row _ _ _ _ _ HGX.out
           go_wp2_with fail
           go_roundg 0
           case measure=>omega
           case rel=>exact .inr ⟨rfl,rfl,heap_setCell_same WX g 0 _ _ _ HGX.out,HBX.out.setCell HGG.out _⟩
          ·go_wp2_with fail
           go_roundg 0
           case measure=>omega
           case rel=>exact .inr ⟨rfl,rfl,hgt.out,hbt.out⟩
        ·go_wp2_with fail
         go_roundg 0
         case measure=>omega
         case rel=>exact .inr ⟨rfl,rfl,hgt.out,hbt.out⟩
      ·go_wp2_with fail
       go_loopg [11] 1 (fun z v11 w2=>wr=w2∧((z=1∧v11=.int .i64 0)∨(z=0∧v11=.int .i64 1)))
       case atStart=>exact⟨rfl,.inl ⟨rfl,rfl⟩⟩
       case round =>
        obtain⟨hww,h2⟩:=hrel
        subst hww
        rcases h2 with ⟨rfl,rfl⟩ | ⟨rfl,rfl⟩
        ·have kg:wr.cell? ⟨g,0,none⟩=some (.bool true):=by rw[cell_of_row _ _ _ _ _ _ hgt.out];rfl
         go_wp2_with fail
         go_roundg 0
         case measure=>omega
         case rel=>exact⟨rfl,.inr ⟨rfl,rfl⟩⟩
        ·go_wp2_with fail
         go_ret
         exact⟨rfl,HB0.out.trans (hbt.out.mono HB0.out.size)⟩
    exact AllReadyT.nil
   exact AllReadyT.nil
end Go.Proofs.YtmehadfhcdpfcaaGreat
