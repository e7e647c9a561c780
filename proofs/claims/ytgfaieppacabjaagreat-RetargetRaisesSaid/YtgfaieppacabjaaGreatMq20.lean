/- Parts. -/
import Derived.Test.YtgfaieppacabjaaGreatMq19
set_option linter.unusedSectionVars false
set_option maxRecDepth 100000
set_option maxHeartbeats 12800000
set_option linter.unusedVariables false
set_option linter.unusedSimpArgs false
namespace Go.Proofs.YtgfaieppacabjaaGreat
open Go.RowKit
theorem rlaw_any(n:ByteArray)(r bs os bl ol be oe br orr cs cl ce cr:Nat)(sn sd rn rd en ed:Value)(w:World)(h:LawE w r bs os bl ol be oe br orr cr sn sd rn rd en ed)(hcs:1<=cs)(hce:1<=ce)(hcr:1<=cr) :
  Calls Tryz.prog 100 #[.agg #[.string n,.slice (some ⟨bs,os,none⟩) 1 cs,.slice (some ⟨bl,ol,none⟩) 1 cl,.slice (some ⟨be,oe,none⟩) 1 ce]] w fun e w'=>e=.returned (.bool true)/\Below w.heap.size w w':=by
 obtain⟨A1,N1,d1,rfl⟩:=h.rN.frm;obtain⟨A2,N2,d2,rfl⟩:=h.rD.frm;obtain⟨A3,N3,d3,rfl⟩:=h.eN.frm;obtain⟨A4,N4,d4,rfl⟩:=h.eD.frm;obtain⟨W0,hW0⟩:=zx (w.alloc (.cells #[.string n,.slice (some ⟨bs,os,none⟩) 1 cs,.slice (some ⟨bl,ol,none⟩) 1 cl,.slice (some ⟨be,oe,none⟩) 1 ce] 96));obtain⟨q,hq⟩:=zx w.heap.size
 have hb0:Below w.heap.size w W0:=by rw[hW0];exact(zB _ _).alloc (zR _) _
 have hqk:W0.heap[q]?=some (.cells #[.string n,.slice (some ⟨bs,os,none⟩) 1 cs,.slice (some ⟨bl,ol,none⟩) 1 cl,.slice (some ⟨be,oe,none⟩) 1 ce] 96 (0,0)):=by rw[hW0,hq];exact zN _ _
 have hql:q<W0.heap.size:=(zA.1 hqk).1;have HF:=zh (fun(w':World) (hb:Below W0.heap.size W0 w')=>cells4 ((hb.block q hql).trans hqk));have HE:=zh (fun(w':World) (hb:Below W0.heap.size W0 w')=>(h.below hb0).below hb);have HS:=zh (fun(w':World) (hb:Below W0.heap.size W0 w')=>(show Calls Tryz.prog 144 #[.slice (some ⟨bs,os,none⟩) 1 cs,.int .i64 1] w' fun e w2=>e=.returned (.bool true)/\Below w'.heap.size w' w2 from rsmalls_any _ [⟨false,1,1⟩] w' (((h.below hb0).below hb).start cs hcs) (fun x hx=>by rw[List.mem_singleton.1 hx];exact⟨rfl,by decide,by decide⟩)));have HX:=zh (fun(w':World) (hb:Below W0.heap.size W0 w')=>(show Calls Tryz.prog 144 #[.slice (some ⟨be,oe,none⟩) 1 ce,.int .i64 1] w' fun e w2=>e=.returned (.bool true)/\Below w'.heap.size w' w2 from rsmalls_any _ [⟨false,1,100+r⟩] w' (((h.below hb0).below hb).exit ce hce) (fun x hx=>by rw[List.mem_singleton.1 hx];exact⟨rfl,by show 0<100+r;omega,Nat.gcd_one_left _⟩)));have HRW:=zh (fun(w':World) (hb:Below W0.heap.size W0 w')=>(show Calls Tryz.prog 144 #[.slice (some ⟨br,orr,none⟩) 1 cr,.int .i64 1] w' fun e w2=>e=.returned (.bool true)/\Below w'.heap.size w' w2 from rsmalls_any _ [⟨false,0,1⟩] w' (((h.below hb0).below hb).row hcr) (fun x hx=>by rw[List.mem_singleton.1 hx];exact⟨rfl,by decide,by decide⟩)));have HSU:=zh (fun(w':World) (hb:Below W0.heap.size W0 w')=>rsum1_any _ 1 1 w' (((h.below hb0).below hb).start cs hcs) (by omega) (by omega) (by decide));have HW0:=zh hW0;have HQ:=zh hq;have HB0:=zh hb0;obtain⟨c0,c1,c2,c3⟩:=HF.out W0 (zB _ _);clear h hW0 hq hb0 hqk hql hcs hce hcr;go_enter Tryz.func100,Tryz.ntmps100;go_wp2_with fail;rw[<-HW0.out,<-HQ.out];refine(HS.out _ (zB _ _)).mono ?_;rintro e w1 ⟨rfl,hb1⟩;have HB1:=zh hb1;clear hb1 c0 c1 c2 c3;obtain⟨c0,c1,c2,c3⟩:=HF.out w1 HB1.out;go_wp2_with fail;refine(HX.out _ HB1.out).mono ?_;rintro e w2 ⟨rfl,hb2⟩;have HB2:=zh (HB1.out.trans (hb2.mono HB1.out.size));clear hb2 c0 c1 c2 c3;obtain⟨c0,c1,c2,c3⟩:=HF.out w2 HB2.out;go_wp2_with fail;clear c0 c1 c2 c3;go_loopg [4] 1 (fun z v4 wr=>Hid (Below W0.heap.size W0 wr)/\((z=1/\v4=.int .i64 0)\/(z=0/\v4=.int .i64 1)))
 case atStart=>exact⟨HB2.out,.inl ⟨rfl,rfl⟩⟩
 case round =>
  obtain⟨HBR,h2⟩:=hrel;rcases h2 with ⟨rfl,rfl⟩ | ⟨rfl,rfl⟩
  ·obtain⟨c0,c1,c2,c3⟩:=HF.out wr HBR.out;have hE:=HE.out wr HBR.out;have m0:=hE.r0;clear hE;go_wp2_with fail;refine(HRW.out _ HBR.out).mono ?_;rintro e w3 ⟨rfl,hb3⟩;have HB3:=zh (HBR.out.trans (hb3.mono HBR.out.size));clear hb3 c0 c1 c2 c3 m0;obtain⟨c0,c1,c2,c3⟩:=HF.out w3 HB3.out;have hE:=HE.out w3 HB3.out;have m0:=hE.r0;have x0:=hE.x0;have x1:=hE.x1;have x2:=hE.x2;have HSG:=zh (rsign_any _ _ 0 1 w3 hE.rN hE.rD (by omega));rw[show cmpI 0 0=0 from rfl] at HSG;clear hE;go_wp2_with fail;refine HSG.out.mono ?_;rintro e w4 ⟨rfl,hb4⟩;have HB4:=zh (HB3.out.trans (hb4.mono HB3.out.size));clear hb4 c0 c1 c2 c3 m0 x0 x1 x2;go_wp2_with fail;go_roundg 0
   case measure=>omega
   case rel=>exact⟨HB4.out,.inr ⟨rfl,rfl⟩⟩
  ·obtain⟨c0,c1,c2,c3⟩:=HF.out wr HBR.out;go_wp2_with fail;refine(HSU.out _ HBR.out).mono ?_;rintro e w4 ⟨un,um,rfl,hun,hum,hb4⟩;obtain⟨B1,M1,f1,rfl⟩:=hun.frm;obtain⟨B2,M2,f2,rfl⟩:=hum.frm;obtain⟨W5,hW5⟩:=zx (w4.alloc (.cells #[.bool false,.slice B1 M1 f1,.slice B2 M2 f2] 26));obtain⟨y,hy⟩:=zx w4.heap.size
   have hb5:Below w4.heap.size w4 W5:=by rw[hW5];exact(zB _ _).alloc (zR _) _
   have hyk:W5.heap[y]?=some (.cells #[.bool false,.slice B1 M1 f1,.slice B2 M2 f2] 26 (0,0)):=by rw[hW5,hy];exact zN _ _
   obtain⟨y1,hy1⟩:=zx (Value.slice B1 M1 f1);obtain⟨y2,hy2⟩:=zx (Value.slice B2 M2 f2);have hu1:=(hun.mono Fr.bl).below hb5;have hu2:=(hum.mono Fr.bl).below hb5;rw[<-hy1] at hu1 hyk;rw[<-hy2] at hu2 hyk;obtain⟨z0,z1,z2,-⟩:=cells3 hyk;have HB5:=zh ((HBR.out.trans (hb4.mono HBR.out.size)).trans (hb5.mono (Nat.le_trans HBR.out.size hb4.size)));have HYL:=zh (zA.1 hyk).1;have HU1:=zh hu1;have HU2:=zh hu2;have HSA:=zh (fun W a b (h:HeldF W5 y y (.bool false) y1 y2 (.bool false) y1 y2 W) (h3:LS W (Bl W.heap.size) a (natL 1)) (h4:LS W (Bl W.heap.size) b (natL 1))=>rsame_any y1 y2 a b 1 1 1 1 W (h.ls HU1.out) (h.ls HU2.out) h3 h4 (by omega) (by omega) (by omega) (by omega));rw[show decide (cmpI (1*1) (1*1)=0)=true from by decide] at HSA;have HS0:=zh (show HeldF W5 y y (.bool false) y1 y2 (.bool false) y1 y2 W5.drew from⟨z0,z1,z2,z0,z1,z2,(zB _ _).drew⟩);have HW5:=zh hW5;have HY:=zh hy;clear hun hum hb4 hb5 hyk hu1 hu2 z0 z1 z2 hW5 hy hy1 hy2 c0 c1 c2 c3;go_upto_region 10 with fail;rw[<-HW5.out,<-HY.out];refine region_tail (S:=(fun w'=>w'.cell? ⟨y,0,none⟩=some (.bool false)/\w'.cell? ⟨y,1,none⟩=some y1/\w'.cell? ⟨y,2,none⟩=some y2/\w'.cell? ⟨y,0,none⟩=some (.bool false)/\w'.cell? ⟨y,1,none⟩=some y1/\w'.cell? ⟨y,2,none⟩=some y2/\Below W5.heap.size W5 w')) [] (by kernel_rfl) HS0.out (fun hHeld=>?_);refine tk 0 73 ?_;refine tk 1 74 ?_;refine tk 2 75 ?_;refine tk 3 76 ?_;refine rd1 4 (fun K hK=>?_);go_simp;(go_at_call 146;refine(rint_any 1 _ (by omega)).mono ?_;rintro e w6 ⟨un,um,rfl,hun,hum,hb6⟩);go_wp2_with fail;refine hK.out _ _ ?_ (fun hHeld=>?_)
   ·(first|(with_reducible assumption)|exact HeldF.below (by assumption) hb7 HYL.out HYL.out|exact HeldF.below (by assumption) hb6 HYL.out HYL.out)
   clear hK K;(try simp only[Act.put,z1,z2,z3]);refine rd1 5 (fun K hK=>?_);go_simp;(go_at_call 87;refine(HSA.out _ _ _ (by assumption) (hun.mono Fr.bl) (hum.mono Fr.bl)).mono ?_;rintro e w7 ⟨rfl,hb7⟩);go_wp2_with fail;refine hK.out _ _ ?_ (fun hHeld=>?_)
   ·(first|(with_reducible assumption)|exact HeldF.below (by assumption) hb7 HYL.out HYL.out|exact HeldF.below (by assumption) hb6 HYL.out HYL.out)
   clear hK K;(try simp only[Act.put,z1,z2,z3]);refine tk 6 79 ?_;refine tk 7 80 ?_;refine doneT (by kernel_rfl) ?_ _;have hBZ:Below W5.heap.size W5 w7:=HeldF.bl (q:=y) (p:=y) (by assumption);have hB07:=HB5.out.trans (hBZ.mono HB5.out.size);have HB7:=zh hB07;clear hHeld hun hum hb6 hb7 hBZ hB07;obtain⟨WG,hWG⟩:=zx (w7.alloc (.cells #[.bool false] 4));obtain⟨g,hg⟩:=zx w7.heap.size
   have hgk:WG.heap[g]?=some (.cells #[.bool false] 4 (0,0)):=by rw[hWG,hg];exact zN _ _
   have HBG:=zh (show Below W0.heap.size W0 WG from by rw[hWG];exact HB7.out.alloc HB7.out.size _);have HGG:=zh (show W0.heap.size<=g from by rw[hg];exact HB7.out.size);have HGK:=zh hgk;have HWG:=zh hWG;have HGE:=zh hg;clear hWG hg hgk;have hmk:=mk_bool1;go_upto_region 13 with fail;rw[<-HWG.out,<-HGE.out];clear hmk;go_wp2_with fail;go_loopg [8,9,10] 1 (fun z v8 v9 v10 wr=>(z=1/\v8=.int .i64 0/\WG=wr)\/(z=0/\v8=.int .i64 1/\Hid (wr.heap[g]?=some (.cells #[.bool true] 4 (0,0)))/\Hid (Below W0.heap.size W0 wr)))
   case atStart=>exact .inl ⟨rfl,rfl,rfl⟩
   case round =>
    rcases hrel with ⟨rfl,rfl,rfl⟩ | ⟨rfl,rfl,hgt,hbt⟩
    ·go_wp2_with fail;go_loopg [9,10] 1 (fun z v9 v10 wr=>(z=1/\v9=.int .i64 0/\WG=wr)\/(z=0/\v9=.int .i64 1/\Hid (wr.heap[g]?=some (.cells #[.bool true] 4 (0,0)))/\Hid (Below W0.heap.size W0 wr)))
     case atStart=>exact .inl ⟨rfl,rfl,rfl⟩
     case round =>
      rcases hrel with ⟨rfl,rfl,rfl⟩ | ⟨rfl,rfl,hgt,hbt⟩
      ·have kg:WG.cell? ⟨g,0,none⟩=some (.bool false):=by rw[cell_of_row _ _ _ _ _ _ HGK.out];rfl
       obtain⟨k0,k1,k2,k3⟩:=HF.out WG HBG.out;have hE:=HE.out WG HBG.out;have m0:=hE.e0;have m1:=hE.e1;have m2:=hE.e2;have HSG:=zh (rsign_any _ _ 1 (100+r) WG hE.eN hE.eD (by omega));rw[show cmpI 1 0=1 from rfl] at HSG;clear hE;go_wp2_with fail;refine HSG.out.mono ?_;rintro e w8 ⟨rfl,hb8⟩;have hgk8:=(hb8.block g (zA.1 HGK.out).1).trans HGK.out
       have kg8:w8.cell? ⟨g,0,none⟩=some (.bool false):=by rw[cell_of_row _ _ _ _ _ _ hgk8];rfl
       have kf8:w8.frozen? ⟨g,0,none⟩=false:=frozen_of_row _ _ _ _ _ hgk8;obtain⟨WX,hWX⟩:=zx (w8.setCell ⟨g,0,none⟩ (.bool true))
       have hgx:WX.heap[g]?=some (.cells #[.bool true] 4 (0,0)):=by rw[hWX];exact heap_setCell_same w8 g 0 _ _ _ hgk8
       have HGX:=zh hgx;have HBX:=zh (show Below W0.heap.size W0 WX from by rw[hWX];exact(HBG.out.trans (hb8.mono HBG.out.size)).setCell HGG.out _);have HWX:=zh hWX;clear hb8 hgk8 hWX hgx kg k0 k1 k2 k3 m0 m1 m2;go_upto_region 20 with fail;rw[<-HWX.out];clear kg8 kf8;go_wp2_with fail;go_loopg [10] 1 (fun z v10 wr=>(z=1/\v10=.int .i64 0/\WX=wr)\/(z=0/\v10=.int .i64 1/\Hid (wr.heap[g]?=some (.cells #[.bool true] 4 (0,0)))/\Hid (Below W0.heap.size W0 wr)))
       case atStart=>exact .inl ⟨rfl,rfl,rfl⟩
       case round =>
        rcases hrel with ⟨rfl,rfl,rfl⟩ | ⟨rfl,rfl,hgt,hbt⟩
        ·have kg:WX.cell? ⟨g,0,none⟩=some (.bool true):=by rw[cell_of_row _ _ _ _ _ _ HGX.out];rfl
         have kf:WX.frozen? ⟨g,0,none⟩=false:=frozen_of_row _ _ _ _ _ HGX.out;go_wp2_with fail;go_roundg 0
         case measure=>omega
         case rel=>exact .inr ⟨rfl,rfl,heap_setCell_same WX g 0 _ _ _ HGX.out,HBX.out.setCell HGG.out _⟩
        ·go_wp2_with fail;go_roundg 0
         case measure=>omega
         case rel=>exact .inr ⟨rfl,rfl,hgt.out,hbt.out⟩
      ·go_wp2_with fail;go_roundg 0
       case measure=>omega
       case rel=>exact .inr ⟨rfl,rfl,hgt.out,hbt.out⟩
    ·go_wp2_with fail;go_loopg [11] 1 (fun z v11 w2=>wr=w2/\((z=1/\v11=.int .i64 0)\/(z=0/\v11=.int .i64 1)))
     case atStart=>exact⟨rfl,.inl ⟨rfl,rfl⟩⟩
     case round =>
      obtain⟨hww,h2⟩:=hrel;subst hww;rcases h2 with ⟨rfl,rfl⟩ | ⟨rfl,rfl⟩
      ·have kg:wr.cell? ⟨g,0,none⟩=some (.bool true):=by rw[cell_of_row _ _ _ _ _ _ hgt.out];rfl
       go_wp2_with fail;go_roundg 0
       case measure=>omega
       case rel=>exact⟨rfl,.inr ⟨rfl,rfl⟩⟩
      ·go_wp2_with fail;go_ret;exact⟨rfl,HB0.out.trans (hbt.out.mono HB0.out.size)⟩
theorem not_take{l:List ByteArray}{j:Nat}{x:ByteArray}(hd:l.Nodup)(h:l[j]?=some x):x∉l.take j:=fun hm=>by
 obtain⟨h1,h2⟩:=zL.1 h;obtain⟨i,hi,he⟩:=List.getElem_of_mem hm;rw[List.length_take] at hi;rw[List.getElem_take] at he;exact(List.pairwise_iff_getElem.1 hd i j (by omega) h1 (by omega)) (by rw[he,h2])
theorem low_sizes{l:List ByteArray}{j:Nat}(h:∀s∈l,LowN s):∀x∈l.take j,x.size<=maxLen:=fun x hx=>by
 have:=(h x (List.mem_of_mem_take hx)).2.1;unfold maxLen;omega
theorem pol_rangeV{w:World}{g:Nat}{a0 a1 a2 a3 a4 a5 a6 a7 a8 a9 a10 a11 a12 a13 a14 a15 a16:Value}(h:w.rangeAt g 0 [a0,a1,a2,a3,a4,a5,a6,a7,a8,a9,a10,a11,a12,a13,a14,a15,a16]) :
  (w.cell? ⟨g,1,none⟩=some a1/\w.cell? ⟨g,2,none⟩=some a2/\w.cell? ⟨g,3,none⟩=some a3/\w.cell? ⟨g,4,none⟩=some a4/\w.cell? ⟨g,5,none⟩=some a5/\w.cell? ⟨g,6,none⟩=some a6/\w.cell? ⟨g,7,none⟩=some a7/\w.cell? ⟨g,8,none⟩=some a8) /\
  (w.cell? ⟨g,9,none⟩=some a9/\w.cell? ⟨g,10,none⟩=some a10/\w.cell? ⟨g,11,none⟩=some a11/\w.cell? ⟨g,12,none⟩=some a12/\w.cell? ⟨g,13,none⟩=some a13/\w.cell? ⟨g,14,none⟩=some a14/\w.cell? ⟨g,15,none⟩=some a15/\w.cell? ⟨g,16,none⟩=some a16) :=
 ⟨⟨h 1 _ rfl,h 2 _ rfl,h 3 _ rfl,h 4 _ rfl,h 5 _ rfl,h 6 _ rfl,h 7 _ rfl,h 8 _ rfl⟩,h 9 _ rfl,h 10 _ rfl,h 11 _ rfl,h 12 _ rfl,h 13 _ rfl,h 14 _ rfl,h 15 _ rfl,h 16 _ rfl⟩
theorem rvalidf_any(N:Nat)(hN:N<=12)(vl vm vd vv vp vo:Value)(F:FltM)(w:World)(hf:FleetS w (Bl w.heap.size) vl vm vd vv vp vo F)(hok:FleetOk N F) :
  Calls Tryz.prog 47 #[.agg #[.int .i64 F.ext,vl,vm,vd,vv,vp,vo]] w fun e w'=>e=.returned (.bool true)/\Below w.heap.size w w':=by
 obtain⟨Al,cl,hvl,-,-⟩:=hf.1.form;obtain⟨Am,cm,hvm,-,-⟩:=hf.2.1.form;obtain⟨Ad,cd,hvd,hcd,-⟩:=hf.2.2.1.form;obtain⟨Av,cv,hvv,-,-⟩:=hf.2.2.2.1.form;obtain⟨Ap,cp,hvp,-,-⟩:=hf.2.2.2.2.1.form;obtain⟨Ao,co,hvo,-,-⟩:=hf.2.2.2.2.2.form;have hl1:=(lawN_ok hok).2.2;have hm2:=(modN_ok hok).2.2;rw[hl1] at hvl;rw[hm2] at hvm;obtain⟨ND,hND⟩:=zx F.doms.length;obtain⟨NV,hNV⟩:=zx F.dves.length;obtain⟨NP,hNP⟩:=zx F.pols.length;obtain⟨NO,hNO⟩:=zx F.vols.length;rw[<-hND] at hvd hcd;rw[<-hNV] at hvv;rw[<-hNP] at hvp;rw[<-hNO] at hvo;subst hvl hvm hvd hvv hvp hvo;obtain⟨r,-,hlaws⟩:=hok.laws;have hroot:F.doms[0]?=some rootM:=hok.doms.root
 have hD1:1<=ND:=by rw[hND];exact(zL.1 hroot).1
 obtain⟨M,rfl⟩:∃M,ND=M+1:=⟨ND-1,by omega⟩;obtain⟨cc,rfl⟩:∃M,cd=M+1:=⟨cd-1,by omega⟩;obtain⟨W0,hW0⟩:=zx (w.alloc (.cells #[.int .i64 F.ext,.slice Al 1 cl,.slice Am 2 cm,.slice Ad (M+1) (cc+1),.slice Av NV cv,.slice Ap NP cp,.slice Ao NO co] 35));obtain⟨q,hq⟩:=zx w.heap.size
 have hb0:Below w.heap.size w W0:=by rw[hW0];exact(zB _ _).alloc (zR _) _
 have hqk:W0.heap[q]?=some (.cells #[.int .i64 F.ext,.slice Al 1 cl,.slice Am 2 cm,.slice Ad (M+1) (cc+1),.slice Av NV cv,.slice Ap NP cp,.slice Ao NO co] 35 (0,0)):=by rw[hW0,hq];exact zN _ _
 have hql:q<W0.heap.size:=(zA.1 hqk).1;have HC:=zh (fun(w':World) (hb:Below W0.heap.size W0 w')=>cells7 ((hb.block q hql).trans hqk));have hf0:=hf.below hb0;obtain⟨lb,lo,lcs,rfl,hlR,-,hlc,vs,vr,ve,hlcs,hvs,hvr,hve⟩:=hf0.1.at_ (k:=0) (by rw[hl1];omega)
 have hL0:F.laws[0]'(by rw[hl1];omega)=⟨{ data:=#[100,105,115,107] },[⟨false,1,1⟩],[[⟨false,0,1⟩]],[⟨false,1,100+r⟩]⟩:=by simp[hlaws]
 rw[hL0] at hlcs hvs hvr hve;obtain⟨bs,os,ks,sn,sd,rfl,hks,-,s0,s1,s2,sN,sD⟩:=one_frc2 hvs;obtain⟨br0,or0,kl,vrr,rfl,-,r0,hvrr⟩:=one_row hvr;obtain⟨br,orr,kr,rn,rd,rfl,hkr,-,x0,x1,x2,rN,rD⟩:=one_frc2 hvrr;obtain⟨be,oe,ke,en,ed,rfl,hke,-,e0,e1,e2,eN,eD⟩:=one_frc2 hve;have HLE:=zh (show LawE W0 r bs os br0 or0 be oe br orr kr sn sd rn rd en ed from⟨r0,s0,s1,s2,x0,x1,x2,e0,e1,e2,sN,sD,rN,rD,eN,eD⟩);have HKS:=zh (show 1<=ks/\1<=kr/\1<=ke from⟨hks,hkr,hke⟩);obtain⟨l0,l1,l2,l3⟩:=four hlc hlcs;have HLC:=zh (fun(w':World) (hb:Below W0.heap.size W0 w')=>(show w'.cell? ⟨lb,lo,none⟩=_/\w'.cell? ⟨lb,lo+1,none⟩=_/\w'.cell? ⟨lb,lo+2,none⟩=_/\w'.cell? ⟨lb,lo+3,none⟩=_ from⟨(hb.cell (p:=⟨lb,lo,none⟩) hlR).trans l0,(hb.cell (p:=⟨lb,lo+1,none⟩) hlR).trans l1,(hb.cell (p:=⟨lb,lo+2,none⟩) hlR).trans l2,(hb.cell (p:=⟨lb,lo+3,none⟩) hlR).trans l3⟩));obtain⟨db,doff,dcs,rfl,hdR,-,-,-⟩:=hf0.2.2.1.at_ (k:=0) (by omega);obtain⟨mb,mo,mcs,rfl,-,-,-,-⟩:=hf0.2.1.at_ (k:=0) (by omega);obtain⟨vb,vof,vcs,rfl,-,-,-,-⟩:=hf0.2.2.2.1.at_ (k:=0) (by have:=hok.dve1;omega);obtain⟨pb,pof,pcs,rfl,hpR,-,-,-⟩:=hf0.2.2.2.2.1.at_ (k:=0) (by have:=hok.pol1;omega);obtain⟨ob,oof,ocs,rfl,-,-,-,-⟩:=hf0.2.2.2.2.2.at_ (k:=0) (by have:=hok.vol1;omega);have HL1N:=zh (show(F.laws.map (·.name)).take 1=[{ data:=#[100,105,115,107] }] by rw[hlaws];rfl);have HPB:=zh (show pb<W0.heap.size from hpR);have HDB:=zh (show db<W0.heap.size from hdR);have HF0:=zh hf0;have HF:=zh (fun(w':World) (hb:Below W0.heap.size W0 w')=>(hf.below hb0).below hb);have HIN:=zh (fun w=>rwithin_any F.ext 1 4 (by have:=hok.ext;omega) w);have HOK:=zh hok;have HN12:=zh hN;have HLN:=zh (show M+1=F.doms.length/\NV=F.dves.length/\NP=F.pols.length/\NO=F.vols.length/\F.laws.length=1/\F.models.length=2 from⟨hND,hNV,hNP,hNO,hl1,hm2⟩)
 have i1:(M:Int)+1<=21:=by have:=hok.domN;omega
 have i2:(NV:Int)<=9:=by have:=hok.dveN;omega
 have i3:(NP:Int)<=2:=by have:=hok.polN;omega
 have i4:(NO:Int)<=12:=by have:=hok.volN;omega
 have i5:(1:Int)<=(M:Int)+1:=by omega
 have i6:(M:Int)+1<=(cc:Int)+1:=by omega
 have HSI:=zh (fun w=>rsizes_any 1 2 ((M:Int)+1) (NV:Int) (NP:Int) (NO:Int) (by omega) (by omega) (by omega) (by omega) (by omega) (by omega) w)
 have b1:((M:Int)+1==0)=false:=by rw[beq_eq_false_iff_ne];omega
 have HI:=zh (show M<=cc/\M<=20/\NV<=9/\NP<=2/\NO<=12 from⟨by omega,by omega,by omega,by omega,by omega⟩);obtain⟨EXT,hEXT⟩:=zx F.ext;rw[<-hEXT] at HC HIN hW0 ⊢;have HW0:=zh hW0;have HQ:=zh hq;have HB0:=zh hb0;have HQL:=zh hql;obtain⟨c0,c1,c2,c3,c4,c5,c6⟩:=HC.out W0 (zB _ _);clear hf0 hlR hpR hlc hlcs hvs hvr hve hL0 hks r0 hvrr hkr x0 x1 x2 rN rD hke e0 e1 e2 eN eD s0 s1 s2 sN sD l0 l1 l2 l3 hdR hlaws;clear hf hok hW0 hq hb0 hqk hql hroot hl1 hm2 hND hNV hNP hNO hD1 hcd hEXT;go_enter Tryz.func47,Tryz.ntmps47;go_upto_region 1 with fail;rw[<-HW0.out,<-HQ.out];go_wp2_with fail;refine(HIN.out _).mono ?_;rintro e w1 ⟨rfl,rfl⟩;go_wp2_with fail;refine(HSI.out _).mono ?_;rintro e w1 ⟨rfl,rfl⟩;clear i6;go_wp2_with fail;clear c0 c1 c2 c3 c4 c5 c6;go_loopg [3,8,9] 1 (fun z v3 v8 v9 wr=>∃j:Nat,j<=1/\z=1-j/\v8=.bool true/\v9=.int .i64 (j:Int)/\Hid (OwnS wr W0.heap.size v3 ((F.laws.map (·.name)).take j))/\Hid (Below W0.heap.size W0 wr))
 case atStart=>exact⟨0,by omega,rfl,rfl,rfl,OwnS.nil _ _,zB _ _⟩
 case round =>
  obtain⟨j,hj,rfl,rfl,rfl,HO,HBR⟩:=hrel;obtain⟨c0,c1,c2,c3,c4,c5,c6⟩:=HC.out wr HBR.out;by_cases hlt:j<1
  ·-- L1{
   obtain rfl:j=0:=by omega
   obtain⟨l0,l1,l2,l3⟩:=HLC.out wr HBR.out;have HFR:=zh (rfresh_any W0.heap.size _ [] { data:=#[100,105,115,107] } wr HO.out HBR.out.size (by refine⟨by decide,by decide,fun x hx=>?_⟩;simp at hx;rcases hx with rfl | rfl | rfl | rfl <;> decide) (by simp) (by simp) (by simp));go_wp2_with fail;refine HFR.out.mono ?_;rintro e w5 ⟨u5,rfl,ho5,hg5⟩;have HO5:=zh ho5;have HB5:=zh (HBR.out.grown hg5 HBR.out.size (fun b e=>(HO.out.lt b e).1));clear ho5 hg5 c0 c1 c2 c3 c4 c5 c6 l0 l1 l2 l3;obtain⟨c0,c1,c2,c3,c4,c5,c6⟩:=HC.out w5 HB5.out;obtain⟨l0,l1,l2,l3⟩:=HLC.out w5 HB5.out;go_wp2_with fail;refine(rlaw_any _ r bs os br0 or0 be oe br orr ks kl ke kr sn sd rn rd en ed w5 (HLE.out.below HB5.out) HKS.out.1 HKS.out.2.2 HKS.out.2.1).mono ?_;rintro e w6 ⟨rfl,hb6⟩;have HOW6:=zh (show OwnS w6 W0.heap.size u5 ((F.laws.map (·.name)).take 1) from by rw[HL1N.out];exact HO5.out.below hb6);have HB6:=zh (HB5.out.trans (hb6.mono HB5.out.size));clear hb6 c0 c1 c2 c3 c4 c5 c6 l0 l1 l2 l3;go_wp2_with fail;go_roundg 0
   case measure=>omega
   case rel=>exact⟨1,by omega,rfl,rfl,rfl,HOW6.out,HB6.out⟩
  ·obtain rfl:j=1:=by omega
   obtain⟨wa,hwa⟩:=zx (wr:World);subst hwa;have HO1:=HO;have HBA:=HBR;clear HO HBR hlt hj;go_wp2_with fail;clear c0 c1 c2 c3 c4 c5 c6;go_loopg [4,8,10] 2 (fun z v4 v8 v10 wr=>∃j:Nat,j<=2/\z=2-j/\v8=.bool true/\v10=.int .i64 (j:Int)/\Hid (OwnS wr wa.heap.size v4 ((F.models.map (·.name)).take j))/\Hid (Below wa.heap.size wa wr))
   case atStart=>exact⟨0,by omega,rfl,rfl,rfl,OwnS.nil _ _,zB _ _⟩
   case round =>
    obtain⟨j,hj,rfl,rfl,rfl,HO,HBR⟩:=hrel;have hbr:=HBA.out.trans (HBR.out.mono HBA.out.size);by_cases hlt:j<2
    ·-- L2{
     have hjl:j<F.models.length:=by have:=HLN.out.2.2.2.2.2;omega
     obtain⟨b',off',cs,hAe,-,-,hc,hcs⟩:=(HF.out wr hbr).2.1.at_ (k:=j) hjl;injection hAe with hAe;injection hAe with hA1 hA2;subst hA1;subst hA2;obtain⟨x1,x2,x3,x4,x5⟩:=modN_at HOK.out F.models[j] (List.getElem_mem hjl);obtain⟨l0,l1,l2,l3⟩:=four hc hcs;rw[x5] at l3;have hxa:=map_name (f:=fun x:ModM=>x.name) (zG hjl);have hlow:=(modN_ok HOK.out).1 _ (List.mem_of_getElem? hxa);have hnot:=not_take (modN_ok HOK.out).2.1 hxa;have htk:=take_more hxa;obtain⟨X,hX⟩:=zx (F.models[j].name);obtain⟨XE,hXE⟩:=zx (F.models[j].ext);obtain⟨XP,hXP⟩:=zx (F.models[j].port);rw[<-hX] at l0 hlow hnot htk;rw[<-hXE] at l1 x1 x2;rw[<-hXP] at l2 x3 x4;have HI1:=zh (fun w=>rwithin_any XE 1 16 ⟨x1,x2⟩ w);have HI2:=zh (fun w=>rwithin_any XP 1 64 ⟨x3,x4⟩ w);have HI3:=zh (fun w=>rwithin_any 0 0 0 (by omega) w);obtain⟨W3,hW3⟩:=zx (wr.alloc (.cells #[.string X,.int .i64 XE,.int .i64 XP,.int .i64 0] 98));obtain⟨g,hg⟩:=zx wr.heap.size
     have hb3:Below wr.heap.size wr W3:=by rw[hW3];exact(zB _ _).alloc (zR _) _
     have hgk:W3.heap[g]?=some (.cells #[.string X,.int .i64 XE,.int .i64 XP,.int .i64 0] 98 (0,0)):=by rw[hW3,hg];exact zN _ _
     obtain⟨d0,d1,d2,d3⟩:=cells4 hgk;have HB3:=zh (HBR.out.trans (hb3.mono HBR.out.size));have HOW:=zh (HO.out.below hb3);have HFR:=zh (rfresh_any wa.heap.size _ _ X W3 HOW.out HB3.out.size hlow hnot (by rw[List.length_take];have:=HLN.out.2.2.2.2.2;rw[List.length_map];omega) (low_sizes (modN_ok HOK.out).1));have HTK:=zh htk;have HW3:=zh hW3;have HG:=zh hg;have HGK:=zh hgk;obtain⟨c0,c1,c2,c3,c4,c5,c6⟩:=HC.out wr hbr;clear hW3 hg hgk hb3 hc hcs x1 x2 x3 x4 x5 hxa hlow hnot htk hX hXE hXP;go_upto_region 14 with fail;rw[<-HW3.out,<-HG.out];go_wp2_with fail;refine HFR.out.mono ?_;rintro e w5 ⟨u5,rfl,ho5,hg5⟩;rw[<-HTK.out] at ho5;have HO5:=zh ho5;have HB5:=zh (HB3.out.grown hg5 HB3.out.size (fun b e=>(HOW.out.lt b e).1));have hk5:=own_keptV hg5 HO.out HG.out (zA.1 HGK.out).1;clear c0 c1 c2 c3 c4 c5 c6 d0 d1 d2 d3 l0 l1 l2 l3;obtain⟨f0,f1,f2,f3⟩:=cells4 (hk5.trans HGK.out);obtain⟨c0,c1,c2,c3,c4,c5,c6⟩:=HC.out w5 (HBA.out.trans (HB5.out.mono HBA.out.size));clear ho5 hg5 hk5;go_wp2_with fail;refine(HI1.out _).mono ?_;rintro e w6 ⟨rfl,rfl⟩;go_wp2_with fail;refine(HI2.out _).mono ?_;rintro e w6 ⟨rfl,rfl⟩;go_wp2_with fail;refine(HI3.out _).mono ?_;rintro e w6 ⟨rfl,rfl⟩;go_wp2_with fail;clear c0 c1 c2 c3 c4 c5 c6 f0 f1 f2 f3;go_roundg (2-(j+1))
     case measure=>omega
     case rel=>exact⟨j+1,by omega,rfl,rfl,by go_num,HO5.out,HB5.out⟩
    ·-- R2{
     obtain rfl:j=2:=by omega
     obtain⟨wb,hwb⟩:=zx (wr:World);subst hwb;have HO2:=HO;have HAB:=HBR;have HBB:=zh hbr
     have h0d:0<F.doms.length:=by have:=HLN.out;omega
     obtain⟨b',off',cs,hAe,-,-,hc,vn,vd,hcs,hvn,hvd⟩:=(HF.out wb hbr).2.2.1.at_ (k:=0) h0d;injection hAe with hAe;injection hAe with hA1 hA2;subst hA1;subst hA2
     have hroot:F.doms[0]=rootM:=by have:=HOK.out.doms.root;rw[zG h0d] at this;injection this
     rw[hroot] at hcs hvn hvd;obtain⟨A1,N1,e1,rfl⟩:=hvn.frm;obtain⟨A2,N2,e2,rfl⟩:=hvd.frm;have hcs':cs=[.string ⟨#[]⟩,.int .i64 0,.int .i64 (-1),.int .i64 0,.bool false,.slice A1 N1 e1,.slice A2 N2 e2]:=hcs;obtain⟨l0,l1,l2,l3,l4,l5,l6⟩:=seven_at (w:=wb) (p:=db) (o:=doff) (fun t x hx=>by have:=hc t x hx;simpa using this) hcs';obtain⟨W3,hW3⟩:=zx (wb.alloc (.cells #[.string ⟨#[]⟩,.int .i64 0,.int .i64 (-1),.int .i64 0,.bool false,.slice A1 N1 e1,.slice A2 N2 e2] 100));obtain⟨g,hg⟩:=zx wb.heap.size
     have hb3:Below wb.heap.size wb W3:=by rw[hW3];exact(zB _ _).alloc (zR _) _
     have hgk:W3.heap[g]?=some (.cells #[.string ⟨#[]⟩,.int .i64 0,.int .i64 (-1),.int .i64 0,.bool false,.slice A1 N1 e1,.slice A2 N2 e2] 100 (0,0)):=by rw[hW3,hg];exact zN _ _
     have HVA:=zh (rvalid_any false _ _ 0 1 W3 (hvn.below hb3) (hvd.below hb3) (by omega));have HSG:=zh (fun(w':World) (hb:Below W3.heap.size W3 w')=>rsign_any _ _ 0 1 w' ((hvn.below hb3).below hb) ((hvd.below hb3).below hb) (by omega));rw[show cmpI 0 0=0 from rfl] at HSG;have HB3:=zh hb3;have HW3:=zh hW3;have HG:=zh hg;have HGK:=zh hgk;obtain⟨c0,c1,c2,c3,c4,c5,c6⟩:=HC.out wb hbr;clear HO HBR hlt hj hbr h0d hc hcs hcs' hvn hvd hroot hW3 hg hgk hb3;go_upto_region 17 with fail;rw[<-HW3.out,<-HG.out];clear c0 c1 c2 c3 c4 c5 c6 l0 l1 l2 l3 l4 l5 l6;obtain⟨d0,d1,d2,d3,d4,d5,d6⟩:=cells7 HGK.out;go_wp2_with fail;refine HVA.out.mono ?_;rintro e w6 ⟨rfl,hb6⟩;have HK6:=zh ((hb6.block g (zA.1 HGK.out).1).trans HGK.out);have HB6:=zh hb6;clear d0 d1 d2 d3 d4 d5 d6 hb6;obtain⟨d0,d1,d2,d3,d4,d5,d6⟩:=cells7 HK6.out;go_wp2_with fail;refine(HSG.out _ HB6.out).mono ?_;rintro e wc ⟨rfl,hb7⟩;have HBC:=zh (HBB.out.trans ((HB3.out.trans ((HB6.out.trans (hb7.mono HB6.out.size)).mono HB3.out.size)).mono HBB.out.size));have HBC2:=zh (HB3.out.trans ((HB6.out.trans (hb7.mono HB6.out.size)).mono HB3.out.size));clear d0 d1 d2 d3 d4 d5 d6 hb7;obtain⟨c0,c1,c2,c3,c4,c5,c6⟩:=HC.out wc HBC.out;go_wp2_with fail;clear c0 c1 c2 c3 c4 c5 c6;go_loopg [5,8,13] M (fun z v5 v8 v13 wr=>∃j:Nat,j<=M/\z=M-j/\v8=.bool true/\v13=.int .i64 ((j:Int)+1)/\Hid (OwnS wr wc.heap.size v5 ((nodeN F).take j))/\Hid (Below wc.heap.size wc wr))
     case atStart=>exact⟨0,by omega,rfl,rfl,rfl,OwnS.nil _ _,zB _ _⟩
     case round =>
      obtain⟨j,hj,rfl,rfl,rfl,HO,HBR⟩:=hrel;have hbr:=HBC.out.trans (HBR.out.mono HBC.out.size);by_cases hlt:j<M
      ·as_aux_lemma =>
        have hjl:j+1<F.doms.length:=by have:=HLN.out.1;omega
        obtain⟨b',off',cs,hAe,-,-,hc,vn,vd,hcs,hvn,hvd⟩:=(HF.out wr hbr).2.2.1.at_ (k:=j+1) hjl;injection hAe with hAe;injection hAe with hA1 hA2;subst hA1;subst hA2;obtain⟨A1,N1,e1,rfl⟩:=hvn.frm;obtain⟨A2,N2,e2,rfl⟩:=hvd.frm;obtain⟨c',off3,cs3,hAe,-,-,hc3,vn3,vd3,hcs3,hvn3,hvd3⟩:=(HF.out W0 (zB _ _)).2.2.1.at_ (k:=j+1) hjl;injection hAe with hAe;injection hAe with hA1 hA2;subst hA1;subst hA2;obtain⟨-,-,-,-,-,l53,l63⟩:=seven_at hc3 hcs3;obtain⟨l0,l1,l2,l3,l4,l5,l6⟩:=seven_at hc hcs;have e53:=(hbr.cell (p:=⟨db,doff+(j+1)*7+5,none⟩) HDB.out).trans l53;have e63:=(hbr.cell (p:=⟨db,doff+(j+1)*7+6,none⟩) HDB.out).trans l63;rw[l5] at e53;rw[l6] at e63;injection e53 with e53;injection e63 with e63;rw[<-e53] at hvn3;rw[<-e63] at hvd3;have hxa:=nodeN_dom (zG hjl);have hlow:=nodeN_low HOK.out _ (List.mem_of_getElem? hxa);have hnot:=not_take (nodeN_nodup HOK.out) hxa;have htk:=take_more hxa;obtain⟨hname,hl1,hl4,⟨p,hpar,hpi,dp,hdp,hdl⟩,hu1,hu64,hsh⟩:=HOK.out.doms.rest (j+1) F.doms[j+1] (zG hjl) (by omega);have hpl:p<F.doms.length:=(zL.1 hdp).1;obtain⟨b2,off2,cs2,hAe,-,-,hcp,vn2,vd2,hcs2,-,-⟩:=(HF.out W0 (zB _ _)).2.2.1.at_ (k:=p) hpl;injection hAe with hAe;injection hAe with hA1 hA2;subst hA1;subst hA2;obtain⟨-,q1,-⟩:=seven_at hcp hcs2;rw[show F.doms[p]=dp from(zL.1 hdp).2,hdl] at q1;rw[hpar] at l2;rw[hsh] at l4 hvn3 hvd3;have HVX:=zh (show(∀w',Below W0.heap.size W0 w'->LS w' (Bl w'.heap.size) (.slice A1 N1 e1) (natL 0))/\(∀w',Below W0.heap.size W0 w'->LS w' (Bl w'.heap.size) (.slice A2 N2 e2) (natL 1)) from⟨fun w' hb=>hvn3.below hb,fun w' hb=>hvd3.below hb⟩);obtain⟨X,hX⟩:=zx (F.doms[j+1].name);obtain⟨lev,hlev⟩:=zx (F.doms[j+1].level);obtain⟨up,hup⟩:=zx (F.doms[j+1].uplink);rw[<-hX] at l0 hlow hnot htk;rw[<-hlev] at l1 hl1 hl4 q1;rw[<-hup] at l3 hu1 hu64;have HQ1:=zh (fun(w':World) (hb:Below W0.heap.size W0 w')=>(hb.cell (p:=⟨db,doff+p*7+1,none⟩) HDB.out).trans q1);have HI1:=zh (fun w=>rwithin_any lev 1 4 ⟨hl1,hl4⟩ w);have HI2:=zh (fun w=>rwithin_any (p:Int) 0 (j:Int) (by omega) w);have HI3:=zh (fun w=>rwithin_any up 1 64 ⟨hu1,hu64⟩ w);obtain⟨W3,hW3⟩:=zx (wr.alloc (.cells #[.string X,.int .i64 lev,.int .i64 (p:Int),.int .i64 up,.bool false,.slice A1 N1 e1,.slice A2 N2 e2] 100));obtain⟨g,hg⟩:=zx wr.heap.size
        have hb3:Below wr.heap.size wr W3:=by rw[hW3];exact(zB _ _).alloc (zR _) _
        have hgk:W3.heap[g]?=some (.cells #[.string X,.int .i64 lev,.int .i64 (p:Int),.int .i64 up,.bool false,.slice A1 N1 e1,.slice A2 N2 e2] 100 (0,0)):=by rw[hW3,hg];exact zN _ _
        obtain⟨d0,d1,d2,d3,d4,d5,d6⟩:=cells7 hgk;have HB3:=zh (HBR.out.trans (hb3.mono HBR.out.size));have HOW:=zh (HO.out.below hb3);have HFR:=zh (rfresh_any wc.heap.size _ _ X W3 HOW.out HB3.out.size hlow hnot (by rw[List.length_take,nodeN_length];have:=HLN.out;have:=HI.out;omega) (low_sizes (nodeN_low HOK.out)));have HTK:=zh htk;have HW3:=zh hW3;have HG:=zh hg;have HGK:=zh hgk;have HPI:=zh (show p<M+1/\p<=j/\j<M from⟨by have:=HLN.out.1;omega,by omega,hlt⟩);have HLV:=zh (show 1<=lev/\lev<=4 from⟨hl1,hl4⟩)
        have hJ1:(j:Int)+1<(M:Int)+1:=by omega
        have hJ0:(0:Int)<=(j:Int)+1:=by omega
        obtain⟨c0,c1,c2,c3,c4,c5,c6⟩:=HC.out wr hbr;clear hW3 hg hgk hb3 hc hcs hxa hlow hnot htk hX hlev hup hvn hvd hcp hcs2 q1 hname hl1 hl4 hpar hpi hdp hdl hu1 hu64 hsh hpl hc3 hcs3 hvn3 hvd3 l53 l63 e53 e63;go_upto_region 22 with fail;rw[<-HW3.out,<-HG.out];go_wp2_with fail;refine HFR.out.mono ?_;rintro e w5 ⟨u5,rfl,ho5,hg5⟩;rw[<-HTK.out] at ho5;have HO5:=zh ho5;have HB5:=zh (HB3.out.grown hg5 HB3.out.size (fun b e=>(HOW.out.lt b e).1));have hk5:=own_keptV hg5 HO.out HG.out (zA.1 HGK.out).1;have HK5:=zh (hk5.trans HGK.out);clear c0 c1 c2 c3 c4 c5 c6 d0 d1 d2 d3 d4 d5 d6 l0 l1 l2 l3 l4 l5 l6 ho5 hg5 hk5;have hb05:=HBC.out.trans (HB5.out.mono HBC.out.size);obtain⟨-,m1,m2,m3,m4,m5,m6⟩:=cells7 HK5.out;have HS0:=zh (show HeldD w5 q g db doff p (M+1) (cc+1) lev up (.slice A1 N1 e1) (.slice A2 N2 e2) w5.drew from⟨(HC.out w5 hb05).2.2.2.1,m1,m2,m3,m4,m5,m6,HQ1.out w5 hb05,(zB _ _).drew⟩);have HQG:=zh (show q<w5.heap.size/\g<w5.heap.size/\db<w5.heap.size from⟨zM HQL.out hb05.size,(zA.1 HK5.out).1,zM HDB.out hb05.size⟩);have hbr5:Below wr.heap.size wr wr:=zB _ _;have HV1:=HVX.out.1 w5 hb05;have HV2:=HVX.out.2 w5 hb05;have HLI:=zh (fun w (h:Below w5.heap.size w5 w)=>rsmall_any (.slice A1 N1 e1) (.slice A2 N2 e2) 0 1 w (HV1.below h) (HV2.below h) (by omega) (by decide));have t4:IntKind.i64.wrap (lev-1)=lev-1:=zI _ (by have:=HLV.out;omega)
        have t5:(lev-1==lev-1)=true:=by simp
        have t6:IntKind.i64.wrap (j:Int)=(j:Int):=zI _ (by have:=HPI.out;have:=HI.out;omega)
        have t0:(0:Int)<=(p:Int):=by omega
        have t1:(p:Int)<(M:Int)+1:=by have:=HPI.out;omega
        clear hb05 m1 m2 m3 m4 m5 m6 HV1 HV2 hbr5;go_upto_region 23 with fail;refine region_tail (S:=(fun w'=>w'.cell? ⟨q,3,none⟩=some (.slice (some ⟨db,doff,none⟩) (M+1) (cc+1))/\w'.cell? ⟨g,1,none⟩=some (.int .i64 lev)/\w'.cell? ⟨g,2,none⟩=some (.int .i64 (p:Int))/\w'.cell? ⟨g,3,none⟩=some (.int .i64 up)/\w'.cell? ⟨g,4,none⟩=some (.bool false)/\w'.cell? ⟨g,5,none⟩=some (.slice A1 N1 e1)/\w'.cell? ⟨g,6,none⟩=some (.slice A2 N2 e2)/\w'.cell? ⟨db,doff+p*7+1,none⟩=some (.int .i64 (lev-1))/\Below w5.heap.size w5 w')) [] (by kernel_rfl) HS0.out (fun hHeld=>?_);refine tk 0 184 ?_;refine tk 1 185 ?_;refine tk 2 186 ?_;refine tk 3 187 ?_;refine rd1 4 (fun K hK=>?_);go_simp;(go_at_call 97;refine(HI1.out _).mono ?_;rintro e w7 ⟨rfl,rfl⟩);go_wp2_with fail;refine hK.out _ _ ?_ (fun hHeld=>?_)
        ·(first|assumption|exact HeldD.below (by assumption) hb6 HQG.out.1 HQG.out.2.1 HQG.out.2.2)
        clear hK K;(try simp only[Act.put,z1,z2,z3]);refine rd1 5 (fun K hK=>?_);go_simp;refine hK.out _ _ ?_ (fun hHeld=>?_)
        ·(first|assumption|exact HeldD.below (by assumption) hb6 HQG.out.1 HQG.out.2.1 HQG.out.2.2)
        clear hK K;(try simp only[Act.put,z1,z2,z3]);refine tk 6 190 ?_;refine tk 7 191 ?_;refine tk 8 192 ?_;refine tk 9 193 ?_;refine tk 10 194 ?_;refine rd1 11 (fun K hK=>?_);go_simp;(go_at_call 97;refine(HI2.out _).mono ?_;rintro e w7 ⟨rfl,rfl⟩);go_wp2_with fail;refine hK.out _ _ ?_ (fun hHeld=>?_)
        ·(first|assumption|exact HeldD.below (by assumption) hb6 HQG.out.1 HQG.out.2.1 HQG.out.2.2)
        clear hK K;(try simp only[Act.put,z1,z2,z3]);refine rd1 12 (fun K hK=>?_);go_simp;refine hK.out _ _ ?_ (fun hHeld=>?_)
        ·(first|assumption|exact HeldD.below (by assumption) hb6 HQG.out.1 HQG.out.2.1 HQG.out.2.2)
        clear hK K;(try simp only[Act.put,z1,z2,z3]);refine tk 13 197 ?_;refine tk 14 198 ?_;refine tk 15 199 ?_;refine tk 16 200 ?_;refine tk 17 201 ?_;refine tk 18 202 ?_;refine tk 19 203 ?_;refine tk 20 204 ?_;refine tk 21 205 ?_;refine tk 22 206 ?_;refine tk 23 207 ?_;refine tk 24 208 ?_;refine rd1 25 (fun K hK=>?_);go_simp;refine hK.out _ _ ?_ (fun hHeld=>?_)
        ·(first|assumption|exact HeldD.below (by assumption) hb6 HQG.out.1 HQG.out.2.1 HQG.out.2.2)
        clear hK K;(try simp only[Act.put,z1,z2,z3]);refine tk 26 210 ?_;refine tk 27 211 ?_;refine tk 28 212 ?_;refine rd1 29 (fun K hK=>?_);go_simp;(go_at_call 97;refine(HI3.out _).mono ?_;rintro e w7 ⟨rfl,rfl⟩);go_wp2_with fail;refine hK.out _ _ ?_ (fun hHeld=>?_)
        ·(first|assumption|exact HeldD.below (by assumption) hb6 HQG.out.1 HQG.out.2.1 HQG.out.2.2)
        clear hK K;(try simp only[Act.put,z1,z2,z3]);refine rd1 30 (fun K hK=>?_);go_simp;refine hK.out _ _ ?_ (fun hHeld=>?_)
        ·(first|assumption|exact HeldD.below (by assumption) hb6 HQG.out.1 HQG.out.2.1 HQG.out.2.2)
        clear hK K;(try simp only[Act.put,z1,z2,z3]);refine tk 31 215 ?_;refine tk 32 216 ?_;refine tk 33 217 ?_;refine rd1 34 (fun K hK=>?_);go_simp;(go_at_call 102;refine(HLI.out _ (HeldD.bl (by assumption))).mono ?_;rintro e w6 ⟨rfl,hb6⟩);go_wp2_with fail;refine hK.out _ _ ?_ (fun hHeld=>?_)
        ·(first|assumption|exact HeldD.below (by assumption) hb6 HQG.out.1 HQG.out.2.1 HQG.out.2.2)
        clear hK K;(try simp only[Act.put,z1,z2,z3]);refine rd1 35 (fun K hK=>?_);go_simp;refine hK.out _ _ ?_ (fun hHeld=>?_)
        ·(first|assumption|exact HeldD.below (by assumption) hb6 HQG.out.1 HQG.out.2.1 HQG.out.2.2)
        clear hK K;(try simp only[Act.put,z1,z2,z3]);refine tk 36 8 ?_;refine doneT (by kernel_rfl) ?_ _;have HBZ:=zh (HeldD.bl hHeld);clear hHeld hb6;go_wp2_with fail;go_roundg (M-(j+1))
        case measure=>omega
        case rel=>exact⟨j+1,by have:=HPI.out.2.2;omega,rfl,rfl,by go_num,HO5.out.below HBZ.out,HB5.out.trans (HBZ.out.mono HB5.out.size)⟩
      ·-- R3{
       obtain rfl:M=j:=by omega
       obtain⟨wd,hwd⟩:=zx (wr:World);subst hwd;have HO3:=HO;have HBD:=HBR;obtain⟨c0,c1,c2,c3,c4,c5,c6⟩:=HC.out wd hbr;clear HO HBR hlt hj hbr;go_wp2_with fail;clear c0 c1 c2 c3 c4 c5 c6;go_loopg [5,8,15] NV (fun z v5 v8 v15 wr=>∃j:Nat,j<=NV/\z=NV-j/\v8=.bool true/\v15=.int .i64 (j:Int)/\Hid (OwnS wr wc.heap.size v5 ((nodeN F).take (M+j)))/\Hid (Below wc.heap.size wc wr))
       case atStart=>exact⟨0,by omega,rfl,rfl,rfl,HO3.out,HBD.out⟩
       case round =>
        obtain⟨j,hj,rfl,rfl,rfl,HO,HBR⟩:=hrel;have hbr:=HBC.out.trans (HBR.out.mono HBC.out.size);obtain⟨c0,c1,c2,c3,c4,c5,c6⟩:=HC.out wr hbr;by_cases hlt:j<NV
        ·as_aux_lemma =>
          have hjl:j<F.dves.length:=by have:=HLN.out.2.1;omega
          obtain⟨b',off',cs,hAe,-,-,hc,hcs⟩:=(HF.out wr hbr).2.2.2.1.at_ (k:=j) hjl;injection hAe with hAe;injection hAe with hA1 hA2;subst hA1;subst hA2;obtain⟨-,x2,m,x3,dp,hdp,hdl⟩:=HOK.out.dves j F.dves[j] (zG hjl);have hml:m<F.doms.length:=(zL.1 hdp).1;obtain⟨b2,off2,cs2,hAe,-,-,hcp,vn2,vd2,hcs2,-,-⟩:=(HF.out W0 (zB _ _)).2.2.1.at_ (k:=m) hml;injection hAe with hAe;injection hAe with hA1 hA2;subst hA1;subst hA2;obtain⟨-,q1,-⟩:=seven_at hcp hcs2;rw[show F.doms[m]=dp from(zL.1 hdp).2,hdl] at q1;obtain⟨l0,l1,l2⟩:=three_at hc hcs;rw[x3] at l2;have hxa:=nodeN_dve HLN.out.1 (zG hjl);have hlow:=nodeN_low HOK.out _ (List.mem_of_getElem? hxa);have hnot:=not_take (nodeN_nodup HOK.out) hxa;have htk:=take_more hxa;obtain⟨X,hX⟩:=zx (F.dves[j].name)
          obtain⟨MO,hMO,hMO1⟩:∃x:Nat,F.dves[j].model=(x:Int)/\x<=1:=by rcases x2 with e | e <;> rw[e] <;> first | exact⟨0,rfl,by omega⟩ | exact⟨1,rfl,by omega⟩
          rw[<-hX] at l0 hlow hnot htk;rw[hMO] at l1
          have hmM:m<M+1:=by have:=HLN.out.1;omega
          have HI1:=zh (fun w=>rwithin_any (MO:Int) 0 1 (by omega) w);have HI2:=zh (fun w=>rwithin_any (m:Int) 0 (M:Int) (by omega) w);have HQ1:=zh (fun(w':World) (hb:Below W0.heap.size W0 w')=>(hb.cell (p:=⟨db,doff+m*7+1,none⟩) HDB.out).trans q1)
          have im1:(m:Int)<(M:Int)+1:=by omega
          obtain⟨W3,hW3⟩:=zx (wr.alloc (.cells #[.string X,.int .i64 (MO:Int),.int .i64 (m:Int)] 102));obtain⟨g,hg⟩:=zx wr.heap.size
          have hb3:Below wr.heap.size wr W3:=by rw[hW3];exact(zB _ _).alloc (zR _) _
          have hgk:W3.heap[g]?=some (.cells #[.string X,.int .i64 (MO:Int),.int .i64 (m:Int)] 102 (0,0)):=by rw[hW3,hg];exact zN _ _
          obtain⟨d0,d1,d2⟩:=cells3v hgk;have HB3:=zh (HBR.out.trans (hb3.mono HBR.out.size));have HOW:=zh (HO.out.below hb3);have HFR:=zh (rfresh_any wc.heap.size _ _ X W3 HOW.out HB3.out.size hlow hnot (by rw[List.length_take,nodeN_length];have:=HLN.out;have:=HI.out;omega) (low_sizes (nodeN_low HOK.out)));have HTK:=zh htk;have HW3:=zh hW3;have HG:=zh hg;have HGK:=zh hgk;have HLT:=zh hlt;clear hW3 hg hgk hb3 hc hcs x2 x3 hMO hX hcp hcs2 q1 hdp hdl hml hMO1 hmM hxa hlow hnot htk;go_upto_region 28 with fail;rw[<-HW3.out,<-HG.out];go_wp2_with fail;refine HFR.out.mono ?_;rintro e w5 ⟨u5,rfl,ho5,hg5⟩;rw[show M+j+1=M+(j+1) from rfl] at HTK;rw[<-HTK.out] at ho5;have HO5:=zh ho5;have HB5:=zh (HB3.out.grown hg5 HB3.out.size (fun b e=>(HOW.out.lt b e).1));have hk5:=own_keptV hg5 HO.out HG.out (zA.1 HGK.out).1;clear c0 c1 c2 c3 c4 c5 c6 d0 d1 d2 l0 l1 l2;obtain⟨f0,f1,f2⟩:=cells3v (hk5.trans HGK.out);have hb05:=HBC.out.trans (HB5.out.mono HBC.out.size);obtain⟨c0,c1,c2,c3,c4,c5,c6⟩:=HC.out w5 hb05;have q1:=HQ1.out w5 hb05;clear ho5 hg5 hk5 hb05;go_wp2_with fail;refine(HI1.out _).mono ?_;rintro e w6 ⟨rfl,rfl⟩;go_wp2_with fail;refine(HI2.out _).mono ?_;rintro e w6 ⟨rfl,rfl⟩;go_wp2_with fail;clear c0 c1 c2 c3 c4 c5 c6 f0 f1 f2 q1;go_roundg (NV-(j+1))
          case measure=>omega
          case rel=>exact⟨j+1,by have:=HLT.out;omega,rfl,rfl,by go_num,HO5.out,HB5.out⟩
        ·-- R4{
         obtain rfl:NV=j:=by omega
         obtain⟨we,hwe⟩:=zx (wr:World);subst hwe;have HO4:=HO;have HBE:=HBR;have HE:=zh hbr;clear HO HBR hlt hj hbr;go_wp2_with fail;clear c0 c1 c2 c3 c4 c5 c6;go_loopg [6,8,17] NP (fun z v6 v8 v17 wr=>∃j:Nat,j<=NP/\z=NP-j/\v8=.bool true/\v17=.int .i64 (j:Int)/\Hid (OwnS wr we.heap.size v6 ((F.pols.map (·.name)).take j))/\Hid (Below we.heap.size we wr))
         case atStart=>exact⟨0,by omega,rfl,rfl,rfl,OwnS.nil _ _,zB _ _⟩
         case round =>
          obtain⟨j,hj,rfl,rfl,rfl,HO,HBR⟩:=hrel;by_cases hlt:j<NP
          ·as_aux_lemma =>
            have hbr:=HE.out.trans (HBR.out.mono HE.out.size)
            have hjl:j<F.pols.length:=by have:=HLN.out.2.2.1;omega
            obtain⟨b',off',cs,hAe,-,-,hc,vm,vr,tn,td,hn,hd,hcs,k1,k2,k3,k4,k5,k6⟩:=(HF.out W0 (zB _ _)).2.2.2.2.1.at_ (k:=j) hjl;injection hAe with hAe;injection hAe with hA1 hA2;subst hA1;subst hA2;obtain⟨Am,em,hvm,-,-⟩:=k1.form7;obtain⟨Ar,er,hvr,-,-⟩:=k2.form;obtain⟨A1,N1,e1,rfl⟩:=k3.frm;obtain⟨A2,N2,e2,rfl⟩:=k4.frm;obtain⟨A4,N4,e4,rfl⟩:=k5.frm;obtain⟨A5,N5,e5,rfl⟩:=k6.frm;obtain⟨Lm,hLm⟩:=zx (F.pols[j].models.length);obtain⟨Lr,hLr⟩:=zx (F.pols[j].repair.length);rw[<-hLm] at hvm;rw[<-hLr] at hvr;subst hvm hvr;have hrg0:W0.rangeAt pb (pof+j*17) cs:=hc;rw[hcs] at hrg0;have hpb:pb<W0.heap.size:=HPB.out;obtain⟨X,hX⟩:=zx (F.pols[j].name);obtain⟨XK,hXK⟩:=zx (F.pols[j].k);obtain⟨XM,hXM⟩:=zx (F.pols[j].m);obtain⟨XQ,hXQ⟩:=zx (F.pols[j].q);obtain⟨X3,hX3⟩:=zx (F.pols[j].s3);obtain⟨X4,hX4⟩:=zx (F.pols[j].s4);obtain⟨B1,hB1⟩:=zx (F.pols[j].target.neg);obtain⟨B2,hB2⟩:=zx (F.pols[j].horizon.neg);obtain⟨wk,wm1,wm2,wq1,wq2,w31,w32,w41,w42,wmod,wrep,wtar,whor⟩:=(HOK.out.pols j F.pols[j] (zG hjl)).2.2;obtain⟨m',hm'⟩:∃n:Nat,F.pols[j].m=(n:Int):=⟨F.pols[j].m.toNat,by omega⟩;have hBF:B1=false/\B2=false:=⟨by rw[hB1,wtar],by rw[hB2,whor]⟩
            have hrep:F.pols[j].repair=List.replicate (max m' 1) ⟨false,1,2⟩:=by rw[wrep,hm'];congr 1;omega
            rw[wtar] at k3 k4;rw[whor] at k5 k6;rw[hrep] at k2;have HDR:=zh (fun(w':World) (hb:Below W0.heap.size W0 w')=>rdurations_any (.slice Ar Lr er) m' (by omega) (.slice A1 N1 e1) (.slice A2 N2 e2) (.slice A4 N4 e4) (.slice A5 N5 e5) w' (SlS.below frcK k2 hb) (k3.below hb) (k4.below hb) (k5.below hb) (k6.below hb));have HNU:=zh (fun w=>rnumbers_any XK XM XQ X3 X4 w (by rw[hXK];exact wk) (by rw[hXM];exact⟨wm1,wm2⟩) (by rw[hXK,hXM,hXQ];exact⟨wq1,wq2⟩) (by rw[hX3];exact⟨w31,w32⟩) (by rw[hX4];exact⟨w41,w42⟩));have HMN:=zh (show XM=(m':Int) from hXM.trans hm');have HBF:=zh hBF
            have hmd:∀i (h:i<F.pols[j].models.length),F.pols[j].models[i]=(i:Int):=by
             rcases wmod with h | h
             ·rw[h];intro i hi;match i,hi with
              | 0,_=>rfl
              | 1,_=>rfl
             ·rw[h];intro i hi;match i,hi with
              | 0,_=>rfl
            have hL12:1<=Lm/\Lm<=2:=by rcases wmod with h | h <;> (rw[hLm,h];decide)
            obtain⟨mb1,mo1,hAm,hmR,-,-⟩:=k1.at7 (k:=0) (by rw[<-hLm];omega)
            have HMC:=zh (fun(i:Nat) (hi:i<Lm) (w':World) (hb:Below W0.heap.size W0 w')=>(show w'.cell? ⟨mb1,mo1+i,none⟩=some (.int .i64 (i:Int)) from by
             obtain⟨b,off,e,hR,hc,-⟩:=k1.at7 (k:=i) (by rw[<-hLm];exact hi);rw[hAm] at e;injection e with e;injection e with e1 e2;subst e1 e2;rw[hmd i (by rw[<-hLm];exact hi)] at hc
             exact(hb.cell (p:=⟨mb1,mo1+i,none⟩) hR).trans hc))
            have HAM:=zh hAm;have HL12:=zh hL12;clear wk wm1 wm2 wq1 wq2 w31 w32 w41 w42 wmod wrep wtar whor hm' hBF hrep hmd hL12 hAm hmR;have hxa:=map_name (f:=fun x:PolM=>x.name) (zG hjl);have hlow:=polN_low HOK.out _ (List.mem_of_getElem? hxa);have hnot:=not_take (polN_nodup HOK.out) hxa;have htk:=take_more hxa;rw[<-hX] at hlow hnot htk;rw[<-hX,<-hXK,<-hXM,<-hXQ,<-hX3,<-hX4,<-hB1,<-hB2] at hrg0;obtain⟨A3,c3,rfl⟩:=HO.out.at_len j (by rw[List.length_take];have:=HLN.out.2.2.1;rw[List.length_map];omega);have hrg:=range_same hrg0 (hbr.block pb hpb);obtain⟨W3,hW3⟩:=zx ((wr.alloc (.cells #[.string ⟨#[]⟩,.int .i64 0,.int .i64 0,.int .i64 0,.int .i64 0,.int .i64 0,.int .i64 0,.int .i64 0,.int .i64 0,.slice none 0 0,.slice none 0 0,.bool false,.slice none 0 0,.slice none 0 0,.bool false,.slice none 0 0,.slice none 0 0] 55)).setCells wr.heap.size 0 [.string X,.int .i64 XK,.int .i64 XM,.int .i64 XQ,.int .i64 0,.int .i64 0,.int .i64 0,.int .i64 X3,.int .i64 X4,.slice Am Lm em,.slice Ar Lr er,.bool B1,.slice A1 N1 e1,.slice A2 N2 e2,.bool B2,.slice A4 N4 e4,.slice A5 N5 e5]);obtain⟨g,hg⟩:=zx wr.heap.size;have hth:(wr.alloc (.cells #[.string ⟨#[]⟩,.int .i64 0,.int .i64 0,.int .i64 0,.int .i64 0,.int .i64 0,.int .i64 0,.int .i64 0,.int .i64 0,.slice none 0 0,.slice none 0 0,.bool false,.slice none 0 0,.slice none 0 0,.bool false,.slice none 0 0,.slice none 0 0] 55)).there wr.heap.size 0 17:=there_new (cs:=#[.string ⟨#[]⟩,.int .i64 0,.int .i64 0,.int .i64 0,.int .i64 0,.int .i64 0,.int .i64 0,.int .i64 0,.int .i64 0,.slice none 0 0,.slice none 0 0,.bool false,.slice none 0 0,.slice none 0 0,.bool false,.slice none 0 0,.slice none 0 0]) (zN wr _) (zR 17)
            have hb3:Below wr.heap.size wr W3:=by rw[hW3];exact below_setCellsV (zR _) _ _ _ ((zB _ _).alloc (zR _) _)
            have hgk:W3.rangeAt g 0 [.string X,.int .i64 XK,.int .i64 XM,.int .i64 XQ,.int .i64 0,.int .i64 0,.int .i64 0,.int .i64 X3,.int .i64 X4,.slice Am Lm em,.slice Ar Lr er,.bool B1,.slice A1 N1 e1,.slice A2 N2 e2,.bool B2,.slice A4 N4 e4,.slice A5 N5 e5]:=by rw[hW3,hg];exact World.rangeAt_setCells_same _ _ _ _ hth
            have d0:W3.cell? ⟨g,0,none⟩=some (.string X):=hgk 0 _ rfl;have hgl:g<W3.heap.size:=World.block_lt_of_cell? W3 _ d0;have HTH:=zh hth;have HRG:=zh hrg;have HGK:=zh hgk;have HGL:=zh hgl;have HOW:=zh (HO.out.below hb3);have HB3:=zh (HBR.out.trans (hb3.mono HBR.out.size));have HSZ:=zh HB3.out.size;have HW3:=zh hW3;have HG:=zh hg;have HTK:=zh htk;have HJ:=zh hj;have HLT:=zh hlt;have HFR:=zh (rfresh_any we.heap.size _ _ X W3 HOW.out HB3.out.size hlow hnot (by rw[List.length_take,List.length_map];have:=HLN.out;have:=HI.out;omega) (low_sizes (polN_low HOK.out)));obtain⟨c0,c1,c2,c3',c4,c5,c6⟩:=HC.out wr hbr;clear hW3 hg hgk hb3 hbr htk hxa hlow hnot hth hrg hgl hrg0 hpb hc hcs k1 k2 k3 k4 k5 k6 hX hXK hXM hXQ hX3 hX4 hB1 hB2 hLm hLr;go_wp2_with (first | (refine wpList_load_mid rfl 55 (.tmp 284) rfl pb (pof+j*17) (by rfl) [.string X,.int .i64 XK,.int .i64 XM,.int .i64 XQ,.int .i64 0,.int .i64 0,.int .i64 0,.int .i64 X3,.int .i64 X4,.slice Am Lm em,.slice Ar Lr er,.bool B1,.slice A1 N1 e1,.slice A2 N2 e2,.bool B2,.slice A4 N4 e4,.slice A5 N5 e5] _ HRG.out Tryz.underlying55 rfl size_pol ?_) | (refine wpList_store_mid rfl 55 (.tmp 18) (.tmp 285) rfl wr.heap.size 0 #[.string X,.int .i64 XK,.int .i64 XM,.int .i64 XQ,.int .i64 0,.int .i64 0,.int .i64 0,.int .i64 X3,.int .i64 X4,.slice Am Lm em,.slice Ar Lr er,.bool B1,.slice A1 N1 e1,.slice A2 N2 e2,.bool B2,.slice A4 N4 e4,.slice A5 N5 e5] (by rfl) (by rfl) HTH.out size_pol (by simp[Value.oneCell']) ?_;rw[<-HW3.out,<-HG.out]));go_wp2_with fail;refine HFR.out.mono ?_;rintro e w5 ⟨u5,rfl,ho5,hg5⟩;rw[<-HTK.out] at ho5;have HO5:=zh ho5;have HB5:=zh (HB3.out.grown hg5 HSZ.out (fun b e=>(HOW.out.lt b e).1));have HGK5:=zh (range_same HGK.out (own_keptV hg5 HO.out HG.out HGL.out));clear ho5 hg5 d0 c0 c1 c2 c3' c4 c5 c6;obtain⟨rfl,rfl⟩:=HBF.out;obtain rfl:=HMN.out;obtain rfl:=HAM.out;have HGL5:=zh (World.block_lt_of_cell? w5 _ (HGK5.out 0 _ rfl));have HC17:=zh (fun(w':World) (hb:Below w5.heap.size w5 w')=>pol_rangeV (range_same HGK5.out (hb.block g HGL5.out)));have HB05:=zh (HE.out.trans (HB5.out.mono HE.out.size));obtain⟨⟨k1,k2,k3,k4,k5,k6,k7,k8⟩,-⟩:=HC17.out w5 (zB _ _);clear HTH HRG HGK HOW HB3 HSZ HW3 HTK HFR;go_wp2_with fail;refine(HNU.out _).mono ?_;rintro e w6 ⟨rfl,hb6⟩;have HB6:=zh hb6;clear k1 k2 k3 k4 k5 k6 k7 k8 hb6;obtain⟨⟨-,k2,-⟩,k9,k10,k11,k12,k13,k14,k15,k16⟩:=HC17.out w6 HB6.out;have HDU:=zh (HDR.out w6 (HB05.out.trans (HB6.out.mono HB05.out.size)));go_wp2_with fail;refine HDU.out.mono ?_;rintro e w7 ⟨rfl,hb7⟩;have HB7:=zh (HB6.out.trans (hb7.mono HB6.out.size));clear k2 k9 k10 k11 k12 k13 k14 k15 k16 hb7 HDU HNU HDR;obtain⟨-,k9,-⟩:=HC17.out w7 HB7.out
            have hL1:(0:Int)<(Lm:Int):=by have:=HL12.out;omega
            have hL2:(Lm:Int)<=2:=by have:=HL12.out;omega
            go_wp2_with fail;clear k9;go_loopg [8,19] Lm (fun z v8 v19 wr=>∃i:Nat,i<=Lm/\z=Lm-i/\v8=.bool true/\v19=.int .i64 (i:Int)/\Hid (Below w7.heap.size w7 wr))
            case atStart=>exact⟨0,by omega,rfl,by have:=HL12.out;simp;omega,rfl,zB _ _⟩
            case round =>
             obtain⟨i,hi,rfl,rfl,rfl,HBX⟩:=hrel;have HB5X:=zh (HB7.out.trans (HBX.out.mono HB7.out.size));have HB0X:=zh (HB05.out.trans (HB5X.out.mono HB05.out.size));obtain⟨-,k9,-⟩:=HC17.out _ HB5X.out;by_cases hil:i<Lm
             ·as_aux_lemma =>
               have m0:=HMC.out i hil _ HB0X.out;obtain⟨-,-,c2,-⟩:=HC.out _ HB0X.out;go_upto_region 39 with fail
               go_quiet (exact Calls.quiet_of_same ((rwithin_any (i:Int) 0 1 (by omega) _).mono fun _ _ h=>⟨h.1,h.2.symm⟩))
               have hbq:=HBX.out.trans ((Below.drewN' (zB wr.heap.size wr) nq).mono HBX.out.size);obtain⟨w8,hw8⟩:=zx (wr.drewN nq);rw[<-hw8] at hbq ⊢;have HBQ:=zh hbq;clear c2 k9 m0 hw8 hbq;go_wp2_with fail;go_loopg [8,20] i (fun z v8 v20 wx=>∃t:Nat,t<=i/\z=i-t/\v8=.bool true/\v20=.int .i64 (t:Int)/\Hid (Below w7.heap.size w7 wx))
               case atStart=>exact⟨0,by omega,rfl,rfl,rfl,HBQ.out⟩
               case round =>
                obtain⟨t,ht,rfl,rfl,rfl,HBY⟩:=hrel;have HB5Y:=zh (HB7.out.trans (HBY.out.mono HB7.out.size));have HB0Y:=zh (HB05.out.trans (HB5Y.out.mono HB05.out.size));obtain⟨-,k9,-⟩:=HC17.out _ HB5Y.out;by_cases hti:t<i
                ·-- L7{
                 have m0:=HMC.out i hil _ HB0Y.out;have m1:=HMC.out t (by omega) _ HB0Y.out
                 have htl:t<Lm:=by omega
                 have hne:((t:Int)==(i:Int))=false:=by rw[beq_eq_false_iff_ne];omega
                 have hne2:((t:Int) != (i:Int))=true:=by rw[bne,hne];rfl
                 go_upto_region 43 with fail
                 go_quiet (fail)
                 have HBQ2:=zh (HBY.out.trans ((Below.drewN' (zB wr.heap.size wr) nq).mono HBY.out.size));clear m0 m1 k9 hne hne2;go_wp2_with fail;go_roundg (i-(t+1))
                 case measure=>omega
                 case rel=>exact⟨t+1,by omega,rfl,rfl,by go_num,HBQ2.out⟩
                ·obtain rfl:i=t:=by omega
                 clear k9;go_wp2_with fail;go_roundg (Lm-(i+1))
                 case measure=>omega
                 case rel=>exact⟨i+1,by omega,rfl,rfl,by go_num,HBY.out⟩
             ·-- R6{
              obtain rfl:Lm=i:=by omega
              go_wp2_with fail;go_roundg (NP-(j+1))
              case measure=>have:=HLT.out;omega
              case rel=>exact⟨j+1,by have:=HLT.out;omega,rfl,rfl,by go_num,HO5.out.below HB5X.out,HB5.out.trans (HB5X.out.mono HB5.out.size)⟩
          ·as_aux_lemma =>
            obtain rfl:NP=j:=by omega
            obtain⟨wf,hwf⟩:=zx (wr:World);subst hwf;have HP0:=HO;have HBF:=zh (HE.out.trans (HBR.out.mono HE.out.size));obtain⟨c0,c1,c2,c3,c4,c5,c6⟩:=HC.out wf HBF.out;clear HO HBR hlt hj;go_wp2_with fail;clear c0 c1 c2 c3 c4 c5 c6;go_loopg [7,8,21] NO (fun z v7 v8 v21 wr=>∃j:Nat,j<=NO/\z=NO-j/\v8=.bool true/\v21=.int .i64 (j:Int)/\Hid (OwnS wr wf.heap.size v7 ((F.vols.map (·.name)).take j))/\Hid (Below wf.heap.size wf wr))
            case atStart=>exact⟨0,by omega,rfl,rfl,rfl,OwnS.nil _ _,zB _ _⟩
            case round =>
             obtain⟨j,hj,rfl,rfl,rfl,HO,HBR⟩:=hrel;have hbr:=HBF.out.trans (HBR.out.mono HBF.out.size);by_cases hlt:j<NO
             ·-- L8{
              have hjl:j<F.vols.length:=by have:=HLN.out.2.2.2.1;omega
              obtain⟨b',off',cs,hAe,hvR,-,hc,hcs⟩:=(HF.out W0 (zB _ _)).2.2.2.2.2.at_ (k:=j) hjl;injection hAe with hAe;injection hAe with hA1 hA2;subst hA1;subst hA2;obtain⟨-,-,m,x3,x4⟩:=HOK.out.vols j F.vols[j] (zG hjl);obtain⟨l0,l1⟩:=two_at hc hcs;rw[x3] at l1;have hxa:=map_name (f:=fun x:VolM=>x.name) (zG hjl);have hlow:=volN_low HN12.out HOK.out _ (List.mem_of_getElem? hxa);have hnot:=not_take (volN_nodup HN12.out HOK.out) hxa;have htk:=take_more hxa;obtain⟨X,hX⟩:=zx (F.vols[j].name);rw[<-hX] at l0 hlow hnot htk
              have hnp:m<NP:=by have:=HLN.out.2.2.1;omega
              have HVL:=zh (fun(w':World) (hb:Below W0.heap.size W0 w')=>And.intro ((hb.cell (p:=⟨ob,oof+j*2,none⟩) hvR).trans l0) ((hb.cell (p:=⟨ob,oof+j*2+1,none⟩) hvR).trans l1));have HFR:=zh (rfresh_any wf.heap.size _ _ X wr HO.out HBR.out.size hlow hnot (by rw[List.length_take,List.length_map];have:=HLN.out;have:=HI.out;omega) (low_sizes (volN_low HN12.out HOK.out)));have HTK:=zh htk;have HMP:=zh hnp;have HLT:=zh hlt;have hsub:IntKind.i64.wrap ((NP:Int)-1)=(NP:Int)-1:=zI _ (by have:=HI.out;omega);clear l0 l1 hc hcs x3 x4 hxa hlow hnot htk hX hnp hvR;obtain⟨l0,l1⟩:=HVL.out wr hbr;obtain⟨c0,c1,c2,c3,c4,c5,c6⟩:=HC.out wr hbr;go_wp2_with fail;refine HFR.out.mono ?_;rintro e w5 ⟨u5,rfl,ho5,hg5⟩;rw[<-HTK.out] at ho5;have HO5:=zh ho5;have HB5:=zh (HBR.out.grown hg5 HBR.out.size (fun b e=>(HO.out.lt b e).1));have HB05:=zh (HBF.out.trans (HB5.out.mono HBF.out.size));clear ho5 hg5 c0 c1 c2 c3 c4 c5 c6 l0 l1;obtain⟨c0,c1,c2,c3,c4,c5,c6⟩:=HC.out w5 HB05.out;obtain⟨l0,l1⟩:=HVL.out w5 HB05.out;go_upto_region 48 with fail
              go_quiet (exact Calls.quiet_of_same ((rwithin_any (m:Int) 0 ((NP:Int)-1) (by have:=HMP.out;omega) _).mono fun _ _ h=>⟨h.1,h.2.symm⟩))
              have HBQ:=zh (Below.drewN' (zB w5.heap.size w5) nq);clear c0 c1 c2 c3 c4 c5 c6 l0 l1;go_wp2_with fail;go_roundg (NO-(j+1))
              case measure=>have:=HLT.out;omega
              case rel=>exact⟨j+1,by have:=HLT.out;omega,rfl,rfl,by go_num,HO5.out.below HBQ.out,HB5.out.trans (HBQ.out.mono HB5.out.size)⟩
             ·-- R8{
              obtain rfl:NO=j:=by omega
              obtain⟨c0,c1,c2,c3,c4,c5,c6⟩:=HC.out wr hbr;go_wp2_with fail;go_ret;exact⟨rfl,HB0.out.trans (hbr.mono HB0.out.size)⟩
theorem mod_ok{N:Nat}{F:FltM}(hok:FleetOk N F){j:Nat}{d:DveM}(hd:F.dves[j]?=some d):∃(mi:Nat) (m:ModM),d.model=(mi:Int)/\F.models[mi]?=some m/\mi<2/\1<=m.ext/\m.ext<=4:=by
 obtain⟨-,hm,-⟩:=hok.dves j d hd;obtain⟨a,b,c,e,h1,h2,h3,h4,hM⟩:=hok.models;rcases hm with hm | hm
 ·exact⟨0,⟨{ data:=#[98,105,103] },3+(a:Int),8+(b:Int),0⟩,hm,by rw[hM];rfl,by omega,by show(1:Int)<=3+(a:Int);omega,by show 3+(a:Int)<=4;omega⟩
 ·exact⟨1,⟨{ data:=#[111,108,100] },1+(c:Int),4+(e:Int),0⟩,hm,by rw[hM];rfl,by omega,by show(1:Int)<=1+(c:Int);omega,by show 1+(c:Int)<=4;omega⟩
theorem info_int8:(Tryz.prog.info? 3).map (fun i=>(i.zero,i.size,i.bytes))=some (some (.int .i64 0),1,8):=by kernel_rfl
end Go.Proofs.YtgfaieppacabjaaGreat
