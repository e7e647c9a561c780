/- Parts. -/
import Derived.Test.YtgfaieppacabjaaGreatMq16
set_option linter.unusedSectionVars false
set_option maxRecDepth 100000
set_option maxHeartbeats 12800000
set_option linter.unusedVariables false
set_option linter.unusedSimpArgs false
namespace Go.Proofs.YtgfaieppacabjaaGreat
open Go.RowKit
theorem fvalidate_any(N:Nat)(hN:N<=12)(vl vm vd vv vp vo:Value)(F:FltM)(w:World)(hf:FleetS w (Bl w.heap.size) vl vm vd vv vp vo F)(hok:FleetOk N F) :
  Calls Tryz.prog 16 #[.agg #[.int .i64 F.ext,vl,vm,vd,vv,vp,vo]] w fun e w'=>e=.returned (.int .i64 0)/\Below w.heap.size w w':=by
 obtain⟨Al,cl,hvl,-,-⟩:=hf.1.form;obtain⟨Am,cm,hvm,-,-⟩:=hf.2.1.form;obtain⟨Ad,cd,hvd,hcd,-⟩:=hf.2.2.1.form;obtain⟨Av,cv,hvv,-,-⟩:=hf.2.2.2.1.form;obtain⟨Ap,cp,hvp,-,-⟩:=hf.2.2.2.2.1.form;obtain⟨Ao,co,hvo,-,-⟩:=hf.2.2.2.2.2.form;have hl1:=(lawN_ok hok).2.2;have hm2:=(modN_ok hok).2.2;rw[hl1] at hvl;rw[hm2] at hvm;obtain⟨ND,hND⟩:=zx F.doms.length;obtain⟨NV,hNV⟩:=zx F.dves.length;obtain⟨NP,hNP⟩:=zx F.pols.length;obtain⟨NO,hNO⟩:=zx F.vols.length;rw[<-hND] at hvd hcd;rw[<-hNV] at hvv;rw[<-hNP] at hvp;rw[<-hNO] at hvo;subst hvl hvm hvd hvv hvp hvo;obtain⟨r,-,hlaws⟩:=hok.laws;have hroot:F.doms[0]?=some rootM:=hok.doms.root
 have hD1:1<=ND:=by rw[hND];exact(zL.1 hroot).1
 obtain⟨M,rfl⟩:∃M,ND=M+1:=⟨ND-1,by omega⟩;obtain⟨cc,rfl⟩:∃M,cd=M+1:=⟨cd-1,by omega⟩;obtain⟨W0,hW0⟩:=zx (w.alloc (.cells #[.int .i64 F.ext,.slice Al 1 cl,.slice Am 2 cm,.slice Ad (M+1) (cc+1),.slice Av NV cv,.slice Ap NP cp,.slice Ao NO co] 35));obtain⟨q,hq⟩:=zx w.heap.size
 have hb0:Below w.heap.size w W0:=by rw[hW0];exact(zB _ _).alloc (zR _) _
 have hqk:W0.heap[q]?=some (.cells #[.int .i64 F.ext,.slice Al 1 cl,.slice Am 2 cm,.slice Ad (M+1) (cc+1),.slice Av NV cv,.slice Ap NP cp,.slice Ao NO co] 35 (0,0)):=by rw[hW0,hq];exact zN _ _
 have hql:q<W0.heap.size:=(zA.1 hqk).1;have HC:=zh (fun(w':World) (hb:Below W0.heap.size W0 w')=>cells7 ((hb.block q hql).trans hqk));have hf0:=hf.below hb0;obtain⟨lb,lo,lcs,rfl,hlR,-,hlc,vs,vr,ve,hlcs,hvs,hvr,hve⟩:=hf0.1.at_ (k:=0) (by rw[hl1];omega)
 have hL0:F.laws[0]'(by rw[hl1];omega)=⟨{ data:=#[100,105,115,107] },[⟨false,1,1⟩],[[⟨false,0,1⟩]],[⟨false,1,100+r⟩]⟩:=by simp[hlaws]
 rw[hL0] at hlcs hvs hvr hve;obtain⟨bs,os,ks,sn,sd,rfl,hks,-,s0,s1,s2,sN,sD⟩:=one_frc2 hvs;obtain⟨br0,or0,kl,vrr,rfl,-,r0,hvrr⟩:=one_row hvr;obtain⟨br,orr,kr,rn,rd,rfl,hkr,-,x0,x1,x2,rN,rD⟩:=one_frc2 hvrr;obtain⟨be,oe,ke,en,ed,rfl,hke,-,e0,e1,e2,eN,eD⟩:=one_frc2 hve;have HLE:=zh (show LawE W0 r bs os br0 or0 be oe br orr kr sn sd rn rd en ed from⟨r0,s0,s1,s2,x0,x1,x2,e0,e1,e2,sN,sD,rN,rD,eN,eD⟩);have HKS:=zh (show 1<=ks/\1<=kr/\1<=ke from⟨hks,hkr,hke⟩);obtain⟨l0,l1,l2,l3⟩:=four hlc hlcs;have HLC:=zh (fun(w':World) (hb:Below W0.heap.size W0 w')=>(show w'.cell? ⟨lb,lo,none⟩=_/\w'.cell? ⟨lb,lo+1,none⟩=_/\w'.cell? ⟨lb,lo+2,none⟩=_/\w'.cell? ⟨lb,lo+3,none⟩=_ from⟨(hb.cell (p:=⟨lb,lo,none⟩) hlR).trans l0,(hb.cell (p:=⟨lb,lo+1,none⟩) hlR).trans l1,(hb.cell (p:=⟨lb,lo+2,none⟩) hlR).trans l2,(hb.cell (p:=⟨lb,lo+3,none⟩) hlR).trans l3⟩));obtain⟨db,doff,dcs,rfl,hdR,-,-,-⟩:=hf0.2.2.1.at_ (k:=0) (by omega);obtain⟨mb,mo,mcs,rfl,-,-,-,-⟩:=hf0.2.1.at_ (k:=0) (by omega);obtain⟨vb,vof,vcs,rfl,-,-,-,-⟩:=hf0.2.2.2.1.at_ (k:=0) (by have:=hok.dve1;omega);obtain⟨pb,pof,pcs,rfl,hpR,-,-,-⟩:=hf0.2.2.2.2.1.at_ (k:=0) (by have:=hok.pol1;omega);obtain⟨ob,oof,ocs,rfl,-,-,-,-⟩:=hf0.2.2.2.2.2.at_ (k:=0) (by have:=hok.vol1;omega);have HL1N:=zh (show(F.laws.map (·.name)).take 1=[{ data:=#[100,105,115,107] }] by rw[hlaws];rfl);have HPB:=zh (show pb<W0.heap.size from hpR);have HDB:=zh (show db<W0.heap.size from hdR);have HF0:=zh hf0;have HF:=zh (fun(w':World) (hb:Below W0.heap.size W0 w')=>(hf.below hb0).below hb);have hdm:=zh (fdomains_any F.ext (.slice (some ⟨lb,lo,none⟩) 1 cl) (.slice (some ⟨mb,mo,none⟩) 2 cm) (.slice (some ⟨vb,vof,none⟩) NV cv) (.slice (some ⟨pb,pof,none⟩) NP cp) (.slice (some ⟨ob,oof,none⟩) NO co) _ F.doms W0 (hf.below hb0).2.2.1 hok.doms (by rw[<-hND];exact hD1) hok.domN ⟨_,_,_,rfl⟩ ⟨_,_,_,rfl⟩ ⟨_,_,_,rfl⟩ ⟨_,_,_,rfl⟩ ⟨_,_,_,rfl⟩);have HIN:=zh (fin_any F.ext 1 4 W0);rw[decide_eq_true (show 1<=F.ext/\F.ext<=4 by have:=hok.ext;omega)] at HIN;have HOK:=zh hok;have HN12:=zh hN;have HLN:=zh (show M+1=F.doms.length/\NV=F.dves.length/\NP=F.pols.length/\NO=F.vols.length/\F.laws.length=1/\F.models.length=2 from⟨hND,hNV,hNP,hNO,hl1,hm2⟩)
 have i1:(M:Int)+1<=21:=by have:=hok.domN;omega
 have i2:(NV:Int)<=9:=by have:=hok.dveN;omega
 have i3:(NP:Int)<=2:=by have:=hok.polN;omega
 have i4:(NO:Int)<=12:=by have:=hok.volN;omega
 have i5:(1:Int)<=(M:Int)+1:=by omega
 have i6:(M:Int)+1<=(cc:Int)+1:=by omega
 have b1:decide ((40:Int)<(M:Int)+1)=false:=decide_eq_false (by omega);have b2:decide ((24:Int)<(NV:Int))=false:=decide_eq_false (by omega);have b3:decide ((4:Int)<(NP:Int))=false:=decide_eq_false (by omega);have b4:decide ((12:Int)<(NO:Int))=false:=decide_eq_false (by omega);have HI:=zh (show M<=cc/\M<=20/\NV<=9/\NP<=2/\NO<=12 from⟨by omega,by omega,by omega,by omega,by omega⟩);obtain⟨EXT,hEXT⟩:=zx F.ext;rw[<-hEXT] at HC hdm HIN hW0 ⊢;have HW0:=zh hW0;have HQ:=zh hq;have HB0:=zh hb0;have HQL:=zh hql;obtain⟨c0,c1,c2,c3,c4,c5,c6⟩:=HC.out W0 (zB _ _);clear hf0 hlR hpR hlc hlcs hvs hvr hve hL0 hks r0 hvrr hkr x0 x1 x2 rN rD hke e0 e1 e2 eN eD s0 s1 s2 sN sD l0 l1 l2 l3 hdR hlaws;clear hf hok hW0 hq hb0 hqk hql hroot hl1 hm2 hND hNV hNP hNO hD1 hcd hEXT;go_enter Tryz.func16,Tryz.ntmps16;go_upto_region 1 with fail;rw[<-HW0.out,<-HQ.out];go_wp2_with fail;refine HIN.out.mono ?_;rintro e w1 ⟨rfl,rfl⟩;go_wp2_with fail;refine hdm.out.mono ?_;rintro e w1 ⟨rfl,hb1⟩;clear c0 c1 c2 c3 c4 c5 c6;obtain⟨c0,c1,c2,c3,c4,c5,c6⟩:=HC.out w1 hb1;have HB1:=zh hb1;clear hb1;clear i6;go_wp2_with fail;clear c0 c1 c2 c3 c4 c5 c6;go_loopg [3,8,69] 1 (fun z v3 v8 v69 wr=>∃j:Nat,j<=1/\z=1-j/\v8=.bool true/\v69=.int .i64 (j:Int)/\Hid (OwnS wr w1.heap.size v3 ((F.laws.map (·.name)).take j))/\Hid (Below w1.heap.size w1 wr))
 case atStart=>exact⟨0,by omega,rfl,rfl,rfl,OwnS.nil _ _,zB _ _⟩
 case round =>
  obtain⟨j,hj,rfl,rfl,rfl,HO,HBR⟩:=hrel;by_cases hlt:j<1
  ·-- L1{
   obtain rfl:j=0:=by omega
   obtain⟨A3,c3,rfl⟩:=HO.out.at_len 0 (by rw[List.length_take];omega);have hbr:=HB1.out.trans (HBR.out.mono HB1.out.size);obtain⟨l0,l1,l2,l3⟩:=HLC.out wr hbr;obtain⟨W3,hW3⟩:=zx (wr.alloc (.cells #[.string { data:=#[100,105,115,107] },.slice (some ⟨bs,os,none⟩) 1 ks,.slice (some ⟨br0,or0,none⟩) 1 kl,.slice (some ⟨be,oe,none⟩) 1 ke] 96));obtain⟨g,hg⟩:=zx wr.heap.size
   have hb3:Below wr.heap.size wr W3:=by rw[hW3];exact(zB _ _).alloc (zR _) _
   have hgk:W3.heap[g]?=some (.cells #[.string { data:=#[100,105,115,107] },.slice (some ⟨bs,os,none⟩) 1 ks,.slice (some ⟨br0,or0,none⟩) 1 kl,.slice (some ⟨be,oe,none⟩) 1 ke] 96 (0,0)):=by rw[hW3,hg];exact zN _ _
   obtain⟨d0,d1,d2,d3⟩:=cells4 hgk;have HOW:=zh (HO.out.below hb3);have HB3:=zh (HBR.out.trans (hb3.mono HBR.out.size));have HSZ:=zh HB3.out.size;have HW3:=zh hW3;have HG:=zh hg;have HE5:=zh (fun(w':World) (hb:Below W0.heap.size W0 w')=>HLE.out.below hb);clear hW3 hg hgk hb3 hbr;go_upto_region 8 with fail;rw[<-HW3.out,<-HG.out];go_wp2_with (at_builtin;refine app_s { data:=#[100,105,115,107] } (.tmp 73) (.tmp 76) rfl rfl w1.heap.size (.slice A3 0 c3) 0 [] rfl (by rfl) HOW.out (by rfl) (by omega) HSZ.out ?_;intro v5 w5 hown5 hg5 hat5;obtain⟨f0,f1,f2,f3⟩:=cells4 (box_kept (by rw[<-HW3.out];exact hg5) HO.out HG.out);have HOW5:=zh hown5;have HB5:=zh (HB3.out.grown hg5 HSZ.out (fun b e=>(HOW.out.lt b e).1));clear hown5 hg5 hat5 d0 d1 d2 d3 l0 l1 l2 l3);go_wp2_with fail;refine(flaw_any _ r bs os br0 or0 be oe br orr ks kl ke kr sn sd rn rd en ed w5 (HE5.out w5 (HB1.out.trans (HB5.out.mono HB1.out.size))) HKS.out.1 HKS.out.2.2 HKS.out.2.1).mono ?_;rintro e w6 ⟨rfl,hb6⟩;have HOW6:=zh (show OwnS w6 w1.heap.size v5 ((F.laws.map (·.name)).take 1) from by rw[HL1N.out];exact HOW5.out.below hb6);have HB6:=zh (HB5.out.trans (hb6.mono HB5.out.size));clear hb6 f0 f1 f2 f3;go_wp2_with fail;go_roundg 0
   case measure=>omega
   case rel=>exact⟨1,by omega,rfl,rfl,rfl,HOW6.out,HB6.out⟩
  ·obtain rfl:j=1:=by omega
   obtain⟨wa,hwa⟩:=zx (wr:World);subst hwa;have HO1:=HO;have HBA:=zh (HB1.out.trans (HBR.out.mono HB1.out.size));obtain⟨c0,c1,c2,c3,c4,c5,c6⟩:=HC.out wa HBA.out;clear HO HBR hlt hj;go_wp2_with fail;clear c0 c1 c2 c3 c4 c5 c6;go_loopg [4,8,87] 2 (fun z v4 v8 v87 wr=>∃j:Nat,j<=2/\z=2-j/\v8=.bool true/\v87=.int .i64 (j:Int)/\Hid (OwnS wr wa.heap.size v4 ((F.models.map (·.name)).take (j)))/\Hid (Below wa.heap.size wa wr))
   case atStart=>exact⟨0,by omega,rfl,rfl,rfl,OwnS.nil _ _,zB _ _⟩
   case round =>
    obtain⟨j,hj,rfl,rfl,rfl,HO,HBR⟩:=hrel;by_cases hlt:j<2
    ·-- L2{
     have hbr:=HBA.out.trans (HBR.out.mono HBA.out.size)
     have hjl:j<F.models.length:=by have:=HLN.out.2.2.2.2.2;omega
     obtain⟨b',off',cs,hAe,-,-,hc,hcs⟩:=(HF.out wr hbr).2.1.at_ (k:=j) hjl;injection hAe with hAe;injection hAe with hA1 hA2;subst hA1;subst hA2;obtain⟨x1,x2,x3,x4,x5⟩:=modN_at HOK.out F.models[j] (List.getElem_mem hjl);obtain⟨l0,l1,l2,l3⟩:=four hc hcs;rw[x5] at l3;obtain⟨X,hX⟩:=zx (F.models[j].name);obtain⟨XE,hXE⟩:=zx (F.models[j].ext);obtain⟨XP,hXP⟩:=zx (F.models[j].port);rw[<-hX] at l0;rw[<-hXE] at l1 x1 x2;rw[<-hXP] at l2 x3 x4;have HI1:=zh (fun w=>fin_any XE 1 16 w);rw[decide_eq_true (show 1<=XE/\XE<=16 by omega)] at HI1;have HI2:=zh (fun w=>fin_any XP 1 64 w);rw[decide_eq_true (show 1<=XP/\XP<=64 by omega)] at HI2;have HI3:=zh (fun w=>fin_any 0 0 0 w);rw[decide_eq_true (show(0:Int)<=0/\(0:Int)<=0 by omega)] at HI3;have HX:=zh hX;clear hc hcs x1 x2 x3 x4 x5 hXE hXP hX
     have htk:(F.models.map (·.name)).take (j+1)=(F.models.map (·.name)).take (j)++[X]:=by rw[List.take_succ_eq_append_getElem (by rw[List.length_map];exact hjl),List.getElem_map,<-HX.out]
     obtain⟨A3,c3,rfl⟩:=HO.out.at_len (j) (by rw[List.length_take];have:=HLN.out.2.2.2.2.2;rw[List.length_map];omega);obtain⟨W3,hW3⟩:=zx (wr.alloc (.cells #[.string X,.int .i64 XE,.int .i64 XP,.int .i64 0] 98));obtain⟨g,hg⟩:=zx wr.heap.size
     have hb3:Below wr.heap.size wr W3:=by rw[hW3];exact(zB _ _).alloc (zR _) _
     have hgk:W3.heap[g]?=some (.cells #[.string X,.int .i64 XE,.int .i64 XP,.int .i64 0] 98 (0,0)):=by rw[hW3,hg];exact zN _ _
     obtain⟨d0,d1,d2,d3⟩:=cells4 hgk;have HOW:=zh (HO.out.below hb3);have HB3:=zh (HBR.out.trans (hb3.mono HBR.out.size));have HSZ:=zh HB3.out.size;have HW3:=zh hW3;have HG:=zh hg;have HTK:=zh htk;have HJ:=zh hj;have HLT:=zh hlt;clear hW3 hg hgk hb3 hbr htk;go_upto_region 14 with fail;rw[<-HW3.out,<-HG.out];go_wp2_with (at_builtin;refine app_s X (.tmp 91) (.tmp 94) rfl rfl wa.heap.size (.slice A3 (j) c3) (j) ((F.models.map (·.name)).take (j)) (by rw[List.length_take];have:=HLN.out.2.2.2.2.2;rw[List.length_map];omega) (by rfl) HOW.out.at_own (by rfl) (by have:=HJ.out;have:=HI.out;omega) HSZ.out ?_;intro v5 w5 hown5 hg5 hat5;obtain⟨f0,f1,f2,f3⟩:=cells4 (box_kept (by rw[<-HW3.out];exact hg5) HO.out HG.out);have HOW5:=zh hown5;rw[<-HTK.out] at HOW5;have HB5:=zh (HB3.out.grown hg5 HSZ.out (fun b e=>(HOW.out.lt b e).1));clear hown5 hg5 hat5 d0 d1 d2 d3 l0 l1 l2 l3);obtain⟨c0,c1,c2,c3',c4,c5,c6⟩:=HC.out w5 (HBA.out.trans (HB5.out.mono HBA.out.size));go_wp2_with fail;refine(HI1.out _).mono ?_;rintro e w6 ⟨rfl,rfl⟩;go_wp2_with fail;refine(HI2.out _).mono ?_;rintro e w6 ⟨rfl,rfl⟩;go_wp2_with fail;refine(HI3.out _).mono ?_;rintro e w6 ⟨rfl,rfl⟩;have HOWZ:=HOW5;have HBZ:=HB5;go_wp2_with fail;clear f0 f1 f2 f3;go_roundg (2-(j+1))
     case measure=>omega
     case rel=>exact⟨j+1,by have:=HLT.out;omega,rfl,rfl,by go_num,HOWZ.out,HBZ.out⟩
    ·-- R2{
     obtain rfl:j=2:=by omega
     obtain⟨wb,hwb⟩:=zx (wr:World);subst hwb;have HO2:=HO;have HAB:=HBR;have HBB:=zh (HBA.out.trans (HBR.out.mono HBA.out.size));obtain⟨c0,c1,c2,c3,c4,c5,c6⟩:=HC.out wb HBB.out;clear HO HBR hlt hj;go_upto_region 17 with fail;go_wp2_with (refine step_sl1 rfl (.tmp 118) rfl db doff M cc rfl HI.out.1 ?_;intro AP hAP;have HAP:=zh hAP;clear hAP);clear c0 c1 c2 c3 c4 c5 c6;go_wp2_with fail;go_loopg [5,121] M (fun z v5 v121 wr=>∃j:Nat,j<=M/\z=M-j/\v121=.int .i64 (j:Int)/\Hid (OwnS wr wb.heap.size v5 ((nodeN F).take (j)))/\Hid (Below wb.heap.size wb wr))
     case atStart=>exact⟨0,by omega,rfl,rfl,OwnS.nil _ _,zB _ _⟩
     case round =>
      obtain⟨j,hj,rfl,rfl,HO,HBR⟩:=hrel;by_cases hlt:j<M
      ·-- L3{
       have hbr:=HBB.out.trans (HBR.out.mono HBB.out.size)
       have hjl:j+1<F.doms.length:=by have:=HLN.out.1;omega
       obtain rfl:=HAP.out (by have:=HI.out.1;omega);obtain⟨b',off',cs,hAe,-,-,hc,vn,vd,hcs,hvn,hvd⟩:=(HF.out wr hbr).2.2.1.at_ (k:=j+1) hjl;injection hAe with hAe;injection hAe with hA1 hA2;subst hA1;subst hA2;obtain⟨A1,N1,e1,rfl⟩:=hvn.frm;obtain⟨A2,N2,e2,rfl⟩:=hvd.frm;obtain⟨l0,l1,l2,l3,l4,l5,l6⟩:=seven_at (w:=wr) (p:=db) (o:=doff+7+j*7) (fun t x hx=>by have:=hc t x hx;rw[show doff+(j+1)*7+t=doff+7+j*7+t by omega] at this;exact this) hcs;obtain⟨X,hX⟩:=zx (F.doms[j+1].name);obtain⟨X1,hX1⟩:=zx (F.doms[j+1].level);obtain⟨X2,hX2⟩:=zx (F.doms[j+1].parent);obtain⟨X3,hX3⟩:=zx (F.doms[j+1].uplink);obtain⟨X4,hX4⟩:=zx (F.doms[j+1].shock.neg);rw[<-hX] at l0;rw[<-hX1] at l1;rw[<-hX2] at l2;rw[<-hX3] at l3;rw[<-hX4] at l4;have HX:=zh hX;clear hc hcs hX hX1 hX2 hX3 hX4 hvn hvd
       have htk:(nodeN F).take (j+1)=(nodeN F).take (j)++[X]:=by have:=HX.out;rw[this];exact take_more (nodeN_dom (zG hjl))
       obtain⟨A3,c3,rfl⟩:=HO.out.at_len (j) (by rw[List.length_take];rw[nodeN_length];have:=HLN.out.1;omega);obtain⟨W3,hW3⟩:=zx (wr.alloc (.cells #[.string X,.int .i64 X1,.int .i64 X2,.int .i64 X3,.bool X4,.slice A1 N1 e1,.slice A2 N2 e2] 100));obtain⟨g,hg⟩:=zx wr.heap.size
       have hb3:Below wr.heap.size wr W3:=by rw[hW3];exact(zB _ _).alloc (zR _) _
       have hgk:W3.heap[g]?=some (.cells #[.string X,.int .i64 X1,.int .i64 X2,.int .i64 X3,.bool X4,.slice A1 N1 e1,.slice A2 N2 e2] 100 (0,0)):=by rw[hW3,hg];exact zN _ _
       obtain⟨d0,d1,d2,d3,d4,d5,d6⟩:=cells7 hgk;have HOW:=zh (HO.out.below hb3);have HB3:=zh (HBR.out.trans (hb3.mono HBR.out.size));have HSZ:=zh HB3.out.size;have HW3:=zh hW3;have HG:=zh hg;have HTK:=zh htk;have HJ:=zh hj;have HLT:=zh hlt;clear hW3 hg hgk hb3 hbr htk;go_upto_region 20 with fail;rw[<-HW3.out,<-HG.out];go_wp2_with (at_builtin;refine app_s X (.tmp 125) (.tmp 128) rfl rfl wb.heap.size (.slice A3 (j) c3) (j) ((nodeN F).take (j)) (by rw[List.length_take];rw[nodeN_length];have:=HLN.out.1;omega) (by rfl) HOW.out.at_own (by rfl) (by have:=HJ.out;have:=HI.out;omega) HSZ.out ?_;intro v5 w5 hown5 hg5 hat5;obtain⟨f0,f1,f2,f3,f4,f5,f6⟩:=cells7 (box_kept (by rw[<-HW3.out];exact hg5) HO.out HG.out);have HOW5:=zh hown5;rw[<-HTK.out] at HOW5;have HB5:=zh (HB3.out.grown hg5 HSZ.out (fun b e=>(HOW.out.lt b e).1));clear hown5 hg5 hat5 d0 d1 d2 d3 d4 d5 d6 l0 l1 l2 l3 l4 l5 l6);have HOWZ:=HOW5;have HBZ:=HB5;go_wp2_with fail;clear f0 f1 f2 f3 f4 f5 f6;go_roundg (M-(j+1))
       case measure=>omega
       case rel=>exact⟨j+1,by have:=HLT.out;omega,rfl,by go_num,HOWZ.out,HBZ.out⟩
      ·-- R3{
       obtain rfl:M=j:=by omega
       obtain⟨wc,hwc⟩:=zx (wr:World);subst hwc;have HO3:=HO;have HBC:=HBR;have HC3:=zh (HBB.out.trans (HBR.out.mono HBB.out.size));obtain⟨c0,c1,c2,c3,c4,c5,c6⟩:=HC.out wc HC3.out;clear HO HBR hlt hj;go_wp2_with fail;clear c0 c1 c2 c3 c4 c5 c6;go_loopg [5,8,134] NV (fun z v5 v8 v134 wr=>∃j:Nat,j<=NV/\z=NV-j/\v8=.bool true/\v134=.int .i64 (j:Int)/\Hid (OwnS wr wb.heap.size v5 ((nodeN F).take (M+j)))/\Hid (Below wb.heap.size wb wr))
       case atStart=>exact⟨0,by omega,rfl,rfl,rfl,HO3.out,HBC.out⟩
       case round =>
        obtain⟨j,hj,rfl,rfl,rfl,HO,HBR⟩:=hrel;by_cases hlt:j<NV
        ·-- L4{
         have hbr:=HBB.out.trans (HBR.out.mono HBB.out.size)
         have hjl:j<F.dves.length:=by have:=HLN.out.2.1;omega
         obtain⟨b',off',cs,hAe,-,-,hc,hcs⟩:=(HF.out wr hbr).2.2.2.1.at_ (k:=j) hjl;injection hAe with hAe;injection hAe with hA1 hA2;subst hA1;subst hA2;obtain⟨-,x2,m,x3,dp,hdp,hdl⟩:=HOK.out.dves j F.dves[j] (zG hjl);have hml:m<F.doms.length:=(zL.1 hdp).1;obtain⟨b2,off2,cs2,hAe,-,-,hcp,vn2,vd2,hcs2,-,-⟩:=(HF.out W0 (zB _ _)).2.2.1.at_ (k:=m) hml;injection hAe with hAe;injection hAe with hA1 hA2;subst hA1;subst hA2;obtain⟨-,q1,-⟩:=seven_at hcp hcs2;rw[show F.doms[m]=dp from(zL.1 hdp).2,hdl] at q1;obtain⟨l0,l1,l2⟩:=three_at hc hcs;rw[x3] at l2;obtain⟨X,hX⟩:=zx (F.dves[j].name)
         obtain⟨MO,hMO,hMO1⟩:∃x:Nat,F.dves[j].model=(x:Int)/\x<=1:=by rcases x2 with e | e <;> rw[e] <;> first | exact⟨0,rfl,by omega⟩ | exact⟨1,rfl,by omega⟩
         rw[<-hX] at l0;rw[hMO] at l1
         have hmM:m<M+1:=by have:=HLN.out.1;omega
         have HI1:=zh (fun w=>fin_any (MO:Int) 0 1 w);rw[decide_eq_true (show 0<=(MO:Int)/\(MO:Int)<=1 by omega)] at HI1;have HI2:=zh (fun w=>fin_any (m:Int) 0 (M:Int) w);rw[decide_eq_true (show(0:Int)<=(m:Int)/\(m:Int)<=(M:Int) by omega)] at HI2;have HX:=zh hX;have HQ1:=zh (fun(w':World) (hb:Below W0.heap.size W0 w')=>(hb.cell (p:=⟨db,doff+m*7+1,none⟩) HDB.out).trans q1)
         have im1:(m:Int)<(M:Int)+1:=by omega
         clear hc hcs x2 x3 hMO hX hcp hcs2 q1 hdp hdl hml hMO1 hmM
         have htk:(nodeN F).take (M+j+1)=(nodeN F).take (M+j)++[X]:=by have:=HX.out;rw[this];exact take_more (nodeN_dve HLN.out.1 (zG hjl))
         obtain⟨A3,c3,rfl⟩:=HO.out.at_len (M+j) (by rw[List.length_take];rw[nodeN_length];have:=HLN.out;omega);obtain⟨W3,hW3⟩:=zx (wr.alloc (.cells #[.string X,.int .i64 (MO:Int),.int .i64 (m:Int)] 102));obtain⟨g,hg⟩:=zx wr.heap.size
         have hb3:Below wr.heap.size wr W3:=by rw[hW3];exact(zB _ _).alloc (zR _) _
         have hgk:W3.heap[g]?=some (.cells #[.string X,.int .i64 (MO:Int),.int .i64 (m:Int)] 102 (0,0)):=by rw[hW3,hg];exact zN _ _
         obtain⟨d0,d1,d2⟩:=cells3v hgk;have HOW:=zh (HO.out.below hb3);have HB3:=zh (HBR.out.trans (hb3.mono HBR.out.size));have HSZ:=zh HB3.out.size;have HW3:=zh hW3;have HG:=zh hg;have HTK:=zh htk;have HJ:=zh hj;have HLT:=zh hlt;clear hW3 hg hgk hb3 hbr htk;go_upto_region 25 with fail;rw[<-HW3.out,<-HG.out];go_wp2_with (at_builtin;refine app_s X (.tmp 138) (.tmp 141) rfl rfl wb.heap.size (.slice A3 (M+j) c3) (M+j) ((nodeN F).take (M+j)) (by rw[List.length_take];rw[nodeN_length];have:=HLN.out;omega) (by rfl) HOW.out.at_own (by rfl) (by have:=HJ.out;have:=HI.out;omega) HSZ.out ?_;intro v5 w5 hown5 hg5 hat5;obtain⟨f0,f1,f2⟩:=cells3v (box_kept (by rw[<-HW3.out];exact hg5) HO.out HG.out);have HOW5:=zh hown5;rw[<-HTK.out] at HOW5;have HB5:=zh (HB3.out.grown hg5 HSZ.out (fun b e=>(HOW.out.lt b e).1));clear hown5 hg5 hat5 d0 d1 d2 l0 l1 l2;obtain⟨c0,c1,c2,c3',c4,c5,c6⟩:=HC.out w5 (HBB.out.trans (HB5.out.mono HBB.out.size));have q1:=HQ1.out w5 (HBB.out.trans (HB5.out.mono HBB.out.size)));go_wp2_with fail;refine(HI1.out _).mono ?_;rintro e w6 ⟨rfl,rfl⟩;go_wp2_with fail;refine(HI2.out _).mono ?_;rintro e w6 ⟨rfl,rfl⟩;have HOWZ:=HOW5;have HBZ:=HB5;go_wp2_with fail;clear f0 f1 f2;go_roundg (NV-(j+1))
         case measure=>omega
         case rel=>exact⟨j+1,by have:=HLT.out;omega,rfl,rfl,by go_num,HOWZ.out,HBZ.out⟩
        ·-- R4{
         obtain rfl:NV=j:=by omega
         obtain⟨wd,hwd⟩:=zx (wr:World);subst hwd;have HO4:=HO;have HBD:=HBR;have HD:=zh (HBB.out.trans (HBR.out.mono HBB.out.size));obtain⟨c0,c1,c2,c3,c4,c5,c6⟩:=HC.out wd HD.out;clear HO HBR hlt hj;go_wp2_with fail;clear c0 c1 c2 c3 c4 c5 c6;go_loopg [6,8,176] NP (fun z v6 v8 v176 wr=>∃j:Nat,j<=NP/\z=NP-j/\v8=.bool true/\v176=.int .i64 (j:Int)/\Hid (OwnS wr wd.heap.size v6 ((F.pols.map (·.name)).take j))/\Hid (Below wd.heap.size wd wr))
         case atStart=>exact⟨0,by omega,rfl,rfl,rfl,OwnS.nil _ _,zB _ _⟩
         case round =>
          obtain⟨j,hj,rfl,rfl,rfl,HO,HBR⟩:=hrel;by_cases hlt:j<NP
          ·-- L5{
           have hbr:=HD.out.trans (HBR.out.mono HD.out.size)
           have hjl:j<F.pols.length:=by have:=HLN.out.2.2.1;omega
           obtain⟨b',off',cs,hAe,-,-,hc,vm,vr,tn,td,hn,hd,hcs,k1,k2,k3,k4,k5,k6⟩:=(HF.out W0 (zB _ _)).2.2.2.2.1.at_ (k:=j) hjl;injection hAe with hAe;injection hAe with hA1 hA2;subst hA1;subst hA2;have HPV:=zh (fun(w':World) (hb:Below W0.heap.size W0 w')=>fpolicy_any F.pols[j] vm vr tn td hn hd w' (HOK.out.pols j _ (zG hjl)).2.2 ((k1.keep (kept_below hb)).mono (Bl.mono hb.size)) (SlS.below frcK k2 hb) (k3.below hb) (k4.below hb) (k5.below hb) (k6.below hb));obtain⟨Am,em,hvm,-,-⟩:=k1.form7;obtain⟨Ar,er,hvr,-,-⟩:=k2.form;obtain⟨A1,N1,e1,rfl⟩:=k3.frm;obtain⟨A2,N2,e2,rfl⟩:=k4.frm;obtain⟨A4,N4,e4,rfl⟩:=k5.frm;obtain⟨A5,N5,e5,rfl⟩:=k6.frm;obtain⟨Lm,hLm⟩:=zx (F.pols[j].models.length);obtain⟨Lr,hLr⟩:=zx (F.pols[j].repair.length);rw[<-hLm] at hvm;rw[<-hLr] at hvr;subst hvm hvr;have hrg0:W0.rangeAt pb (pof+j*17) cs:=hc;rw[hcs] at hrg0;have hpb:pb<W0.heap.size:=HPB.out;obtain⟨X,hX⟩:=zx (F.pols[j].name);obtain⟨XK,hXK⟩:=zx (F.pols[j].k);obtain⟨XM,hXM⟩:=zx (F.pols[j].m);obtain⟨XQ,hXQ⟩:=zx (F.pols[j].q);obtain⟨X3,hX3⟩:=zx (F.pols[j].s3);obtain⟨X4,hX4⟩:=zx (F.pols[j].s4);obtain⟨B1,hB1⟩:=zx (F.pols[j].target.neg);obtain⟨B2,hB2⟩:=zx (F.pols[j].horizon.neg)
           have htk:(F.pols.map (·.name)).take (j+1)=(F.pols.map (·.name)).take j++[X]:=by rw[hX];exact take_more (map_name (zG hjl))
           rw[<-hX,<-hXK,<-hXM,<-hXQ,<-hX3,<-hX4,<-hB1,<-hB2] at HPV hrg0;obtain⟨A3,c3,rfl⟩:=HO.out.at_len j (by rw[List.length_take];have:=HLN.out.2.2.1;rw[List.length_map];omega);have hrg:=range_same hrg0 (hbr.block pb hpb);obtain⟨W3,hW3⟩:=zx ((wr.alloc (.cells #[.string ⟨#[]⟩,.int .i64 0,.int .i64 0,.int .i64 0,.int .i64 0,.int .i64 0,.int .i64 0,.int .i64 0,.int .i64 0,.slice none 0 0,.slice none 0 0,.bool false,.slice none 0 0,.slice none 0 0,.bool false,.slice none 0 0,.slice none 0 0] 55)).setCells wr.heap.size 0 [.string X,.int .i64 XK,.int .i64 XM,.int .i64 XQ,.int .i64 0,.int .i64 0,.int .i64 0,.int .i64 X3,.int .i64 X4,.slice Am Lm em,.slice Ar Lr er,.bool B1,.slice A1 N1 e1,.slice A2 N2 e2,.bool B2,.slice A4 N4 e4,.slice A5 N5 e5]);obtain⟨g,hg⟩:=zx wr.heap.size;have hth:(wr.alloc (.cells #[.string ⟨#[]⟩,.int .i64 0,.int .i64 0,.int .i64 0,.int .i64 0,.int .i64 0,.int .i64 0,.int .i64 0,.int .i64 0,.slice none 0 0,.slice none 0 0,.bool false,.slice none 0 0,.slice none 0 0,.bool false,.slice none 0 0,.slice none 0 0] 55)).there wr.heap.size 0 17:=there_new (cs:=#[.string ⟨#[]⟩,.int .i64 0,.int .i64 0,.int .i64 0,.int .i64 0,.int .i64 0,.int .i64 0,.int .i64 0,.int .i64 0,.slice none 0 0,.slice none 0 0,.bool false,.slice none 0 0,.slice none 0 0,.bool false,.slice none 0 0,.slice none 0 0]) (zN wr _) (zR 17)
           have hb3:Below wr.heap.size wr W3:=by rw[hW3];exact below_setCellsV (zR _) _ _ _ ((zB _ _).alloc (zR _) _)
           have hgk:W3.rangeAt g 0 [.string X,.int .i64 XK,.int .i64 XM,.int .i64 XQ,.int .i64 0,.int .i64 0,.int .i64 0,.int .i64 X3,.int .i64 X4,.slice Am Lm em,.slice Ar Lr er,.bool B1,.slice A1 N1 e1,.slice A2 N2 e2,.bool B2,.slice A4 N4 e4,.slice A5 N5 e5]:=by rw[hW3,hg];exact World.rangeAt_setCells_same _ _ _ _ hth
           have d0:W3.cell? ⟨g,0,none⟩=some (.string X):=hgk 0 _ rfl;have hgl:g<W3.heap.size:=World.block_lt_of_cell? W3 _ d0;have HTH:=zh hth;have HRG:=zh hrg;have HGK:=zh hgk;have HGL:=zh hgl;have HOW:=zh (HO.out.below hb3);have HB3:=zh (HBR.out.trans (hb3.mono HBR.out.size));have HSZ:=zh HB3.out.size;have HW3:=zh hW3;have HG:=zh hg;have HTK:=zh htk;have HJ:=zh hj;have HLT:=zh hlt;clear hW3 hg hgk hb3 hbr htk hth hrg hgl hrg0 hpb hc hcs k1 k2 k3 k4 k5 k6 hX hXK hXM hXQ hX3 hX4 hB1 hB2 hLm hLr;go_wp2_with (first | (refine wpList_load_mid rfl 55 (.tmp 178) rfl pb (pof+j*17) (by rfl) [.string X,.int .i64 XK,.int .i64 XM,.int .i64 XQ,.int .i64 0,.int .i64 0,.int .i64 0,.int .i64 X3,.int .i64 X4,.slice Am Lm em,.slice Ar Lr er,.bool B1,.slice A1 N1 e1,.slice A2 N2 e2,.bool B2,.slice A4 N4 e4,.slice A5 N5 e5] _ HRG.out Tryz.underlying55 rfl size_pol ?_) | (refine wpList_store_mid rfl 55 (.tmp 18) (.tmp 179) rfl wr.heap.size 0 #[.string X,.int .i64 XK,.int .i64 XM,.int .i64 XQ,.int .i64 0,.int .i64 0,.int .i64 0,.int .i64 X3,.int .i64 X4,.slice Am Lm em,.slice Ar Lr er,.bool B1,.slice A1 N1 e1,.slice A2 N2 e2,.bool B2,.slice A4 N4 e4,.slice A5 N5 e5] (by rfl) (by rfl) HTH.out size_pol (by simp[Value.oneCell']) ?_;rw[<-HW3.out,<-HG.out]) | (at_builtin;refine app_s X (.tmp 180) (.tmp 183) rfl rfl wd.heap.size (.slice A3 j c3) j ((F.pols.map (·.name)).take j) (by rw[List.length_take];have:=HLN.out.2.2.1;rw[List.length_map];omega) (by rfl) HOW.out.at_own (by rfl) (by have:=HJ.out;have:=HI.out;omega) HSZ.out ?_;intro v5 w5 hown5 hg5 hat5;have HGK5:=zh (range_same HGK.out (own_keptV hg5 HO.out HG.out HGL.out));have HOW5:=zh hown5;rw[<-HTK.out] at HOW5;have HB5:=zh (HB3.out.grown hg5 HSZ.out (fun b e=>(HOW.out.lt b e).1));clear hown5 hg5 hat5 d0;obtain⟨c0,c1,c2,c3',c4,c5,c6⟩:=HC.out w5 (HD.out.trans (HB5.out.mono HD.out.size))) | (refine wpList_load_midW (by rfl) 55 (.tmp 18) rfl g 0 (by rfl) [.string X,.int .i64 XK,.int .i64 XM,.int .i64 XQ,.int .i64 0,.int .i64 0,.int .i64 0,.int .i64 X3,.int .i64 X4,.slice Am Lm em,.slice Ar Lr er,.bool B1,.slice A1 N1 e1,.slice A2 N2 e2,.bool B2,.slice A4 N4 e4,.slice A5 N5 e5] _ HGK5.out Tryz.underlying55 rfl size_pol ?_));go_wp2_with fail;refine(HPV.out w5 (HD.out.trans (HB5.out.mono HD.out.size))).mono ?_;rintro e w6 ⟨rfl,hb6⟩;have HOWZ:=zh (HOW5.out.below hb6);have HBZ:=zh (HB5.out.trans (hb6.mono HB5.out.size));clear hb6 c0 c1 c2 c3' c4 c5 c6;go_wp2_with fail;go_roundg (NP-(j+1))
           case measure=>omega
           case rel=>exact⟨j+1,by have:=HLT.out;omega,rfl,rfl,by go_num,HOWZ.out,HBZ.out⟩
          ·-- R5{
           obtain rfl:NP=j:=by omega
           obtain⟨we,hwe⟩:=zx (wr:World);subst hwe;have HO5:=HO;have HDE:=HBR;have HE:=zh (HD.out.trans (HBR.out.mono HD.out.size));obtain⟨c0,c1,c2,c3,c4,c5,c6⟩:=HC.out we HE.out;clear HO HBR hlt hj;go_wp2_with fail;clear c0 c1 c2 c3 c4 c5 c6;go_loopg [7,8,197] NO (fun z v7 v8 v197 wr=>∃j:Nat,j<=NO/\z=NO-j/\v8=.bool true/\v197=.int .i64 (j:Int)/\Hid (OwnS wr we.heap.size v7 ((F.vols.map (·.name)).take (j)))/\Hid (Below we.heap.size we wr))
           case atStart=>exact⟨0,by omega,rfl,rfl,rfl,OwnS.nil _ _,zB _ _⟩
           case round =>
            obtain⟨j,hj,rfl,rfl,rfl,HO,HBR⟩:=hrel;by_cases hlt:j<NO
            ·-- L6{
             have hbr:=HE.out.trans (HBR.out.mono HE.out.size)
             have hjl:j<F.vols.length:=by have:=HLN.out.2.2.2.1;omega
             obtain⟨b',off',cs,hAe,-,-,hc,hcs⟩:=(HF.out wr hbr).2.2.2.2.2.at_ (k:=j) hjl;injection hAe with hAe;injection hAe with hA1 hA2;subst hA1;subst hA2;obtain⟨-,-,m,x3,x4⟩:=HOK.out.vols j F.vols[j] (zG hjl);obtain⟨l0,l1⟩:=two_at hc hcs;rw[x3] at l1;obtain⟨X,hX⟩:=zx (F.vols[j].name);rw[<-hX] at l0
             have hnp:m<NP:=by have:=HLN.out.2.2.1;omega
             have HI1:=zh (fun w=>fin_any (m:Int) 0 ((NP-1:Nat):Int) w);rw[decide_eq_true (show(0:Int)<=(m:Int)/\(m:Int)<=((NP-1:Nat):Int) by omega)] at HI1;have HX:=zh hX
             have hsub:IntKind.i64.wrap ((NP:Int)-1)=((NP-1:Nat):Int):=by have:=HI.out;rw[show(NP:Int)-1=((NP-1:Nat):Int) by omega];exact zI _ (by omega)
             clear hc hcs x3 x4 hX hnp
             have htk:(F.vols.map (·.name)).take (j+1)=(F.vols.map (·.name)).take (j)++[X]:=by have:=HX.out;rw[this];exact take_more (map_name (zG hjl))
             obtain⟨A3,c3,rfl⟩:=HO.out.at_len (j) (by rw[List.length_take];have:=HLN.out.2.2.2.1;rw[List.length_map];omega);obtain⟨W3,hW3⟩:=zx (wr.alloc (.cells #[.string X,.int .i64 (m:Int)] 106));obtain⟨g,hg⟩:=zx wr.heap.size
             have hb3:Below wr.heap.size wr W3:=by rw[hW3];exact(zB _ _).alloc (zR _) _
             have hgk:W3.heap[g]?=some (.cells #[.string X,.int .i64 (m:Int)] 106 (0,0)):=by rw[hW3,hg];exact zN _ _
             obtain⟨d0,d1⟩:=cells2 hgk;have HOW:=zh (HO.out.below hb3);have HB3:=zh (HBR.out.trans (hb3.mono HBR.out.size));have HSZ:=zh HB3.out.size;have HW3:=zh hW3;have HG:=zh hg;have HTK:=zh htk;have HJ:=zh hj;have HLT:=zh hlt;clear hW3 hg hgk hb3 hbr htk;go_upto_region 37 with fail;rw[<-HW3.out,<-HG.out];go_wp2_with (at_builtin;refine app_s X (.tmp 201) (.tmp 204) rfl rfl we.heap.size (.slice A3 (j) c3) (j) ((F.vols.map (·.name)).take (j)) (by rw[List.length_take];have:=HLN.out.2.2.2.1;rw[List.length_map];omega) (by rfl) HOW.out.at_own (by rfl) (by have:=HJ.out;have:=HI.out;omega) HSZ.out ?_;intro v5 w5 hown5 hg5 hat5;obtain⟨f0,f1⟩:=cells2 (box_kept (by rw[<-HW3.out];exact hg5) HO.out HG.out);have HOW5:=zh hown5;rw[<-HTK.out] at HOW5;have HB5:=zh (HB3.out.grown hg5 HSZ.out (fun b e=>(HOW.out.lt b e).1));clear hown5 hg5 hat5 d0 d1 l0 l1;obtain⟨c0,c1,c2,c3',c4,c5,c6⟩:=HC.out w5 (HE.out.trans (HB5.out.mono HE.out.size)));go_wp2_with fail;refine(HI1.out _).mono ?_;rintro e w6 ⟨rfl,rfl⟩;have HOWZ:=HOW5;have HBZ:=HB5;go_wp2_with fail;clear f0 f1;go_roundg (NO-(j+1))
             case measure=>omega
             case rel=>exact⟨j+1,by have:=HLT.out;omega,rfl,rfl,by go_num,HOWZ.out,HBZ.out⟩
            ·-- R6{
             obtain rfl:NO=j:=by omega
             obtain⟨wf,hwf⟩:=zx (wr:World);subst hwf;have hef:=HBR.out;have hdf:=HDE.out.trans (hef.mono HDE.out.size);have hbf:=HBD.out.trans (hdf.mono HBD.out.size);have haf:=HAB.out.trans (hbf.mono HAB.out.size);have h0f:=HE.out.trans (hef.mono HE.out.size);have HU1:=zh (fun(w':World) (hb:Below wf.heap.size wf w')=>uniq_own HO1.out (List.take_of_length_le (by rw[List.length_map];have:=HLN.out;omega)) (haf.trans (hb.mono haf.size)) (lawN_ok HOK.out).1 (lawN_ok HOK.out).2.1 (by rw[List.length_map];have:=HLN.out;omega));have HU2:=zh (fun(w':World) (hb:Below wf.heap.size wf w')=>uniq_own HO2.out (List.take_of_length_le (by rw[List.length_map];have:=HLN.out;omega)) (hbf.trans (hb.mono hbf.size)) (modN_ok HOK.out).1 (modN_ok HOK.out).2.1 (by rw[List.length_map];have:=HLN.out;omega));have HU3:=zh (fun(w':World) (hb:Below wf.heap.size wf w')=>uniq_own HO4.out (List.take_of_length_le (by rw[nodeN_length];have:=HLN.out;omega)) (hdf.trans (hb.mono hdf.size)) (nodeN_low HOK.out) (nodeN_nodup HOK.out) (by rw[nodeN_length];have:=HLN.out;have:=HI.out;omega));have HU4:=zh (fun(w':World) (hb:Below wf.heap.size wf w')=>uniq_own HO5.out (List.take_of_length_le (by rw[List.length_map];have:=HLN.out;omega)) (hef.trans (hb.mono hef.size)) (polN_low HOK.out) (polN_nodup HOK.out) (by rw[List.length_map];have:=HLN.out;have:=HI.out;omega));have HU5:=zh (fun(w':World) (hb:Below wf.heap.size wf w')=>uniq_own HO.out (List.take_of_length_le (by rw[List.length_map];have:=HLN.out;omega)) hb (volN_low HN12.out HOK.out) (volN_nodup HN12.out HOK.out) (by rw[List.length_map];have:=HLN.out;have:=HI.out;omega));have HF0E:=zh h0f;clear HO HBR hlt hj hef hdf hbf haf h0f;go_wp2_with fail;refine(HU1.out _ (zB _ _)).mono ?_;rintro e w6 ⟨rfl,hb6⟩;have HZ:=zh hb6;clear hb6;go_wp2_with fail;refine(HU2.out _ HZ.out).mono ?_;rintro e w7 ⟨rfl,hb7⟩;have HZ7:=zh (HZ.out.trans (hb7.mono HZ.out.size));clear hb7;go_wp2_with fail;refine(HU3.out _ HZ7.out).mono ?_;rintro e w8 ⟨rfl,hb8⟩;have HZ8:=zh (HZ7.out.trans (hb8.mono HZ7.out.size));clear hb8;go_wp2_with fail;refine(HU4.out _ HZ8.out).mono ?_;rintro e w9 ⟨rfl,hb9⟩;have HZ9:=zh (HZ8.out.trans (hb9.mono HZ8.out.size));clear hb9;go_wp2_with fail;refine(HU5.out _ HZ9.out).mono ?_;rintro e w10 ⟨rfl,hb10⟩;have HZ10:=zh (HZ9.out.trans (hb10.mono HZ9.out.size));clear hb10;go_wp2_with fail;go_ret;exact⟨rfl,HB0.out.trans ((HF0E.out.trans (HZ10.out.mono HF0E.out.size)).mono HB0.out.size)⟩
def volP(F:FltM)(v:Nat):Nat:=match F.vols[v]? with | some x=>x.pol.toNat | none=>0
def kOf(F:FltM)(v:Nat):Int:=match F.pols[volP F v]? with | some x=>x.k | none=>1
def mOf(F:FltM)(v:Nat):Int:=match F.pols[volP F v]? with | some x=>x.m | none=>0
def qOf(F:FltM)(v:Nat):Int:=match F.pols[volP F v]? with | some x=>x.q | none=>1
def PolAt(w:World)(F:FltM)(pb pof ob oof:Nat):Prop:=∀v,v<F.vols.length->volP F v<F.pols.length/\∃nm:ByteArray,w.rangeAt ob (oof+v*2) [.string nm,.int .i64 (volP F v:Int)] /\
 ∃a0 a4 a5 a6 a7 a8 a9 a10 a11 a12 a13 a14 a15 a16:Value,w.rangeAt pb (pof+volP F v*17) [a0,.int .i64 (kOf F v),.int .i64 (mOf F v),.int .i64 (qOf F v),a4,a5,a6,a7,a8,a9,a10,a11,a12,a13,a14,a15,a16]/\(#[a0,.int .i64 (kOf F v),.int .i64 (mOf F v),.int .i64 (qOf F v),a4,a5,a6,a7,a8,a9,a10,a11,a12,a13,a14,a15,a16]:Array Value).all (·.oneCell')=true
theorem volP_lt{N:Nat}{F:FltM}(hok:FleetOk N F){v:Nat}(hv:v<F.vols.length):volP F v<F.pols.length/\(F.vols[v]).pol=(volP F v:Int):=by
 obtain⟨-,-,p,h1,h2⟩:=hok.vols v F.vols[v] (zG hv)
 have e:volP F v=p:=by unfold volP;rw[zG hv];simp[h1]
 rw[e];exact⟨h2,h1⟩
theorem kmq_ok{N:Nat}{F:FltM}(hok:FleetOk N F){v:Nat}(hv:v<F.vols.length):(kOf F v=1\/kOf F v=2)/\0<=mOf F v/\mOf F v<=4/\kOf F v<=qOf F v/\qOf F v<=kOf F v+mOf F v:=by
 have hp:=(volP_lt hok hv).1;obtain⟨-,-,h1,h2,h3,h4,h5,-⟩:=hok.pols (volP F v) F.pols[volP F v] (zG hp);unfold kOf mOf qOf;rw[zG hp];exact⟨h1,h2,h3,h4,h5⟩
theorem polAt{N:Nat}{F:FltM}{w:World}{R:Nat->Prop}{vl vm vd vv vp vo:Value}(hf:FleetS w R vl vm vd vv vp vo F)(hok:FleetOk N F) :
  ∃pb pof ob oof cp co,vp=.slice (some ⟨pb,pof,none⟩) F.pols.length cp/\vo=.slice (some ⟨ob,oof,none⟩) F.vols.length co/\R pb/\R ob/\PolAt w F pb pof ob oof:=by
 obtain⟨Ap,cp,rfl,-,-⟩:=hf.2.2.2.2.1.form;obtain⟨Ao,co,rfl,-,-⟩:=hf.2.2.2.2.2.form;obtain⟨pb,pof,cs0,rfl,hRp,-⟩:=hf.2.2.2.2.1.at_ (k:=0) (by have:=hok.pol1;omega);obtain⟨ob,oof,cs1,rfl,hRo,-⟩:=hf.2.2.2.2.2.at_ (k:=0) (by have:=hok.vol1;omega);refine⟨pb,pof,ob,oof,cp,co,rfl,rfl,hRp,hRo,fun v hv=>?_⟩;obtain⟨hp,hpe⟩:=volP_lt hok hv;refine⟨hp,F.vols[v].name,?_,?_⟩
 ·obtain⟨b,off,cs,e,-,-,hc,hcs⟩:=hf.2.2.2.2.2.at_ (k:=v) hv;injection e with e;injection e with e1 e2;subst e1 e2;unfold VolK at hcs;rw[hpe] at hcs;subst hcs;exact hc
 ·obtain⟨b,off,cs,e,-,-,hc,vm,vr,tn,td,hn,hd,hcs,k1,k2,k3,k4,k5,k6⟩:=hf.2.2.2.2.1.at_ (k:=volP F v) hp;injection e with e;injection e with e1 e2;subst e1 e2;obtain⟨A1,c1,rfl,-,-⟩:=k1.form7;obtain⟨A2,c2,rfl,-,-⟩:=k2.form;obtain⟨A3,N3,c3,rfl⟩:=k3.frm;obtain⟨A4,N4,c4,rfl⟩:=k4.frm;obtain⟨A5,N5,c5,rfl⟩:=k5.frm;obtain⟨A6,N6,c6,rfl⟩:=k6.frm;subst hcs
  have ek:kOf F v=F.pols[volP F v].k:=by unfold kOf;rw[zG hp]
  have em:mOf F v=F.pols[volP F v].m:=by unfold mOf;rw[zG hp]
  have eq:qOf F v=F.pols[volP F v].q:=by unfold qOf;rw[zG hp]
  rw[ek,em,eq];exact⟨_,_,_,_,_,_,_,_,_,_,_,_,_,_,hc,by simp[Value.oneCell']⟩
def szN(F:FltM)(v:Nat):Nat:=(kOf F v+mOf F v).toNat
theorem szN_eq{N:Nat}{F:FltM}(hok:FleetOk N F){v:Nat}(hv:v<F.vols.length):(szN F v:Int)=kOf F v+mOf F v:=by
 obtain⟨h1,h2,-⟩:=kmq_ok hok hv;unfold szN;omega
theorem szN_range{N:Nat}{F:FltM}(hok:FleetOk N F){v:Nat}(hv:v<F.vols.length):1<=szN F v/\szN F v<=6:=by
 obtain⟨h1,h2,h3,-⟩:=kmq_ok hok hv;unfold szN;omega
theorem msize_any(N:Nat)(hN:N<=12)(vl vm vd vv vp vo:Value)(F:FltM)(v:Nat)(w:World)(hf:FleetS w (Bl w.heap.size) vl vm vd vv vp vo F)(hok:FleetOk N F)(hv:v<F.vols.length) :
  Calls Tryz.prog 64 #[.agg #[.int .i64 F.ext,vl,vm,vd,vv,vp,vo],.int .i64 (v:Int)] w fun e w'=>e=.returned (.int .i64 (szN F v:Int))/\Below w.heap.size w w':=by
 obtain⟨pb,pof,ob,oof,cp,co,rfl,rfl,hRp,hRo,hat⟩:=polAt hf hok;obtain⟨hp,nm,hvol,a0,a4,a5,a6,a7,a8,a9,a10,a11,a12,a13,a14,a15,a16,hpol,hone⟩:=hat v hv;obtain⟨hk1,hm0,hm4,-,-⟩:=kmq_ok hok hv;have hsz:=szN_eq hok hv;obtain⟨NP,hNP⟩:=zx F.pols.length;obtain⟨NO,hNO⟩:=zx F.vols.length
 have hNP2:NP<=2:=by rw[hNP];exact hok.polN
 have hNO12:NO<=12:=by rw[hNO];have:=hok.volN;omega
 obtain⟨p0,hp0⟩:=zx (volP F v);obtain⟨KK,hKK⟩:=zx (kOf F v);obtain⟨MM,hMM⟩:=zx (mOf F v);obtain⟨QQ,hQQ⟩:=zx (qOf F v);obtain⟨EX,hEX⟩:=zx F.ext;obtain⟨SZ,hSZ⟩:∃n:Int,n=(szN F v:Int):=⟨_,rfl⟩;rw[<-hp0] at hvol hpol hp;rw[<-hKK,<-hMM,<-hQQ] at hpol hone;rw[<-hKK] at hk1 hsz;rw[<-hMM] at hm0 hm4 hsz;rw[<-hSZ] at hsz;rw[<-hNP] at hp;rw[<-hNO] at hv;rw[<-hEX,<-hNP,<-hNO,<-hSZ];clear hp0 hKK hMM hQQ hEX hNP hNO hSZ hat hf hok
 have hsum:IntKind.i64.wrap (KK+MM)=SZ:=by rw[hsz];exact zI _ (by omega)
 have hsum2:wrap64 (KK+MM)=SZ:=by rw[hsz];exact IntWalk.wrap64_in _ (by omega)
 obtain⟨W0,hW0⟩:=zx (w.alloc (.cells #[.int .i64 EX,vl,vm,vd,vv,.slice (some ⟨pb,pof,none⟩) NP cp,.slice (some ⟨ob,oof,none⟩) NO co] 35));obtain⟨z,hz⟩:=zx w.heap.size
 have hb0:Below w.heap.size w W0:=by rw[hW0];exact(zB _ _).alloc (zR _) _
 have hzk:W0.heap[z]?=some (.cells #[.int .i64 EX,vl,vm,vd,vv,.slice (some ⟨pb,pof,none⟩) NP cp,.slice (some ⟨ob,oof,none⟩) NO co] 35 (0,0)):=by rw[hW0,hz];exact zN w _
 have hzl:z<W0.heap.size:=(zA.1 hzk).1;have hob:ob<w.heap.size:=World.block_lt_of_cell? w _ (hvol 0 _ rfl);have hpb:pb<w.heap.size:=World.block_lt_of_cell? w _ (hpol 0 _ rfl)
 have HSK:=zh (fun(w':World) (hb:Below W0.heap.size W0 w')=>(show w'.cell? ⟨z,5,none⟩=some (.slice (some ⟨pb,pof,none⟩) NP cp)/\w'.cell? ⟨z,6,none⟩=some (.slice (some ⟨ob,oof,none⟩) NO co)/\w'.cell? ⟨ob,oof+v*2+1,none⟩=some (.int .i64 (p0:Int))/\w'.rangeAt pb (pof+p0*17) [a0,.int .i64 KK,.int .i64 MM,.int .i64 QQ,a4,a5,a6,a7,a8,a9,a10,a11,a12,a13,a14,a15,a16] from
  ⟨by rw[cell_of_row w' z 5 _ _ _ ((hb.block z hzl).trans hzk)];rfl,by rw[cell_of_row w' z 6 _ _ _ ((hb.block z hzl).trans hzk)];rfl,(World.cell?_of_block (w:=w) (w':=w') ((hb.block ob (zM hob hb0.size)).trans (hb0.block ob hob))).trans (hvol 1 _ rfl),range_same hpol ((hb.block pb (zM hpb hb0.size)).trans (hb0.block pb hpb))⟩))
 have HTH:=zh (show((W0.alloc (.cells #[.string ⟨#[]⟩,.int .i64 0,.int .i64 0,.int .i64 0,.int .i64 0,.int .i64 0,.int .i64 0,.int .i64 0,.int .i64 0,.slice none 0 0,.slice none 0 0,.bool false,.slice none 0 0,.slice none 0 0,.bool false,.slice none 0 0,.slice none 0 0] 55)).drew).there W0.heap.size 0 17 from there_new (w:=(W0.alloc (.cells #[.string ⟨#[]⟩,.int .i64 0,.int .i64 0,.int .i64 0,.int .i64 0,.int .i64 0,.int .i64 0,.int .i64 0,.int .i64 0,.slice none 0 0,.slice none 0 0,.bool false,.slice none 0 0,.slice none 0 0,.bool false,.slice none 0 0,.slice none 0 0] 55)).drew) (cs:=#[.string ⟨#[]⟩,.int .i64 0,.int .i64 0,.int .i64 0,.int .i64 0,.int .i64 0,.int .i64 0,.int .i64 0,.int .i64 0,.slice none 0 0,.slice none 0 0,.bool false,.slice none 0 0,.slice none 0 0,.bool false,.slice none 0 0,.slice none 0 0]) (zN W0 _) (zR 17));have HON:=zh hone;have HW0:=zh hW0;have HQ:=zh hz;have HB0:=zh hb0
 have i1:(v:Int)<(NO:Int):=by omega
 have i2:(p0:Int)<(NP:Int):=by omega
 clear hvol hpol hone hW0 hz hb0 hzk hzl hob hpb hv hp hsz;go_enter Tryz.func64,Tryz.ntmps64;go_upto_region 1 with fail;rw[<-HW0.out,<-HQ.out];refine region_tail (S:=(fun w'=>w'.cell? ⟨z,5,none⟩=some (.slice (some ⟨pb,pof,none⟩) NP cp)/\w'.cell? ⟨z,6,none⟩=some (.slice (some ⟨ob,oof,none⟩) NO co)/\w'.cell? ⟨ob,oof+v*2+1,none⟩=some (.int .i64 (p0:Int))/\w'.rangeAt pb (pof+p0*17) [a0,.int .i64 KK,.int .i64 MM,.int .i64 QQ,a4,a5,a6,a7,a8,a9,a10,a11,a12,a13,a14,a15,a16])) [11] (by kernel_rfl) (HSK.out _ (zB _ _).drew) (fun hHeld=>?_);refine tk 0 6 ?_;refine tk 1 7 ?_;refine tk 2 8 ?_;refine tk 3 9 ?_;refine tk 4 10 ?_;refine tk 5 11 ?_;refine tk 6 12 ?_;refine tk 7 13 ?_;refine tk 8 14 ?_;refine takeT (i:=9) (d:=15) (v:=(.agg #[a0,.int .i64 KK,.int .i64 MM,.int .i64 QQ,a4,a5,a6,a7,a8,a9,a10,a11,a12,a13,a14,a15,a16])) rfl rfl (by kernel_rfl) (by kernel_rfl) (by kernel_rfl) (by kernel_rfl) (fun _ _ _ h=>h) (yieldsIf_load_mid (by rfl) 55 (.tmp 14) rfl pb (pof+p0*17) (by rfl) [a0,.int .i64 KK,.int .i64 MM,.int .i64 QQ,a4,a5,a6,a7,a8,a9,a10,a11,a12,a13,a14,a15,a16] _ (fun w hw=>hw.2.2.2) Tryz.underlying55 rfl size_pol) (by assumption) ?_;(try simp only[Act.put,z1,z2,z3]);refine rd1 10 (fun K hK=>?_);go_simp;refine hK.out _ _ ?_ (fun hHeld=>?_)
 ·exact HSK.out _ ((zB _ _).drew.alloc (zR _) _)
 clear hK K;(try simp only[Act.put,z1,z2,z3]);refine rd1T 11 (fun K hK=>?_);rw[if_pos (by rfl)];refine wp_store_mid 55 (.tmp 5) (.tmp 15) rfl W0.heap.size 0 #[a0,.int .i64 KK,.int .i64 MM,.int .i64 QQ,a4,a5,a6,a7,a8,a9,a10,a11,a12,a13,a14,a15,a16] (by rfl) (by rfl) HTH.out size_pol HON.out ?_;refine hK.out _ _ ?_;clear hK K;(try simp only[Act.put,z1,z2,z3]);refine doneT (by kernel_rfl) ?_ _;clear hHeld;obtain⟨W6,hW6⟩:=zx (World.setCells ((W0.alloc (.cells #[.string ⟨#[]⟩,.int .i64 0,.int .i64 0,.int .i64 0,.int .i64 0,.int .i64 0,.int .i64 0,.int .i64 0,.int .i64 0,.slice none 0 0,.slice none 0 0,.bool false,.slice none 0 0,.slice none 0 0,.bool false,.slice none 0 0,.slice none 0 0] 55)).drew) W0.heap.size 0 [a0,.int .i64 KK,.int .i64 MM,.int .i64 QQ,a4,a5,a6,a7,a8,a9,a10,a11,a12,a13,a14,a15,a16]);obtain⟨gp,hgp⟩:=zx W0.heap.size;rw[<-hW6,<-hgp]
 have hb6:Below W0.heap.size W0 W6:=by rw[hW6];exact below_setCellsV (zR _) _ _ _ ((zB _ _).alloc (zR _) _).drew
 have hgr:W6.rangeAt gp 0 [a0,.int .i64 KK,.int .i64 MM,.int .i64 QQ,a4,a5,a6,a7,a8,a9,a10,a11,a12,a13,a14,a15,a16]:=by rw[hW6,hgp];exact World.rangeAt_setCells_same _ _ _ _ HTH.out
 have g1:W6.cell? ⟨gp,1,none⟩=some (.int .i64 KK):=hgr 1 _ rfl;have g2:W6.cell? ⟨gp,2,none⟩=some (.int .i64 MM):=hgr 2 _ rfl;have HB6:=zh (HB0.out.trans (hb6.mono HB0.out.size));clear hW6 hgp hb6 hgr HTH HSK;go_wp2_with fail;go_ret;exact⟨rfl,HB6.out⟩
theorem mhas_any(v:Value)(xs:List Int)(x:Int)(R:Nat->Prop)(w:World)(h:IntS w R v xs) :
  Calls Tryz.prog 65 #[v,.int .i64 x] w fun e w'=>e=.returned (.bool (decide (x∈xs)))/\w=w':=by
 obtain⟨A,c,rfl,-,hm⟩:=h.form7;unfold maxLen at hm;have HS:=zh h;obtain⟨L,hL⟩:=zx xs.length;rw[<-hL] at HS hm ⊢;have HL:=zh hL;clear h hL;go_enter Tryz.func65,Tryz.ntmps65;go_wp2_with fail;go_loopg [5] L (fun z v5 wr=>w=wr/\∃j:Nat,j<=L/\z=L-j/\v5=.int .i64 (j:Int)/\Hid (x∉xs.take j))
 case atStart=>exact⟨rfl,0,by omega,rfl,rfl,fun h=>by simp at h⟩
 case round =>
  obtain⟨rfl,j,hj,rfl,rfl,HJ⟩:=hrel;by_cases hlt:j<L
  ·obtain⟨b,off,rfl,hR,hc,-⟩:=HS.out.at7 (k:=j) (by rw[<-HL.out];exact hlt);obtain⟨y,hy⟩:=zx (xs[j]'(by rw[<-HL.out];exact hlt));rw[<-hy] at hc
   have hmem:y∈xs:=by rw[hy];exact List.getElem_mem _
   have htk:xs.take (j+1)=xs.take j++[y]:=by rw[List.take_succ_eq_append_getElem (by rw[<-HL.out];exact hlt),hy]
   have HMEM:=zh hmem;have HTK:=zh htk;clear hy hmem htk;by_cases hxy:y=x
   ·have q:(y==x)=true:=by simpa using hxy
    have HX:=zh hxy;clear hxy;go_wp2_with fail;go_ret;exact⟨by rw[decide_eq_true (by rw[<-HX.out];exact HMEM.out)];rfl,rfl⟩
   ·have q:(y==x)=false:=by simpa using hxy
    have HN:=zh (show x∉xs.take (j+1) by
     rw[HTK.out,List.mem_append];rintro (h1 | h1)
     ·exact HJ.out h1
     ·exact hxy (List.mem_singleton.1 h1).symm)
    clear hxy;go_wp2_with fail;go_roundg (L-(j+1))
    case measure=>omega
    case rel=>exact⟨rfl,j+1,by omega,rfl,by go_num,HN⟩
  ·have HN:=zh (show x∉xs by
    have:=HJ.out;rw[List.take_of_length_le (by rw[<-HL.out];omega)] at this
    exact this)
   go_wp2_with fail;go_ret;exact⟨by rw[decide_eq_false HN.out];rfl,rfl⟩
def RowIK(w:World)(R:Nat->Prop)(cs:List Value)(l:List Int):Prop:=∃v,cs=[v]/\IntS w R v l
theorem rowIK:Steady RowIK:=⟨fun hk ⟨v,e,h⟩=>⟨v,e,h.keep hk⟩,fun hr ⟨v,e,h⟩=>⟨v,e,h.mono hr⟩⟩
theorem info_ints:(Tryz.prog.info? 22).map (fun i=>(i.zero,i.size,i.bytes))=some (some (.slice none 0 0),1,24):=by kernel_rfl
def LayOk(F:FltM)(n:Nat)(L:List (List Int)):Prop:=L.length=n/\∀(v:Nat) (l:List Int),L[v]?=some l->l.length=szN F v/\∀x∈l,-1<=x/\x<F.dves.length
theorem LayOk.nil(F:FltM):LayOk F 0 []:=⟨rfl,fun v l h=>by simp at h⟩
theorem LayOk.push{F:FltM}{n:Nat}{L:List (List Int)}(h:LayOk F n L){l:List Int}(h1:l.length=szN F n)(h2:∀x∈l,-1<=x/\x<F.dves.length):LayOk F (n+1) (L++[l]):=by
 refine⟨by rw[zP,h.1];rfl,fun v x hx=>?_⟩;rcases Nat.lt_or_ge v L.length with hlt | hge
 ·rw[List.getElem?_append_left hlt] at hx;exact h.2 v x hx
 ·have hv:v=L.length:=by
   have:=(zL.1 hx).1;rw[zP] at this;simp at this;omega
  subst hv;rw[List.getElem?_append_right (zR _),Nat.sub_self] at hx;simp at hx;subst hx;rw[h.1];exact⟨h1,h2⟩
theorem app_rows{ops:Array Oper}{rest:List Oper}{o:Oper}{a:Act}{Q:Exit->Act->World->Prop}{w:World}(v0:Value)(h1:v0.oneCell'=true)(t:TypeId)(ht:Tryz.prog.underlying t=some (.slice 22))(s x:Operand)(hgd:o.guard=none)(ho:o.op=.call { callee:=.builtin .append,args:=#[s,x],argTypes:=#[t,t] })
  (base:Nat) (v:Value) (n:Nat) (cs:List Value) (hs:a.eval s=v) (hown:w.ownsRow base 22 1 v n cs)
  (hx:a.eval x=.slice (some ⟨w.heap.size,0,none⟩) 1 1) (hn:n+1<=16777216) (hbase:base<=w.heap.size)
  (h:∀v' w',w'.ownsRow base 22 1 v' (n+1) (cs++[v0])->w.grownBy w' v.ownBlock->(v'.ownBlock=v.ownBlock\/v'.ownBlock=some (w.heap.size+1))->wpList Tryz.prog ops Q rest (a.put o.dst v') w') :
  wpList Tryz.prog ops Q (o :: rest) a (w.alloc (.cells #[v0] 22)):=by
 obtain⟨i0,hi0,hz0,hz1,hz2⟩:=info_parts info_ints;exact wpList_append1 hgd s x _ ho base i0 _ 1 24 ht hi0 hz0 hz1 hz2 rfl (by omega) (by omega) v n _ hs hown hx rfl (by simpa using h1) hn hbase h
structure LayT (gT:Nat) (vt:Value) (W0 wr:World) (F:FltM) (I n:Nat) (v:Value) (L:List (List Int)):Prop where
 tape:TapeB wr gT vt I
 hot:HotBy [some gT] W0 wr
 own:OwnK 1 RowIK wr W0.heap.size 22 v L (Fz W0.heap.size wr.heap.size v)
 ok:LayOk F n L
structure RowT (gT:Nat) (vt:Value) (W1 wr:World) (F:FltM) (I n:Nat) (v:Value) (xs:List Int):Prop where
 tape:TapeB wr gT vt I
 hot:HotBy [some gT] W1 wr
 own:wr.ownsRow W1.heap.size 3 1 v n (xs.map (Value.int .i64))
 len:xs.length=n
 ok:∀x∈xs,-1<=x/\x<F.dves.length
theorem RowT.next{gT:Nat}{vt:Value}{W1 wr w':World}{F:FltM}{I n:Nat}{v:Value}{xs:List Int}(h:RowT gT vt W1 wr F I n v xs)(hT:gT<W1.heap.size)(ht:TapeB w' gT vt (I+1))(hg:wr.grownBy w' (some gT)):RowT gT vt W1 w' F (I+1) n v xs :=
 have hh:HotBy [some gT] wr w':=HotBy.grown hg (.inl (by simp))
 ⟨ht,h.hot.trans hh,own_hot h.own hh (fun g hg e=>by have:=h.own.lt g hg;simp at e;omega),h.len,h.ok⟩
theorem RowT.below{gT:Nat}{vt:Value}{W1 wr w':World}{F:FltM}{I n:Nat}{v:Value}{xs:List Int}(h:RowT gT vt W1 wr F I n v xs)(hb:Below wr.heap.size wr w'):RowT gT vt W1 w' F I n v xs :=
 ⟨(hb.block gT h.tape.lt).trans h.tape,h.hot.trans (HotBy.below hb),own_below h.own hb,h.len,h.ok⟩
theorem RowT.push{gT:Nat}{vt:Value}{W1 wr w':World}{F:FltM}{I n:Nat}{v v':Value}{xs:List Int}{x:Int}(h:RowT gT vt W1 wr F I n v xs)(hT:gT<W1.heap.size)(ho:OwnI w' W1.heap.size v' (xs++[x]))(hg:wr.grownBy w' v.ownBlock)(hx : -1<=x/\x<F.dves.length):RowT gT vt W1 w' F I (n+1) v' (xs++[x]):=by
 have hlt:=fun g (e:v.ownBlock=some g)=>h.own.lt g e
 have hl:(xs++[x]).length=n+1:=by rw[zP,h.len];rfl
 have hh:HotBy [v.ownBlock] wr w':=HotBy.grown hg (.inl (by simp));refine⟨(hg.block gT h.tape.lt (fun e=>by have:=hlt gT e.symm;omega)).trans h.tape,h.hot.transNew hh (fun y e hy=>by simp at e;have:=hlt y e.symm;omega),?_,hl,fun y hy=>?_⟩
 ·have:=ho;unfold OwnI at this;rw[hl] at this;exact this
 ·rcases List.mem_append.1 hy with hy | hy
  ·exact h.ok y hy
  ·simp at hy;subst hy;exact hx
theorem RowT.intS{gT:Nat}{vt:Value}{W1 wr:World}{F:FltM}{I n:Nat}{v:Value}{xs:List Int}(h:RowT gT vt W1 wr F I n v xs)(hD:F.dves.length<=1000):IntS wr (Fr W1.heap.size wr.heap.size) v xs :=
 OwnI.intS (by unfold OwnI;rw[h.len];exact h.own) (fun x hx=>by have:=h.ok x hx;unfold I64;omega)
theorem LayT.push{gT:Nat}{vt:Value}{W0 W1 wr w':World}{F:FltM}{I J n m:Nat}{v v' u:Value}{L:List (List Int)}{xs:List Int}{cs:List Value}(h:LayT gT vt W0 W1 F I n v L)(hr:RowT gT vt W1 wr F J m u xs)(hT:gT<W0.heap.size)(hm:m=szN F n)(hD:F.dves.length<=1000)
  (hown:w'.ownsRow W0.heap.size 22 1 v' (L.length+1) (cs++[u])) (c2:∀k x,L[k]?=some x->∃c,c.length=1/\(∀i y,c[i]?=some y->cs[k*1+i]?=some y)/\RowIK wr (Fz W0.heap.size wr.heap.size v) c x) (c1:cs.length=L.length*1) (hv:∀b,v.ownBlock=some b->b<W1.heap.size/\W0.heap.size<=b)
  (hg:wr.grownBy w' v.ownBlock) (hat:v'.ownBlock=v.ownBlock\/v'.ownBlock=some (wr.heap.size+1)):LayT gT vt W0 w' F J (n+1) v' (L++[xs]):=by
 have h10:=h.hot.size;have h1r:=hr.hot.size;have hTl:=hr.tape.lt;have hh:HotBy [v.ownBlock] wr w':=HotBy.grown hg (.inl (by simp));refine⟨?_,(h.hot.trans (hr.hot.more (fun x hx _=>hx))).transNew hh (fun y e hy=>by simp at e;have:=hv y e.symm;omega),?_,h.ok.push (by rw[hr.len,hm]) hr.ok⟩
 ·exact(hh.block gT hTl (fun e=>by simp at e;have:=hv gT e.symm;omega)).trans hr.tape
 ·refine OwnK.pushF rowIK c2 c1 (fun b hb=>zM (hv b hb).1 h1r) hown rfl ⟨u,rfl,?_⟩ hh (fun b e h3 h4=>by simp at e;exact e.symm) ?_
  ·refine(hr.intS hD).mono (fun b hb=>?_);exact⟨Nat.le_trans h10 hb.1,hb.2,fun e=>by have:=hv b e;have:=hb.1;omega⟩
  ·rcases hat with h1 | h1
   ·exact .inl h1
   ·exact .inr ⟨_,h1,by omega⟩
end Go.Proofs.YtgfaieppacabjaaGreat
