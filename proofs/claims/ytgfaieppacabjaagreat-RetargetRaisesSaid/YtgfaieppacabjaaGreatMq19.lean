/- Parts. -/
import Derived.Test.YtgfaieppacabjaaGreatMq18
set_option linter.unusedSectionVars false
set_option maxRecDepth 100000
set_option maxHeartbeats 12800000
set_option linter.unusedVariables false
set_option linter.unusedSimpArgs false
namespace Go.Proofs.YtgfaieppacabjaaGreat
open Go.RowKit
theorem rfadd0_any(xn xd yn yd:Value)(b c d:Nat)(w:World)(hxn:LS w (Bl w.heap.size) xn (natL 0))(hxd:LS w (Bl w.heap.size) xd (natL b))(hyn:LS w (Bl w.heap.size) yn (natL c))(hyd:LS w (Bl w.heap.size) yd (natL d))(h0b:0<b)(h0c:0<c)(h0d:0<d)(h2:c*b<4294967296)(h3:b*d<4294967296)(hg:Nat.gcd (c*b) (b*d)=1) :
  Calls Tryz.prog 169 #[.agg #[.bool false,xn,xd],.agg #[.bool false,yn,yd]] w fun e w'=>∃un um,e=.returned (.tuple #[.agg #[.bool false,un,um],.int .i64 0])/\LS w' (Fr w.heap.size w'.heap.size) un (natL (c*b))/\LS w' (Fr w.heap.size w'.heap.size) um (natL (b*d))/\Below w.heap.size w w':=by
 obtain⟨An,Nn,cn,rfl⟩:=hxn.frm;obtain⟨Ad,Nd,cd,rfl⟩:=hxd.frm;obtain⟨Bn,Mn,dn,rfl⟩:=hyn.frm;obtain⟨Bd,Md,dd,rfl⟩:=hyd.frm;obtain⟨W0,hW0⟩:=zx (((w.alloc (.cells #[.bool false,.slice An Nn cn,.slice Ad Nd cd] 26)).alloc (.cells #[.bool false,.slice Bn Mn dn,.slice Bd Md dd] 26)).alloc (.cells #[.bool false,.slice none 0 0,.slice none 0 0] 26));obtain⟨q,hq⟩:=zx w.heap.size;obtain⟨p,hp⟩:=zx (w.heap.size+1);obtain⟨g,hgq⟩:=zx (w.heap.size+1+1)
 have hb0:Below w.heap.size w W0:=by rw[hW0];exact(((zB _ _).alloc (zR _) _).alloc (by simp) _).alloc (by simp;omega) _
 have hgk:W0.heap[g]?=some (.cells #[.bool false,.slice none 0 0,.slice none 0 0] 26 (0,0)):=by
  rw[hW0];exact heap_alloc_at _ _ _ (by rw[hgq];simp)
 have hpk:W0.heap[p]?=some (.cells #[.bool false,.slice Bn Mn dn,.slice Bd Md dd] 26 (0,0)):=by
  rw[hW0];exact(zH _ _ _ (by rw[hp];simp)).trans (heap_alloc_at _ _ _ (by rw[hp];simp))
 have hqk:W0.heap[q]?=some (.cells #[.bool false,.slice An Nn cn,.slice Ad Nd cd] 26 (0,0)):=by
  rw[hW0,hq];exact(zH _ _ _ (by simp;omega)).trans ((zH _ _ _ (by simp)).trans (zN w _))
 have hgl:g<W0.heap.size:=(zA.1 hgk).1;have hpl:p<W0.heap.size:=(zA.1 hpk).1;have hql:q<W0.heap.size:=(zA.1 hqk).1;obtain⟨c0,c1,c2,-⟩:=cells3 hqk;obtain⟨d0,d1,d2,-⟩:=cells3 hpk;obtain⟨x1,hx1⟩:=zx (Value.slice An Nn cn);obtain⟨x2,hx2⟩:=zx (Value.slice Ad Nd cd);obtain⟨y1,hy1⟩:=zx (Value.slice Bn Mn dn);obtain⟨y2,hy2⟩:=zx (Value.slice Bd Md dd);have H1:=zh (hxn.below hb0);have H2:=zh (hxd.below hb0);have H3:=zh (hyn.below hb0);have H4:=zh (hyd.below hb0);have HW0:=zh hW0;have H5:=zh (show c*b<4294967296/\b*d<4294967296/\0<c/\0<b/\0<d/\Nat.gcd (c*b) (b*d)=1 from⟨h2,h3,h0c,h0b,h0d,hg⟩);have HQ:=zh (show q=w.heap.size/\p=w.heap.size+1/\g=w.heap.size+1+1 from⟨hq,hp,hgq⟩);have HGL:=zh (show g<W0.heap.size/\g=w.heap.size+1+1 from⟨hgl,hgq⟩);have HBK:=zh hgk;have HQP:=zh (show q<W0.heap.size/\p<W0.heap.size from⟨hql,hpl⟩);have HB0:=zh hb0;clear hW0 hq hp hb0 hpk hqk hpl hql hxn hxd hyn hyd hgl hgk hgq;go_enter Tryz.func169,Tryz.ntmps169;go_wp2_with fail;rw[<-HW0.out,<-HQ.out.2.2,<-HQ.out.2.1,<-HQ.out.1];clear HW0 HQ;rw[<-hx1] at H1 c1 ⊢;rw[<-hx2] at H2 c2 ⊢;rw[<-hy1] at H3 d1 ⊢;rw[<-hy2] at H4 d2 ⊢;have HH0:=zh (show HeldF W0 q p (.bool false) x1 x2 (.bool false) y1 y2 W0 from⟨c0,c1,c2,d0,d1,d2,zB _ _⟩);have HT1:=zh (fun W (h:HeldF W0 q p (.bool false) x1 x2 (.bool false) y1 y2 W)=>rtm_any x1 y2 0 d W (h.ls H1.out) (h.ls H4.out) h0d (by omega));have HT2:=zh (fun W (h:HeldF W0 q p (.bool false) x1 x2 (.bool false) y1 y2 W)=>rtm_any y1 x2 c b W (h.ls H3.out) (h.ls H2.out) h0b h2);have HT3:=zh (fun W (h:HeldF W0 q p (.bool false) x1 x2 (.bool false) y1 y2 W)=>rtm_any x2 y2 b d W (h.ls H2.out) (h.ls H4.out) h0d h3);clear hx1 hx2 hy1 hy2 c0 c1 c2 d0 d1 d2 h2 h3;refine(rvalid_any false _ _ 0 b W0 H1.out H2.out h0b).mono ?_;rintro e w1 ⟨rfl,hb1⟩;have hh1:=HH0.out.below hb1 HQP.out.1 HQP.out.2;obtain⟨c0,c1,c2,d0,d1,d2,-⟩:=hh1;have HH1:=zh (HH0.out.below hb1 HQP.out.1 HQP.out.2);clear hb1;go_wp2_with fail;refine(rvalid_any false _ _ c d w1 (HH1.out.ls H3.out) (HH1.out.ls H4.out) h0d).mono ?_;rintro e w2 ⟨rfl,hb2⟩;have HS0:=zh (show HeldF W0 q p (.bool false) x1 x2 (.bool false) y1 y2 w2.drew from(by obtain⟨a1,a2,a3,a4,a5,a6,a7⟩:=HH1.out.below hb2 HQP.out.1 HQP.out.2;exact⟨a1,a2,a3,a4,a5,a6,a7.drew⟩));clear hb2 c0 c1 c2 d0 d1 d2;go_upto_region 3 with fail;refine region_tail (S:=(fun w'=>w'.cell? ⟨q,0,none⟩=some (.bool false)/\w'.cell? ⟨q,1,none⟩=some x1/\w'.cell? ⟨q,2,none⟩=some x2/\w'.cell? ⟨p,0,none⟩=some (.bool false)/\w'.cell? ⟨p,1,none⟩=some y1/\w'.cell? ⟨p,2,none⟩=some y2/\Below W0.heap.size W0 w')) [] (by kernel_rfl) HS0.out (fun hHeld=>?_);refine tk 0 24 ?_;refine tk 1 25 ?_;refine tk 2 26 ?_;refine tk 3 27 ?_;refine tk 5 29 ?_;refine tk 6 30 ?_;refine tk 7 31 ?_;refine tk 8 32 ?_;refine tk 10 34 ?_;refine tk 11 35 ?_;refine tk 12 36 ?_;refine tk 13 37 ?_;refine rd1 4 (fun K hK=>?_);go_simp;(go_at_call 131;refine(HT1.out _ (by assumption)).mono ?_;rintro e w5 ⟨u5,rfl,hu5,hb5⟩);go_wp2_with fail;refine hK.out _ _ ?_ (fun hHeld=>?_)
 ·(first|exact HeldF.below (by assumption) hb7 HQP.out.1 HQP.out.2|exact HeldF.below (by assumption) hb6 HQP.out.1 HQP.out.2|exact HeldF.below (by assumption) hb5 HQP.out.1 HQP.out.2)
 clear hK K;(try simp only[Act.put,z1,z2,z3]);refine rd1 9 (fun K hK=>?_);go_simp;(go_at_call 131;refine(HT2.out _ (by assumption)).mono ?_;rintro e w6 ⟨u6,rfl,hu6,hb6⟩);go_wp2_with fail;refine hK.out _ _ ?_ (fun hHeld=>?_)
 ·(first|exact HeldF.below (by assumption) hb7 HQP.out.1 HQP.out.2|exact HeldF.below (by assumption) hb6 HQP.out.1 HQP.out.2|exact HeldF.below (by assumption) hb5 HQP.out.1 HQP.out.2)
 clear hK K;(try simp only[Act.put,z1,z2,z3]);refine rd1 14 (fun K hK=>?_);go_simp;(go_at_call 131;refine(HT3.out _ (by assumption)).mono ?_;rintro e w7 ⟨u7,rfl,hu7,hb7⟩);go_wp2_with fail;refine hK.out _ _ ?_ (fun hHeld=>?_)
 ·(first|exact HeldF.below (by assumption) hb7 HQP.out.1 HQP.out.2|exact HeldF.below (by assumption) hb6 HQP.out.1 HQP.out.2|exact HeldF.below (by assumption) hb5 HQP.out.1 HQP.out.2)
 clear hK K;(try simp only[Act.put,z1,z2,z3]);refine tk 15 6 ?_;refine tk 16 7 ?_;refine tk 17 8 ?_;refine doneT (by kernel_rfl) ?_ _;have HBZ:=zh (HeldF.bl (q:=q) (p:=p) (by assumption));have HHZ:=zh (show HeldF W0 q p (.bool false) x1 x2 (.bool false) y1 y2 w7 from hHeld);obtain⟨d0,d1,d2,e0,e1,e2,-⟩:=hHeld;rw[Nat.zero_mul] at hu5;have HA:=zh (radd0_any u5 u6 (c*b) w7 (((hu5.below hb6).below hb7).lsBl (natL_mem (by omega))) ((hu6.below hb7).lsBl (natL_mem H5.out.1)) (Nat.mul_pos H5.out.2.2.1 H5.out.2.2.2.1));have HU7:=zh (hu7.lsBl (natL_mem H5.out.2.1));clear hu5 hu6 hu7 hb5 hb6 hb7;go_wp2_with fail;refine HA.out.mono ?_;rintro e w8 ⟨u8,rfl,hu8,hb8⟩;have HB8:=zh (HBZ.out.trans (hb8.mono HBZ.out.size));clear d0 d1 d2 e0 e1 e2;obtain⟨d0,-⟩:=HHZ.out.below hb8 HQP.out.1 HQP.out.2;have HLO:=zh (rlow1_any u8 u7 (c*b) (b*d) w8 (hu8.lsBl (natL_mem H5.out.1)) (HU7.out.below hb8) (Nat.mul_pos H5.out.2.2.2.1 H5.out.2.2.2.2.1) H5.out.2.2.2.2.2);clear hu8 hb8;go_wp2_with fail;refine HLO.out.mono ?_;rintro e w9 ⟨un,um,rfl,hun,hum,hb9⟩;have HB9:=zh (HB8.out.trans (hb9.mono HB8.out.size));have HFI:=zh (rfits_any un um _ _ w8.heap.size w9 hb9.size hun hum);have HUN:=zh hun;have HUM:=zh hum;clear hun hum hb9 d0;go_wp2_with fail;refine HFI.out.mono ?_;rintro e w10 ⟨rfl,hb10⟩;obtain⟨A1,N1,c1,rfl⟩:=HUN.out.frm;obtain⟨A2,N2,c2,rfl⟩:=HUM.out.frm;have hbx:=HB9.out.trans (hb10.mono HB9.out.size);have hk:=(hbx.block g HGL.out.1).trans HBK.out;obtain⟨l0,l1,l2,f0,f1,f2⟩:=cells3 hk;have hbw:=HB0.out.trans (hbx.mono HB0.out.size)
 have hgw:w.heap.size<=g:=by rw[HGL.out.2];omega
 have hs0:=HB0.out.size;have hs1:=HB8.out.size;have hgl:=HGL.out.1;have hs2:=hb10.size;have h1':=HUN.out.keep (fun b hb=>hb10.block b hb.2);have h2':=HUM.out.keep (fun b hb=>hb10.block b hb.2);have HX:=zh (box3 hk hbw hgw (.bool false) (.slice A1 N1 c1) (.slice A2 N2 c2) h1' (fun b hb=>⟨by have:=hb.1;omega,by have:=hb.1;omega,zM hb.2 hs2⟩) h2' (fun b hb=>⟨by have:=hb.1;omega,by have:=hb.1;omega,zM hb.2 hs2⟩));clear h1' h2' hb10 hbx hk hbw hgw hs0 hs1 hs2 hgl;go_wp2_with fail;obtain⟨Wf,hWf⟩:=zx (((w10.setCell ⟨g,0,none⟩ (.bool false)).setCell ⟨g,1,none⟩ (.slice A1 N1 c1)).setCell ⟨g,2,none⟩ (.slice A2 N2 c2));obtain⟨z0,z1,z2,hl1,hl2,hbf⟩:=HX.out Wf hWf;rw[<-hWf];clear hWf l0 l1 l2;exact bodyPost_ret (v:=.tuple #[.agg #[.bool false,.slice A1 N1 c1,.slice A2 N2 c2],.int .i64 0]) (by simp[results,Tryz.results169,go_sem,z0,z1,z2]) rfl ⟨_,_,rfl,hl1,hl2,hbf⟩
theorem rsign_any(va vb:Value)(n m:Nat)(w:World)(ha:LS w (Bl w.heap.size) va (natL n))(hb:LS w (Bl w.heap.size) vb (natL m))(hm:0<m) :
  Calls Tryz.prog 101 #[.agg #[.bool false,va,vb]] w fun e w'=>e=.returned (.int .i64 (cmpI n 0))/\Below w.heap.size w w':=by
 have hn32:=ha.lt32;have hm32:=hb.lt32;obtain⟨An,Nn,cn,rfl⟩:=ha.frm;obtain⟨Ad,Nd,cd,rfl⟩:=hb.frm;obtain⟨W0,hW0⟩:=zx (w.alloc (.cells #[.bool false,.slice An Nn cn,.slice Ad Nd cd] 26));obtain⟨q,hq⟩:=zx w.heap.size
 have hb0:Below w.heap.size w W0:=by rw[hW0];exact(zB _ _).alloc (zR _) _
 have hqk:W0.heap[q]?=some (.cells #[.bool false,.slice An Nn cn,.slice Ad Nd cd] 26 (0,0)):=by rw[hW0,hq];exact zN _ _
 have hql:q<W0.heap.size:=(zA.1 hqk).1;obtain⟨c0,c1,c2,-⟩:=cells3 hqk;obtain⟨x1,hx1⟩:=zx (Value.slice An Nn cn);obtain⟨x2,hx2⟩:=zx (Value.slice Ad Nd cd);have h1':=ha.below hb0;have h2':=hb.below hb0;rw[<-hx1] at c1 h1';rw[<-hx2] at c2 h2';have H1:=zh h1';have H2:=zh h2';have HS0:=zh (show HeldF W0 q q (.bool false) x1 x2 (.bool false) x1 x2 W0.drew from⟨c0,c1,c2,c0,c1,c2,(zB _ _).drew⟩);have HT1:=zh (fun W (h:HeldF W0 q q (.bool false) x1 x2 (.bool false) x1 x2 W)=>rint_any 0 W (by omega));have HT2:=zh (fun W yn yd (h:HeldF W0 q q (.bool false) x1 x2 (.bool false) x1 x2 W) (h3:LS W (Bl W.heap.size) yn (natL 0)) (h4:LS W (Bl W.heap.size) yd (natL 1))=>rorder_any x1 x2 yn yd n m 0 1 W (h.ls H1.out) (h.ls H2.out) h3 h4 hm (by omega) (by omega) (by omega));rw[Nat.mul_one,Nat.zero_mul] at HT2;have HW0:=zh hW0;have HQ:=zh hq;have HQP:=zh (show q<W0.heap.size/\q<W0.heap.size from⟨hql,hql⟩);have HB0:=zh hb0;obtain⟨C,hC⟩:=zx (cmpI n 0);rw[<-hC] at HT2 ⊢;clear ha hb hW0 hq hb0 hqk hql hx1 hx2 h1' h2' c0 c1 c2 hC hn32 hm32 hm;go_enter Tryz.func101,Tryz.ntmps101;go_upto_region 1 with fail;rw[<-HW0.out,<-HQ.out];refine region_tail (S:=(fun w'=>w'.cell? ⟨q,0,none⟩=some (.bool false)/\w'.cell? ⟨q,1,none⟩=some x1/\w'.cell? ⟨q,2,none⟩=some x2/\w'.cell? ⟨q,0,none⟩=some (.bool false)/\w'.cell? ⟨q,1,none⟩=some x1/\w'.cell? ⟨q,2,none⟩=some x2/\Below W0.heap.size W0 w')) [] (by kernel_rfl) HS0.out (fun hHeld=>?_);refine tk 0 3 ?_;refine rd1 1 (fun K hK=>?_);go_simp;(go_at_call 146;refine(HT1.out _ (by assumption)).mono ?_;rintro e w5 ⟨un,um,rfl,hun,hum,hb5⟩);go_wp2_with fail;refine hK.out _ _ ?_ (fun hHeld=>?_)
 ·(first|exact HeldF.below (by assumption) hb6 HQP.out.1 HQP.out.2|exact HeldF.below (by assumption) hb5 HQP.out.1 HQP.out.2)
 clear hK K;(try simp only[Act.put,z1,z2,z3]);refine rd1 2 (fun K hK=>?_);go_simp;(go_at_call 86;refine(HT2.out _ _ _ (by assumption) (hun.mono Fr.bl) (hum.mono Fr.bl)).mono ?_;rintro e w6 ⟨rfl,hb6⟩);go_wp2_with fail;refine hK.out _ _ ?_ (fun hHeld=>?_)
 ·(first|exact HeldF.below (by assumption) hb6 HQP.out.1 HQP.out.2|exact HeldF.below (by assumption) hb5 HQP.out.1 HQP.out.2)
 clear hK K;(try simp only[Act.put,z1,z2,z3]);refine tk 3 2 ?_;refine doneT (by kernel_rfl) ?_ _;have HBZ:=zh (HeldF.bl (q:=q) (p:=q) (by assumption));clear hHeld hun hum hb5 hb6;go_wp2_with fail;go_ret;exact⟨rfl,HB0.out.trans (HBZ.out.mono HB0.out.size)⟩
theorem rsmalls_any(v:Value)(l:List Frc)(w:World)(h:SlS 3 FrcK w (Bl w.heap.size) v l)(hl:∀x∈l,x.neg=false/\0<x.den/\Nat.gcd x.num x.den=1) :
  Calls Tryz.prog 144 #[v,.int .i64 (l.length:Int)] w fun e w'=>e=.returned (.bool true)/\Below w.heap.size w w':=by
 obtain⟨A,c,rfl,-,hm⟩:=h.form;unfold maxLen at hm;have HS:=zh (fun(w':World) (hb:Below w.heap.size w w')=>SlS.below frcK h hb);have HL:=zh hl;obtain⟨n,hn⟩:=zx l.length;have HN:=zh hn;rw[<-hn] at hm ⊢
 have q0:((n:Int) != (n:Int))=false:=by simp
 clear h hl hn;go_enter Tryz.func144,Tryz.ntmps144;go_wp2_with fail;go_loopg [5] n (fun z v5 wr=>∃j:Nat,j<=n/\z=n-j/\v5=.int .i64 (j:Int)/\Hid (Below w.heap.size w wr))
 case atStart=>exact⟨0,by omega,rfl,rfl,zB _ _⟩
 case round =>
  obtain⟨j,hj,rfl,rfl,HBR⟩:=hrel;by_cases hlt:j<n
  ·have hlt2:j<l.length:=by rw[<-HN.out];exact hlt
   obtain⟨p,off,cs,rfl,hR,-,hc,vn,vd,hcs,hvn,hvd⟩:=(HS.out wr HBR.out).at_ hlt2;obtain⟨h1,h2,h3⟩:=HL.out l[j] (List.getElem_mem hlt2);obtain⟨k0,k1,k2⟩:=three hc hcs;rw[h1] at k0;obtain⟨A1,N1,d1,rfl⟩:=hvn.frm;obtain⟨A2,N2,d2,rfl⟩:=hvd.frm;have HSM:=zh (rsmall_any _ _ _ _ wr hvn hvd h2 h3);clear hc hcs hvn hvd h1 h2 h3 hR;go_wp2_with fail;refine HSM.out.mono ?_;rintro e w1 ⟨rfl,hb1⟩;have HB1:=zh (HBR.out.trans (hb1.mono HBR.out.size));clear hb1 k0 k1 k2;go_wp2_with fail;go_roundg (n-(j+1))
   case measure=>omega
   case rel=>exact⟨j+1,by omega,rfl,by go_num,HB1.out⟩
  ·go_wp2_with fail;go_ret;exact⟨rfl,HBR.out⟩
theorem rwithin_any(n lo hi:Int)(h:lo<=n/\n<=hi)(w:World):Calls Tryz.prog 97 #[.int .i64 n,.int .i64 lo,.int .i64 hi] w fun e w'=>e=.returned (.bool true)/\w=w':=by
 obtain⟨h1,h2⟩:=h;go_enter Tryz.func97,Tryz.ntmps97;go_wp2_with fail;go_ret;exact⟨rfl,rfl⟩
theorem rsizes_any(a b c d e f:Int)(ha:a<=4)(hb:b<=4)(hc:c<=40)(hd:d<=24)(he:e<=4)(hf:f<=12)(w:World):Calls Tryz.prog 98 #[.int .i64 a,.int .i64 b,.int .i64 c,.int .i64 d,.int .i64 e,.int .i64 f] w fun e w'=>e=.returned (.bool true)/\w=w':=by
 go_enter Tryz.func98,Tryz.ntmps98;go_wp2_with fail;go_ret;exact⟨rfl,rfl⟩
theorem rindex_any(v:Value)(l:List ByteArray)(s:ByteArray)(R:Nat->Prop)(w:World)(h:SlS 1 StrK w R v l)(hs:s∉l) :
  Calls Tryz.prog 143 #[v,.string s] w fun e w'=>e=.returned (.int .i64 (-1))/\w=w':=by
 obtain⟨A,c,rfl,-,hm⟩:=h.form;unfold maxLen at hm;have HS:=zh h;have HL:=zh hs;clear h hs;go_enter Tryz.func143,Tryz.ntmps143;go_wp2_with fail;go_loopg [5] l.length (fun z v5 wr=>w=wr/\∃j:Nat,j<=l.length/\z=l.length-j/\v5=.int .i64 (j:Int))
 case atStart=>exact⟨rfl,0,by omega,rfl,rfl⟩
 case round =>
  obtain⟨rfl,j,hj,rfl,rfl⟩:=hrel;by_cases hlt:j<l.length
  ·obtain⟨p,off,cs,rfl,hR,-,hc,hk,hsz⟩:=HS.out.at_ hlt;have hcell:=hc 0 (.string l[j]) (by rw[hk];rfl);simp only[Nat.mul_one,Nat.add_zero] at hcell
   have hne:(l[j].toList==s.toList)=false:=by
    rw[beq_eq_false_iff_ne];intro e;refine HL.out ?_
    have e2:l[j]=s:=by
     rw[ByteArray.toList_eq,ByteArray.toList_eq] at e;have e3:=Array.toList_inj.1 e
     cases hx:l[j];cases hy:s;rw[hx,hy] at e3;simp only at e3;rw[e3]
    rw[<-e2];exact List.getElem_mem hlt
   generalize l[j]=x at *;clear hc hk;go_wp2_with fail;go_roundg (l.length - (j+1))
   case measure=>omega
   case rel=>exact⟨rfl,j+1,by omega,rfl,by go_num⟩
  ·go_wp2_with fail;go_ret;exact⟨rfl,rfl⟩
theorem rletter_any(c:UInt8)(w:World)(h1:97<=c.toNat)(h2:c.toNat<=122):Calls Tryz.prog 167 #[.int .u8 (c.toNat:Int)] w fun e w'=>e=.returned (.bool true)/\w=w':=by
 have q1:(97:Int)<=(c.toNat:Int):=by omega
 have q2:(c.toNat:Int)<=122:=by omega
 go_enter Tryz.func167,Tryz.ntmps167;go_wp2_with fail;go_ret;exact⟨ret_bool (by simp[q1,q2]),rfl⟩
theorem rinner_any(c:UInt8)(w:World)(h1:97<=c.toNat)(h2:c.toNat<=122):Calls Tryz.prog 168 #[.int .u8 (c.toNat:Int)] w fun e w'=>e=.returned (.bool true)/\w=w':=by
 have HL:=zh (rletter_any c w h1 h2);go_enter Tryz.func168,Tryz.ntmps168;go_wp2_with fail;refine HL.out.mono ?_;rintro e w1 ⟨rfl,rfl⟩;go_wp2_with fail;go_ret;exact⟨rfl,rfl⟩
theorem rname_any(s:ByteArray)(w:World)(h:LowN s):Calls Tryz.prog 142 #[.string s] w fun e w'=>e=.returned (.bool true)/\w=w':=by
 obtain⟨h1,h2,h3⟩:=h
 have hE:s.toList.isEmpty=false:=by
  rw[ByteArray.toList_eq]
  cases hl:s.data.toList with
  | nil =>
   have:s.size=0:=by show s.data.size=0;rw[<-Array.length_toList,hl];rfl
   omega
  | cons a l=>rfl
 have HA:=zh h3
 have hel:∀i (hi:i<s.size),97<=(s[i]'hi).toNat/\(s[i]'hi).toNat<=122:=fun i hi=>h3 _ (by rw[<-Array.mem_def];exact Array.getElem_mem hi)
 have HEL:=zh hel
 have q1:(0:Int)<(s.size:Int):=by omega
 have q2:¬((16:Int)<(s.size:Int)):=by omega
 clear h3 hel;go_enter Tryz.func142,Tryz.ntmps142;go_wp2_with fail;refine(rletter_any _ w (HEL.out 0 (by omega)).1 (HEL.out 0 (by omega)).2).mono ?_;rintro e w1 ⟨rfl,rfl⟩;go_wp2_with fail;go_loopg [3] s.size (fun z v3 wr=>w=wr/\∃j:Nat,j<=s.size/\z=s.size-j/\v3=.int .i64 (j:Int))
 case atStart=>exact⟨rfl,0,by omega,rfl,rfl⟩
 case round =>
  obtain⟨rfl,j,hj,rfl,rfl⟩:=hrel;by_cases hlt:j<s.size
  ·go_wp2_with fail;refine(rinner_any _ w (HEL.out j hlt).1 (HEL.out j hlt).2).mono ?_;rintro e w1 ⟨rfl,rfl⟩;go_wp2_with fail;go_roundg (s.size-(j+1))
   case measure=>omega
   case rel=>exact⟨rfl,j+1,by omega,rfl,by go_num⟩
  ·go_wp2_with fail;go_ret;exact⟨rfl,rfl⟩
theorem run_app_old{w:World}(base:Nat)(x0:ByteArray)(v:Value)(n:Nat)(xs:List Value)(ty:TypeId)(hown:w.ownsRow base 9 1 v n xs)(hn:n+1<=16777216)(hbase:base<=w.heap.size) :
  ∃v' w',(Builtin.append_ #[110,110] ty #[v,.slice (some ⟨w.heap.size,0,none⟩) 1 1]).run Tryz.prog (w.alloc (.cells #[.string x0] 9))=.ok v' w'/\w'.ownsRow base 9 1 v' (n+1) (xs++[.string x0])/\(w.alloc (.cells #[.string x0] 9)).grownBy w' v.ownBlock/\w'.ownsRow base 9 1 v n xs:=by
 obtain⟨i0,hi0,hz0,hz1,hz2⟩:=info_parts info_strV;have hown':=hown.alloc (.cells #[.string x0] 9);have hnews:∀j u,[Value.string x0][j]?=some u->(w.alloc (.cells #[.string x0] 9)).cell? ((⟨w.heap.size,0,none⟩:Addr).add j)=some u:=cell_one_new w _ _
 have h1c:∀u∈[Value.string x0],u.oneCell'=true:=by intro u hu;rw[List.mem_singleton.1 hu];rfl
 obtain⟨v',w',hr,h2,h3,h4,h5⟩:=run_append_own_at (P:=Tryz.prog) (w.alloc (.cells #[.string x0] 9)) base 110 ty 9 i0 _ 1 16 Tryz.underlying110 hi0 hz0 hz1 hz2 rfl (by omega) v n xs hown' ⟨w.heap.size,0,none⟩ 1 1 [.string x0] rfl hnews h1c (by unfold maxLen;omega) (by omega) (by simp;omega);refine⟨v',w',hr,h2,h3,?_⟩;rcases hown'.2 with ⟨rfl,rfl⟩ | ⟨g,cap,cur,rfl,hbg,hgc,hnc,hcm,hcs,htk⟩
 ·exact⟨hown.1,.inl ⟨rfl,rfl⟩⟩
 ·by_cases hroom:n+1<=cap
  ·have hr2:=run_append_room (P:=Tryz.prog) (w.alloc (.cells #[.string x0] 9)) 110 ty 9 i0 Tryz.underlying110 hi0 g n cap cur hgc ⟨w.heap.size,0,none⟩ 1 1 [.string x0] (by rw[hz1];rfl) hnews h1c hroom (by rw[hz1];simp;omega);rw[hr] at hr2;injection hr2 with e1 e2;rcases h2.2 with ⟨e3,_⟩ | ⟨g',cap',cur',e3,hbg',hgc',hnc',hcm',hcs',htk'⟩
   ·rw[e1] at e3;cases e3
   ·rw[e1] at e3;injection e3 with e4 e5 e6;injection e4 with e4;injection e4 with e4;subst e4;subst e6;refine⟨hown.1,.inr ⟨g,cap,cur',rfl,hbg,hgc',by omega,hcm',hcs',?_⟩⟩;have:=congrArg (List.take (n*1)) htk';rw[List.take_take,Nat.min_eq_left (by omega),List.take_left' (by rw[hown.1])] at this;exact this
  ·have hr2:=run_append_grow (P:=Tryz.prog) (w.alloc (.cells #[.string x0] 9)) 110 ty 9 i0 _ Tryz.underlying110 hi0 hz0 ⟨g,0,none⟩ n cap xs (by rw[hz1];exact hown.1) (hown'.cells (g:=g) rfl) ⟨w.heap.size,0,none⟩ 1 1 [.string x0] (by rw[hz1];rfl) hnews (by omega) (by omega) (growslice_fits (by omega) (by rw[hz2];omega));rw[hr] at hr2;injection hr2 with e1 e2;have hgl:=(zA.1 hgc).1;refine⟨hown.1,.inr ⟨g,cap,cur,rfl,hbg,?_,hnc,hcm,hcs,htk⟩⟩;rw[e2];exact(zH _ _ g hgl).trans hgc
theorem app_old{ops:Array Oper}{rest:List Oper}{o:Oper}{a:Act}{Q:Exit->Act->World->Prop}{w:World}(x0:ByteArray)(s x:Operand)(hgd:o.guard=none)(ho:o.op=.call { callee:=.builtin .append,args:=#[s,x],argTypes:=#[110,110] })
  (base:Nat) (v:Value) (l:List ByteArray) (hs:a.eval s=v) (hown:OwnS w base v l)
  (hx:a.eval x=.slice (some ⟨w.heap.size,0,none⟩) 1 1) (hn:l.length+1<=16777216) (hbase:base<=w.heap.size)
  (h:∀v' w',OwnS w' base v' (l++[x0])->OwnS w' base v l->w.grownBy w' v.ownBlock->wpList Tryz.prog ops Q rest (a.put o.dst v') w') :
  wpList Tryz.prog ops Q (o :: rest) a (w.alloc (.cells #[.string x0] 9)):=by
 refine wpList_plain hgd fun K hK=>?_
 obtain⟨v',w',hr,h2,h3,h4⟩:=run_app_old base x0 v l.length (l.map Value.string) o.type hown hn hbase;unfold Oper.wp execOp;simp only[ho,resolve,invoke,builtin,Sem.run_bind,Sem.run_pure,Result.andThen_ok,List.map_toArray,List.map_cons,List.map_nil,hs,hx,hr];refine hK _ _ (h v' w' ?_ h4 ⟨h3.os,h3.tape,h3.output,Nat.le_trans (by simp) h3.size,fun k hk hne=>(h3.block k (by simp;omega) hne).trans (zH w _ k hk)⟩);unfold OwnS;rw[zP,List.map_append];exact h2
theorem rfresh_any(base:Nat)(v:Value)(l:List ByteArray)(s:ByteArray)(w:World)(ho:OwnS w base v l)(hbase:base<=w.heap.size)(hs:LowN s)(hnot:s∉l)(hl:l.length<=1000)(hsz:∀x∈l,x.size<=maxLen) :
  Calls Tryz.prog 99 #[v,.string s] w fun e w'=>∃u,e=.returned (.tuple #[u,.bool true])/\OwnS w' base u (l++[s])/\w.grownBy w' v.ownBlock:=by
 obtain⟨A,c,rfl⟩:=ho.form;have HO:=zh ho;have HS:=zh hs;have HN:=zh hnot;have HL:=zh hl;have HB:=zh hbase;have HZ:=zh hsz;clear ho hs hnot hl hbase hsz;go_enter Tryz.func99,Tryz.ntmps99;go_wp2_with (at_builtin;refine app_old s (.tmp 6) (.tmp 8) rfl rfl base (.slice A l.length c) l (by rfl) HO.out (by rfl) (by have:=HL.out;omega) HB.out ?_;intro v5 w5 hown5 hold5 hg5;have HO5:=zh hown5;have HD5:=zh hold5;have HG5:=zh hg5;clear hown5 hold5 hg5);refine(rname_any s w5 HS.out).mono ?_;rintro e w6 ⟨rfl,rfl⟩;go_wp2_with fail;refine(rindex_any _ l s _ w5 (HD5.out.slS HZ.out) HN.out).mono ?_;rintro e w6 ⟨rfl,rfl⟩;go_wp2_with fail;go_ret2;exact⟨_,rfl,HO5.out,HG5.out⟩
theorem rrepairs0_any(v:Value)(w:World)(h:SlS 3 FrcK w (Bl w.heap.size) v (List.replicate 1 ⟨false,1,2⟩)) :
  Calls Tryz.prog 148 #[v,.int .i64 0] w fun e w'=>e=.returned (.bool true)/\Below w.heap.size w w':=by
 have HSM:=zh (rsmalls_any v _ w h (fun x hx=>by rw[List.eq_of_mem_replicate hx];exact⟨rfl,by decide,by decide⟩));obtain⟨A,c,hv,-,-⟩:=h.form;rw[show(List.replicate 1 (⟨false,1,2⟩:Frc)).length=1 from rfl] at hv HSM;subst hv;have HSM:=zh (show Calls Tryz.prog 144 #[.slice A 1 c,.int .i64 1] w fun e w'=>e=.returned (.bool true)/\Below w.heap.size w w' from HSM.out);have HS:=zh (fun(w':World) (hb:Below w.heap.size w w')=>SlS.below frcK h hb);clear h;go_enter Tryz.func148,Tryz.ntmps148;go_wp2_with fail;refine HSM.out.mono ?_;rintro e w1 ⟨rfl,hb1⟩;have HB1:=zh hb1;clear hb1;go_wp2_with fail;go_loopg [5] 1 (fun z v5 wr=>∃j:Nat,j<=1/\z=1-j/\v5=.int .i64 (j:Int)/\Hid (Below w.heap.size w wr))
 case atStart=>exact⟨0,by omega,rfl,rfl,HB1.out⟩
 case round =>
  obtain⟨j,hj,rfl,rfl,HBR⟩:=hrel;by_cases hlt:j<1
  ·obtain⟨p,off,cs,rfl,hR,-,hc,vn,vd,hcs,hvn,hvd⟩:=(HS.out wr HBR.out).at_ (k:=j) (by rw[List.length_replicate];exact hlt);rw[List.getElem_replicate] at hcs hvn hvd;obtain⟨k0,k1,k2⟩:=three hc hcs;obtain⟨A1,N1,d1,rfl⟩:=hvn.frm;obtain⟨A2,N2,d2,rfl⟩:=hvd.frm;have HSG:=zh (rsign_any _ _ 1 2 wr hvn hvd (by omega));rw[show cmpI 1 0=1 from rfl] at HSG;clear hc hcs hvn hvd hR;go_wp2_with fail;refine HSG.out.mono ?_;rintro e w2 ⟨rfl,hb2⟩;have HB2:=zh (HBR.out.trans (hb2.mono HBR.out.size));clear hb2 k0 k1 k2;go_wp2_with fail;go_roundg (1-(j+1))
   case measure=>omega
   case rel=>exact⟨j+1,by omega,rfl,by go_num,HB2.out⟩
  ·go_wp2_with fail;go_ret;exact⟨rfl,HBR.out⟩
theorem rrepairs1_any(v:Value)(w:World)(h:SlS 3 FrcK w (Bl w.heap.size) v (List.replicate 1 ⟨false,1,2⟩)) :
  Calls Tryz.prog 148 #[v,.int .i64 1] w fun e w'=>e=.returned (.bool true)/\Below w.heap.size w w':=by
 have HSM:=zh (rsmalls_any v _ w h (fun x hx=>by rw[List.eq_of_mem_replicate hx];exact⟨rfl,by decide,by decide⟩));obtain⟨A,c,hv,-,-⟩:=h.form;rw[show(List.replicate 1 (⟨false,1,2⟩:Frc)).length=1 from rfl] at hv HSM;subst hv;have HSM:=zh (show Calls Tryz.prog 144 #[.slice A 1 c,.int .i64 1] w fun e w'=>e=.returned (.bool true)/\Below w.heap.size w w' from HSM.out);have HS:=zh (fun(w':World) (hb:Below w.heap.size w w')=>SlS.below frcK h hb);clear h;go_enter Tryz.func148,Tryz.ntmps148;go_wp2_with fail;refine HSM.out.mono ?_;rintro e w1 ⟨rfl,hb1⟩;have HB1:=zh hb1;clear hb1;go_wp2_with fail;go_loopg [5] 1 (fun z v5 wr=>∃j:Nat,j<=1/\z=1-j/\v5=.int .i64 (j:Int)/\Hid (Below w.heap.size w wr))
 case atStart=>exact⟨0,by omega,rfl,rfl,HB1.out⟩
 case round =>
  obtain⟨j,hj,rfl,rfl,HBR⟩:=hrel;by_cases hlt:j<1
  ·obtain⟨p,off,cs,rfl,hR,-,hc,vn,vd,hcs,hvn,hvd⟩:=(HS.out wr HBR.out).at_ (k:=j) (by rw[List.length_replicate];exact hlt);rw[List.getElem_replicate] at hcs hvn hvd;obtain⟨k0,k1,k2⟩:=three hc hcs;obtain⟨A1,N1,d1,rfl⟩:=hvn.frm;obtain⟨A2,N2,d2,rfl⟩:=hvd.frm;have HSG:=zh (rsign_any _ _ 1 2 wr hvn hvd (by omega));rw[show cmpI 1 0=1 from rfl] at HSG;clear hc hcs hvn hvd hR;go_wp2_with fail;refine HSG.out.mono ?_;rintro e w2 ⟨rfl,hb2⟩;have HB2:=zh (HBR.out.trans (hb2.mono HBR.out.size));clear hb2 k0 k1 k2;go_wp2_with fail;go_roundg (1-(j+1))
   case measure=>omega
   case rel=>exact⟨j+1,by omega,rfl,by go_num,HB2.out⟩
  ·go_wp2_with fail;go_ret;exact⟨rfl,HBR.out⟩
theorem rrepairs2_any(v:Value)(w:World)(h:SlS 3 FrcK w (Bl w.heap.size) v (List.replicate 2 ⟨false,1,2⟩)) :
  Calls Tryz.prog 148 #[v,.int .i64 2] w fun e w'=>e=.returned (.bool true)/\Below w.heap.size w w':=by
 have HSM:=zh (rsmalls_any v _ w h (fun x hx=>by rw[List.eq_of_mem_replicate hx];exact⟨rfl,by decide,by decide⟩));obtain⟨A,c,hv,-,-⟩:=h.form;rw[show(List.replicate 2 (⟨false,1,2⟩:Frc)).length=2 from rfl] at hv HSM;subst hv;have HSM:=zh (show Calls Tryz.prog 144 #[.slice A 2 c,.int .i64 2] w fun e w'=>e=.returned (.bool true)/\Below w.heap.size w w' from HSM.out);have HS:=zh (fun(w':World) (hb:Below w.heap.size w w')=>SlS.below frcK h hb);clear h;go_enter Tryz.func148,Tryz.ntmps148;go_wp2_with fail;refine HSM.out.mono ?_;rintro e w1 ⟨rfl,hb1⟩;have HB1:=zh hb1;clear hb1;go_wp2_with fail;go_loopg [5] 2 (fun z v5 wr=>∃j:Nat,j<=2/\z=2-j/\v5=.int .i64 (j:Int)/\Hid (Below w.heap.size w wr))
 case atStart=>exact⟨0,by omega,rfl,rfl,HB1.out⟩
 case round =>
  obtain⟨j,hj,rfl,rfl,HBR⟩:=hrel;by_cases hlt:j<2
  ·obtain⟨p,off,cs,rfl,hR,-,hc,vn,vd,hcs,hvn,hvd⟩:=(HS.out wr HBR.out).at_ (k:=j) (by rw[List.length_replicate];exact hlt);rw[List.getElem_replicate] at hcs hvn hvd;obtain⟨k0,k1,k2⟩:=three hc hcs;obtain⟨A1,N1,d1,rfl⟩:=hvn.frm;obtain⟨A2,N2,d2,rfl⟩:=hvd.frm;have HSG:=zh (rsign_any _ _ 1 2 wr hvn hvd (by omega));rw[show cmpI 1 0=1 from rfl] at HSG;clear hc hcs hvn hvd hR;go_wp2_with fail;refine HSG.out.mono ?_;rintro e w2 ⟨rfl,hb2⟩;have HB2:=zh (HBR.out.trans (hb2.mono HBR.out.size));clear hb2 k0 k1 k2;go_wp2_with fail;go_roundg (2-(j+1))
   case measure=>omega
   case rel=>exact⟨j+1,by omega,rfl,by go_num,HB2.out⟩
  ·go_wp2_with fail;go_ret;exact⟨rfl,HBR.out⟩
theorem rrepairs3_any(v:Value)(w:World)(h:SlS 3 FrcK w (Bl w.heap.size) v (List.replicate 3 ⟨false,1,2⟩)) :
  Calls Tryz.prog 148 #[v,.int .i64 3] w fun e w'=>e=.returned (.bool true)/\Below w.heap.size w w':=by
 have HSM:=zh (rsmalls_any v _ w h (fun x hx=>by rw[List.eq_of_mem_replicate hx];exact⟨rfl,by decide,by decide⟩));obtain⟨A,c,hv,-,-⟩:=h.form;rw[show(List.replicate 3 (⟨false,1,2⟩:Frc)).length=3 from rfl] at hv HSM;subst hv;have HSM:=zh (show Calls Tryz.prog 144 #[.slice A 3 c,.int .i64 3] w fun e w'=>e=.returned (.bool true)/\Below w.heap.size w w' from HSM.out);have HS:=zh (fun(w':World) (hb:Below w.heap.size w w')=>SlS.below frcK h hb);clear h;go_enter Tryz.func148,Tryz.ntmps148;go_wp2_with fail;refine HSM.out.mono ?_;rintro e w1 ⟨rfl,hb1⟩;have HB1:=zh hb1;clear hb1;go_wp2_with fail;go_loopg [5] 3 (fun z v5 wr=>∃j:Nat,j<=3/\z=3-j/\v5=.int .i64 (j:Int)/\Hid (Below w.heap.size w wr))
 case atStart=>exact⟨0,by omega,rfl,rfl,HB1.out⟩
 case round =>
  obtain⟨j,hj,rfl,rfl,HBR⟩:=hrel;by_cases hlt:j<3
  ·obtain⟨p,off,cs,rfl,hR,-,hc,vn,vd,hcs,hvn,hvd⟩:=(HS.out wr HBR.out).at_ (k:=j) (by rw[List.length_replicate];exact hlt);rw[List.getElem_replicate] at hcs hvn hvd;obtain⟨k0,k1,k2⟩:=three hc hcs;obtain⟨A1,N1,d1,rfl⟩:=hvn.frm;obtain⟨A2,N2,d2,rfl⟩:=hvd.frm;have HSG:=zh (rsign_any _ _ 1 2 wr hvn hvd (by omega));rw[show cmpI 1 0=1 from rfl] at HSG;clear hc hcs hvn hvd hR;go_wp2_with fail;refine HSG.out.mono ?_;rintro e w2 ⟨rfl,hb2⟩;have HB2:=zh (HBR.out.trans (hb2.mono HBR.out.size));clear hb2 k0 k1 k2;go_wp2_with fail;go_roundg (3-(j+1))
   case measure=>omega
   case rel=>exact⟨j+1,by omega,rfl,by go_num,HB2.out⟩
  ·go_wp2_with fail;go_ret;exact⟨rfl,HBR.out⟩
theorem rrepairs4_any(v:Value)(w:World)(h:SlS 3 FrcK w (Bl w.heap.size) v (List.replicate 4 ⟨false,1,2⟩)) :
  Calls Tryz.prog 148 #[v,.int .i64 4] w fun e w'=>e=.returned (.bool true)/\Below w.heap.size w w':=by
 have HSM:=zh (rsmalls_any v _ w h (fun x hx=>by rw[List.eq_of_mem_replicate hx];exact⟨rfl,by decide,by decide⟩));obtain⟨A,c,hv,-,-⟩:=h.form;rw[show(List.replicate 4 (⟨false,1,2⟩:Frc)).length=4 from rfl] at hv HSM;subst hv;have HSM:=zh (show Calls Tryz.prog 144 #[.slice A 4 c,.int .i64 4] w fun e w'=>e=.returned (.bool true)/\Below w.heap.size w w' from HSM.out);have HS:=zh (fun(w':World) (hb:Below w.heap.size w w')=>SlS.below frcK h hb);clear h;go_enter Tryz.func148,Tryz.ntmps148;go_wp2_with fail;refine HSM.out.mono ?_;rintro e w1 ⟨rfl,hb1⟩;have HB1:=zh hb1;clear hb1;go_wp2_with fail;go_loopg [5] 4 (fun z v5 wr=>∃j:Nat,j<=4/\z=4-j/\v5=.int .i64 (j:Int)/\Hid (Below w.heap.size w wr))
 case atStart=>exact⟨0,by omega,rfl,rfl,HB1.out⟩
 case round =>
  obtain⟨j,hj,rfl,rfl,HBR⟩:=hrel;by_cases hlt:j<4
  ·obtain⟨p,off,cs,rfl,hR,-,hc,vn,vd,hcs,hvn,hvd⟩:=(HS.out wr HBR.out).at_ (k:=j) (by rw[List.length_replicate];exact hlt);rw[List.getElem_replicate] at hcs hvn hvd;obtain⟨k0,k1,k2⟩:=three hc hcs;obtain⟨A1,N1,d1,rfl⟩:=hvn.frm;obtain⟨A2,N2,d2,rfl⟩:=hvd.frm;have HSG:=zh (rsign_any _ _ 1 2 wr hvn hvd (by omega));rw[show cmpI 1 0=1 from rfl] at HSG;clear hc hcs hvn hvd hR;go_wp2_with fail;refine HSG.out.mono ?_;rintro e w2 ⟨rfl,hb2⟩;have HB2:=zh (HBR.out.trans (hb2.mono HBR.out.size));clear hb2 k0 k1 k2;go_wp2_with fail;go_roundg (4-(j+1))
   case measure=>omega
   case rel=>exact⟨j+1,by omega,rfl,by go_num,HB2.out⟩
  ·go_wp2_with fail;go_ret;exact⟨rfl,HBR.out⟩
theorem rrepairs_any(v:Value)(m:Nat)(hm:m<=4)(w:World)(h:SlS 3 FrcK w (Bl w.heap.size) v (List.replicate (max m 1) ⟨false,1,2⟩)) :
  Calls Tryz.prog 148 #[v,.int .i64 (m:Int)] w fun e w'=>e=.returned (.bool true)/\Below w.heap.size w w':=by
 match m,hm with
 | 0,_=>exact rrepairs0_any v w h
 | 1,_=>exact rrepairs1_any v w h
 | 2,_=>exact rrepairs2_any v w h
 | 3,_=>exact rrepairs3_any v w h
 | 4,_=>exact rrepairs4_any v w h
theorem rnumbers_any(k m q s3 s4:Int)(w:World)(hk:k=1\/k=2)(hm:0<=m/\m<=4)(hq:k<=q/\q<=k+m)(h3:0<=s3/\s3<=3)(h4:0<=s4/\s4<=2) :
  Calls Tryz.prog 103 #[.int .i64 k,.int .i64 m,.int .i64 q,.agg #[.int .i64 0,.int .i64 0,.int .i64 0,.int .i64 s3,.int .i64 s4]] w fun e w'=>e=.returned (.bool true)/\Below w.heap.size w w':=by
 obtain⟨W0,hW0⟩:=zx (w.alloc (.cells #[.int .i64 0,.int .i64 0,.int .i64 0,.int .i64 s3,.int .i64 s4] 52));obtain⟨g,hg⟩:=zx w.heap.size
 have hb0:Below w.heap.size w W0:=by rw[hW0];exact(zB _ _).alloc (zR _) _
 have hgk:W0.heap[g]?=some (.cells #[.int .i64 0,.int .i64 0,.int .i64 0,.int .i64 s3,.int .i64 s4] 52 (0,0)):=by rw[hW0,hg];exact zN _ _
 have c0:W0.cell? ⟨g,0,none⟩=some (.int .i64 0):=by rw[cell_of_row _ _ _ _ _ _ hgk];rfl
 have hat:∀j:Nat,1<=j->j<5->∃x:Int,0<=x/\x<=8/\W0.cell? ⟨g,j,none⟩=some (.int .i64 x):=fun j h1 h5=>by
  rw[cell_of_row _ _ _ _ _ _ hgk]
  match j,h1,h5 with
  | 1,_,_=>exact⟨0,by omega,by omega,rfl⟩
  | 2,_,_=>exact⟨0,by omega,by omega,rfl⟩
  | 3,_,_=>exact⟨s3,by omega,by omega,rfl⟩
  | 4,_,_=>exact⟨s4,by omega,by omega,rfl⟩
 have HAT:=zh hat;have HC:=zh (r07code_any k m W0 (by unfold I64;omega) (by unfold I64;omega));rw[show codeB k m=true from(codeB_iff k m).2 (by omega)] at HC;have H3:=zh (rwithin_any q k (k+m) hq W0);have HW0:=zh hW0;have HG:=zh hg;have HB0:=zh hb0
 have k1:1<=k:=by omega
 have k2:k<=2:=by omega
 have m1:0<=m:=hm.1;have m2:m<=4:=hm.2;clear hk hm hq h3 h4 hW0 hg hb0 hgk hat;go_enter Tryz.func103,Tryz.ntmps103;go_wp2_with fail;rw[<-HW0.out,<-HG.out];refine HC.out.mono ?_;rintro e w1 ⟨rfl,rfl⟩;go_wp2_with fail;refine H3.out.mono ?_;rintro e w1 ⟨rfl,rfl⟩;go_wp2_with fail;go_loopg [9] 4 (fun z v9 wr=>W0=wr/\∃j:Nat,1<=j/\j<=5/\z=5-j/\v9=.int .i64 (j:Int))
 case atStart=>exact⟨rfl,1,by omega,by omega,rfl,rfl⟩
 case round =>
  obtain⟨rfl,j,hj1,hj,rfl,rfl⟩:=hrel;by_cases hlt:j<5
  ·obtain⟨x,hx0,hx8,hxc⟩:=HAT.out j hj1 hlt;have HWI:=zh (rwithin_any x 0 8 ⟨hx0,hx8⟩ W0);clear hx0 hx8;go_wp2_with fail;refine HWI.out.mono ?_;rintro e w1 ⟨rfl,rfl⟩;go_wp2_with fail;go_roundg (5-(j+1))
   case measure=>omega
   case rel=>exact⟨rfl,j+1,by omega,by omega,rfl,by go_num⟩
  ·go_wp2_with fail;go_ret;exact⟨rfl,HB0.out⟩
theorem rdurations_any(v:Value)(m:Nat)(hm:m<=4)(xn xd yn yd:Value)(w:World)(h:SlS 3 FrcK w (Bl w.heap.size) v (List.replicate (max m 1) ⟨false,1,2⟩))(hxn:LS w (Bl w.heap.size) xn (natL 1))(hxd:LS w (Bl w.heap.size) xd (natL 1000))(hyn:LS w (Bl w.heap.size) yn (natL 30))(hyd:LS w (Bl w.heap.size) yd (natL 1)) :
  Calls Tryz.prog 104 #[.int .i64 (m:Int),v,.agg #[.bool false,xn,xd],.agg #[.bool false,yn,yd]] w fun e w'=>e=.returned (.bool true)/\Below w.heap.size w w':=by
 obtain⟨An,Nn,cn,rfl⟩:=hxn.frm;obtain⟨Ad,Nd,cd,rfl⟩:=hxd.frm;obtain⟨Bn,Mn,dn,rfl⟩:=hyn.frm;obtain⟨Bd,Md,dd,rfl⟩:=hyd.frm;have HSL:=zh (fun(w':World) (hb:Below w.heap.size w w')=>SlS.below frcK h hb);obtain⟨W0,hW0⟩:=zx ((w.alloc (.cells #[.bool false,.slice An Nn cn,.slice Ad Nd cd] 26)).alloc (.cells #[.bool false,.slice Bn Mn dn,.slice Bd Md dd] 26));obtain⟨q,hq⟩:=zx w.heap.size;obtain⟨p,hp⟩:=zx (w.heap.size+1)
 have hb0:Below w.heap.size w W0:=by rw[hW0];exact((zB _ _).alloc (zR _) _).alloc (by simp) _
 have hpk:W0.heap[p]?=some (.cells #[.bool false,.slice Bn Mn dn,.slice Bd Md dd] 26 (0,0)):=by
  rw[hW0];exact heap_alloc_at _ _ _ (by rw[hp];simp)
 have hqk:W0.heap[q]?=some (.cells #[.bool false,.slice An Nn cn,.slice Ad Nd cd] 26 (0,0)):=by
  rw[hW0,hq];exact(zH _ _ _ (by simp)).trans (zN w _)
 have hpl:p<W0.heap.size:=(zA.1 hpk).1;have hql:q<W0.heap.size:=(zA.1 hqk).1;obtain⟨c0,c1,c2,-⟩:=cells3 hqk;obtain⟨d0,d1,d2,-⟩:=cells3 hpk;obtain⟨x1,hx1⟩:=zx (Value.slice An Nn cn);obtain⟨x2,hx2⟩:=zx (Value.slice Ad Nd cd);obtain⟨y1,hy1⟩:=zx (Value.slice Bn Mn dn);obtain⟨y2,hy2⟩:=zx (Value.slice Bd Md dd);have H1:=zh (hxn.below hb0);have H2:=zh (hxd.below hb0);have H3:=zh (hyn.below hb0);have H4:=zh (hyd.below hb0);have HW0:=zh hW0;have HQ:=zh (show q=w.heap.size/\p=w.heap.size+1 from⟨hq,hp⟩);have HQP:=zh (show q<W0.heap.size/\p<W0.heap.size from⟨hql,hpl⟩);have HB0:=zh hb0;clear hW0 hq hp hb0 hpk hqk hpl hql hxn hxd hyn hyd;rw[<-hx1] at H1 c1;rw[<-hx2] at H2 c2;rw[<-hy1] at H3 d1;rw[<-hy2] at H4 d2;have HR:=zh (fun W (h:HeldF W0 q p (.bool false) x1 x2 (.bool false) y1 y2 W)=>rrepairs_any v m hm W (HSL.out W (HB0.out.trans (h.bl.mono HB0.out.size))));have HS1:=zh (fun W (h:HeldF W0 q p (.bool false) x1 x2 (.bool false) y1 y2 W)=>rsmall_any x1 x2 1 1000 W (h.ls H1.out) (h.ls H2.out) (by omega) (by decide));have HS2:=zh (fun W (h:HeldF W0 q p (.bool false) x1 x2 (.bool false) y1 y2 W)=>rsmall_any y1 y2 30 1 W (h.ls H3.out) (h.ls H4.out) (by omega) (by decide));have HLE:=zh (fun W un um (h:HeldF W0 q p (.bool false) x1 x2 (.bool false) y1 y2 W) (h3:LS W (Bl W.heap.size) un (natL 1)) (h4:LS W (Bl W.heap.size) um (natL 1))=>rless_any un um x1 x2 1 1 1 1000 W h3 h4 (h.ls H1.out) (h.ls H2.out) (by omega) (by omega) (by omega) (by omega));rw[show decide (cmpI (1*1000) (1*1)<0)=false from by decide] at HLE;have HS0:=zh (show HeldF W0 q p (.bool false) x1 x2 (.bool false) y1 y2 W0.drew from⟨c0,c1,c2,d0,d1,d2,(zB _ _).drew⟩);clear hx1 hx2 hy1 hy2 c0 c1 c2 d0 d1 d2 h;go_enter Tryz.func104,Tryz.ntmps104;go_upto_region 1 with fail;rw[<-HW0.out,<-HQ.out.2,<-HQ.out.1];clear HW0 HQ;refine region_tail (S:=(fun w'=>w'.cell? ⟨q,0,none⟩=some (.bool false)/\w'.cell? ⟨q,1,none⟩=some x1/\w'.cell? ⟨q,2,none⟩=some x2/\w'.cell? ⟨p,0,none⟩=some (.bool false)/\w'.cell? ⟨p,1,none⟩=some y1/\w'.cell? ⟨p,2,none⟩=some y2/\Below W0.heap.size W0 w')) [] (by kernel_rfl) HS0.out (fun hHeld=>?_);refine tk 0 9 ?_;refine tk 1 10 ?_;refine rd1 2 (fun K hK=>?_);go_simp;(go_at_call 148;refine(HR.out _ (by assumption)).mono ?_;rintro e w5 ⟨rfl,hb5⟩);go_wp2_with fail;refine hK.out _ _ ?_ (fun hHeld=>?_)
 ·(first|(with_reducible assumption)|exact HeldF.below (by assumption) hb9 HQP.out.1 HQP.out.2|exact HeldF.below (by assumption) hb8 HQP.out.1 HQP.out.2|exact HeldF.below (by assumption) hb7 HQP.out.1 HQP.out.2|exact HeldF.below (by assumption) hb6 HQP.out.1 HQP.out.2|exact HeldF.below (by assumption) hb5 HQP.out.1 HQP.out.2)
 clear hK K;(try simp only[Act.put,z1,z2,z3]);refine tk 3 12 ?_;refine tk 4 13 ?_;refine rd1 5 (fun K hK=>?_);go_simp;(go_at_call 102;refine(HS1.out _ (by assumption)).mono ?_;rintro e w6 ⟨rfl,hb6⟩);go_wp2_with fail;refine hK.out _ _ ?_ (fun hHeld=>?_)
 ·(first|(with_reducible assumption)|exact HeldF.below (by assumption) hb9 HQP.out.1 HQP.out.2|exact HeldF.below (by assumption) hb8 HQP.out.1 HQP.out.2|exact HeldF.below (by assumption) hb7 HQP.out.1 HQP.out.2|exact HeldF.below (by assumption) hb6 HQP.out.1 HQP.out.2|exact HeldF.below (by assumption) hb5 HQP.out.1 HQP.out.2)
 clear hK K;(try simp only[Act.put,z1,z2,z3]);refine tk 6 15 ?_;refine tk 7 16 ?_;refine tk 9 18 ?_;refine rd1 8 (fun K hK=>?_);go_simp;(go_at_call 146;refine(rint_any 1 _ (by omega)).mono ?_;rintro e w7 ⟨un,um,rfl,hun,hum,hb7⟩);go_wp2_with fail;refine hK.out _ _ ?_ (fun hHeld=>?_)
 ·(first|(with_reducible assumption)|exact HeldF.below (by assumption) hb9 HQP.out.1 HQP.out.2|exact HeldF.below (by assumption) hb8 HQP.out.1 HQP.out.2|exact HeldF.below (by assumption) hb7 HQP.out.1 HQP.out.2|exact HeldF.below (by assumption) hb6 HQP.out.1 HQP.out.2|exact HeldF.below (by assumption) hb5 HQP.out.1 HQP.out.2)
 clear hK K;(try simp only[Act.put,z1,z2,z3]);refine rd1 10 (fun K hK=>?_);go_simp;(go_at_call 149;refine(HLE.out _ _ _ (by assumption) (hun.mono Fr.bl) (hum.mono Fr.bl)).mono ?_;rintro e w8 ⟨rfl,hb8⟩);go_wp2_with fail;refine hK.out _ _ ?_ (fun hHeld=>?_)
 ·(first|(with_reducible assumption)|exact HeldF.below (by assumption) hb9 HQP.out.1 HQP.out.2|exact HeldF.below (by assumption) hb8 HQP.out.1 HQP.out.2|exact HeldF.below (by assumption) hb7 HQP.out.1 HQP.out.2|exact HeldF.below (by assumption) hb6 HQP.out.1 HQP.out.2|exact HeldF.below (by assumption) hb5 HQP.out.1 HQP.out.2)
 clear hK K;(try simp only[Act.put,z1,z2,z3]);refine tk 11 20 ?_;refine tk 12 21 ?_;refine tk 13 22 ?_;refine tk 14 23 ?_;refine rd1 15 (fun K hK=>?_);go_simp;(go_at_call 102;refine(HS2.out _ (by assumption)).mono ?_;rintro e w9 ⟨rfl,hb9⟩);go_wp2_with fail;refine hK.out _ _ ?_ (fun hHeld=>?_)
 ·(first|(with_reducible assumption)|exact HeldF.below (by assumption) hb9 HQP.out.1 HQP.out.2|exact HeldF.below (by assumption) hb8 HQP.out.1 HQP.out.2|exact HeldF.below (by assumption) hb7 HQP.out.1 HQP.out.2|exact HeldF.below (by assumption) hb6 HQP.out.1 HQP.out.2|exact HeldF.below (by assumption) hb5 HQP.out.1 HQP.out.2)
 clear hK K;(try simp only[Act.put,z1,z2,z3]);refine tk 16 25 ?_;refine tk 17 8 ?_;refine doneT (by kernel_rfl) ?_ _;have HBZ:=zh (HeldF.bl (q:=q) (p:=p) (by assumption));clear hHeld hun hum hb5 hb6 hb7 hb8 hb9;go_wp2_with fail;go_ret;exact⟨rfl,HB0.out.trans (HBZ.out.mono HB0.out.size)⟩
def HeldO(W0:World)(p b o:Nat)(x0 x1 x2 y0 y1 y2:Value)(w':World):Prop :=
 w'.cell? ⟨p,0,none⟩=some x0/\w'.cell? ⟨p,1,none⟩=some x1/\w'.cell? ⟨p,2,none⟩=some x2/\w'.cell? ⟨b,o,none⟩=some y0/\w'.cell? ⟨b,o+1,none⟩=some y1/\w'.cell? ⟨b,o+2,none⟩=some y2/\Below W0.heap.size W0 w'
theorem HeldO.below{W0 wc w2:World}{p b o:Nat}{x0 x1 x2 y0 y1 y2:Value}(h:HeldO W0 p b o x0 x1 x2 y0 y1 y2 wc)(hb:Below wc.heap.size wc w2)(hp:p<W0.heap.size)(hbb:b<W0.heap.size):HeldO W0 p b o x0 x1 x2 y0 y1 y2 w2:=by
 obtain⟨d0,d1,d2,e0,e1,e2,hB⟩:=h;have hs:=hB.size
 have m:∀i,w2.cell? ⟨p,i,none⟩=wc.cell? ⟨p,i,none⟩:=fun i=>hb.cell (p:=⟨p,i,none⟩) (zM hp hs)
 have m':∀i,w2.cell? ⟨b,i,none⟩=wc.cell? ⟨b,i,none⟩:=fun i=>hb.cell (p:=⟨b,i,none⟩) (zM hbb hs)
 exact⟨(m _).trans d0,(m _).trans d1,(m _).trans d2,(m' _).trans e0,(m' _).trans e1,(m' _).trans e2,hB.trans (hb.mono hs)⟩
theorem HeldO.bl{W0 wc:World}{p b o:Nat}{x0 x1 x2 y0 y1 y2:Value}(h:HeldO W0 p b o x0 x1 x2 y0 y1 y2 wc):Below W0.heap.size W0 wc:=h.2.2.2.2.2.2
theorem HeldO.ls{W0 wc:World}{p b o:Nat}{x0 x1 x2 y0 y1 y2 v:Value}{l:List Nat}(h:HeldO W0 p b o x0 x1 x2 y0 y1 y2 wc)(hl:LS W0 (Bl W0.heap.size) v l):LS wc (Bl wc.heap.size) v l:=hl.below h.bl
theorem HeldO.set3{W0 wc:World}{p b o y:Nat}{x0 x1 x2 y0 y1 y2 v0 v1 v2:Value}(h:HeldO W0 p b o x0 x1 x2 y0 y1 y2 wc)(hy:W0.heap.size<=y)(hp:p<W0.heap.size)(hbb:b<W0.heap.size):HeldO W0 p b o x0 x1 x2 y0 y1 y2 (((wc.setCell ⟨y,0,none⟩ v0).setCell ⟨y,1,none⟩ v1).setCell ⟨y,2,none⟩ v2):=by
 obtain⟨d0,d1,d2,e0,e1,e2,hB⟩:=h
 have m:∀i,(((wc.setCell ⟨y,0,none⟩ v0).setCell ⟨y,1,none⟩ v1).setCell ⟨y,2,none⟩ v2).cell? ⟨p,i,none⟩=wc.cell? ⟨p,i,none⟩:=fun i=>World.cell?_of_block (a:=⟨p,i,none⟩) (kept_set3 wc y v0 v1 v2 (fun q=>q=p) (fun q e=>by omega) p rfl)
 have m':∀i,(((wc.setCell ⟨y,0,none⟩ v0).setCell ⟨y,1,none⟩ v1).setCell ⟨y,2,none⟩ v2).cell? ⟨b,i,none⟩=wc.cell? ⟨b,i,none⟩:=fun i=>World.cell?_of_block (a:=⟨b,i,none⟩) (kept_set3 wc y v0 v1 v2 (fun q=>q=b) (fun q e=>by omega) b rfl)
 exact⟨(m _).trans d0,(m _).trans d1,(m _).trans d2,(m' _).trans e0,(m' _).trans e1,(m' _).trans e2,below_set3 hB hy v0 v1 v2⟩
theorem rsum1_any(v:Value)(c d:Nat)(w:World)(h:SlS 3 FrcK w (Bl w.heap.size) v [⟨false,c,d⟩])(hc:0<c)(hd:0<d)(hg:Nat.gcd c d=1) :
  Calls Tryz.prog 145 #[v] w fun e w'=>∃un um,e=.returned (.tuple #[.agg #[.bool false,un,um],.int .i64 0])/\LS w' (Fr w.heap.size w'.heap.size) un (natL c)/\LS w' (Fr w.heap.size w'.heap.size) um (natL d)/\Below w.heap.size w w':=by
 obtain⟨b1,o1,c1,vn,vd,rfl,hR,k0,k1,k2,hn,hdd⟩:=one_frc h;have c32:=hn.lt32;have d32:=hdd.lt32;obtain⟨An,Nn,cn,rfl⟩:=hn.frm;obtain⟨Ad,Nd,cd,rfl⟩:=hdd.frm;obtain⟨W0,hW0⟩:=zx (w.alloc (.cells #[.bool false,.slice none 0 0,.slice none 0 0] 26));obtain⟨g,hgq⟩:=zx w.heap.size
 have hb0:Below w.heap.size w W0:=by rw[hW0];exact(zB _ _).alloc (zR _) _
 have hbk:W0.heap[g]?=some (.cells #[.bool false,.slice none 0 0,.slice none 0 0] 26 (0,0)):=by rw[hW0,hgq];exact zN _ _
 have hgl:g<W0.heap.size:=(zA.1 hbk).1;have HM:=zh (rint_any 0 W0 (by omega));have K0:=zh k0;have K1:=zh k1;have K2:=zh k2;have HN:=zh hn;have HD:=zh hdd;have HR:=zh hR;have HW0:=zh hW0;have HGQ:=zh hgq;have HB0:=zh hb0;have HBK:=zh hbk;have HGL:=zh hgl;have HCD:=zh (show 0<c/\0<d/\Nat.gcd c d=1/\c<4294967296/\d<4294967296 from⟨hc,hd,hg,c32,d32⟩);clear h hW0 hgq hb0 hbk hgl k0 k1 k2 hn hdd hR hc hd hg c32 d32;go_enter Tryz.func145,Tryz.ntmps145;go_wp2_with fail;rw[<-HW0.out,<-HGQ.out];refine HM.out.mono ?_;rintro e w1 ⟨u0,u1,rfl,hu0,hu1,hb1⟩;obtain⟨A0,N0,e0,rfl⟩:=hu0.frm;obtain⟨A1,N1,e1,rfl⟩:=hu1.frm;obtain⟨W1,hW1⟩:=zx (w1.alloc (.cells #[.bool false,.slice A0 N0 e0,.slice A1 N1 e1] 26));obtain⟨p,hp⟩:=zx w1.heap.size
 have hb2:Below w1.heap.size w1 W1:=by rw[hW1];exact(zB _ _).alloc (zR _) _
 have hb12:=hb1.trans (hb2.mono hb1.size)
 have hpk:W1.heap[p]?=some (.cells #[.bool false,.slice A0 N0 e0,.slice A1 N1 e1] 26 (0,0)):=by rw[hW1,hp];exact zN _ _
 have hbw:=HB0.out.trans (hb12.mono HB0.out.size);obtain⟨x1,hx1⟩:=zx (Value.slice A0 N0 e0);obtain⟨x2,hx2⟩:=zx (Value.slice A1 N1 e1);obtain⟨y1,hy1⟩:=zx (Value.slice An Nn cn);obtain⟨y2,hy2⟩:=zx (Value.slice Ad Nd cd);have q0:W1.cell? ⟨b1,o1,none⟩=some (.bool false):=(hbw.cell (p:=⟨b1,o1,none⟩) HR.out).trans K0.out
 have q1:W1.cell? ⟨b1,o1+1,none⟩=some y1:=by rw[hy1];exact(hbw.cell (p:=⟨b1,o1+1,none⟩) HR.out).trans K1.out
 have q2:W1.cell? ⟨b1,o1+2,none⟩=some y2:=by rw[hy2];exact(hbw.cell (p:=⟨b1,o1+2,none⟩) HR.out).trans K2.out
 have hu0':=(hu0.mono Fr.bl).below hb2;have hu1':=(hu1.mono Fr.bl).below hb2;have hyn':=HN.out.below hbw;have hyd':=HD.out.below hbw;rw[<-hx1] at hu0' hpk;rw[<-hx2] at hu1' hpk;rw[<-hy1] at hyn';rw[<-hy2] at hyd';obtain⟨l0,l1,l2,lf0,lf1,lf2⟩:=cells3 hpk;have HX1:=zh hu0';have HX2:=zh hu1';have HY1:=zh hyn';have HY2:=zh hyd';have HPK:=zh hpk;have HBW:=zh hbw;have hpl:p<W1.heap.size:=(zA.1 hpk).1;have HQP:=zh (show p<W1.heap.size/\b1<W1.heap.size from⟨hpl,zM HR.out hbw.size⟩)
 have hgp:g≠p/\w.heap.size<=p/\g<W1.heap.size:=by have h1:=HGL.out;have h2:=hb1.size;have h3:=HB0.out.size;have h4:=hb12.size;refine⟨?_,?_,?_⟩ <;> omega
 have HGP:=zh hgp;have HGK:=zh ((hb12.block g HGL.out).trans HBK.out);have HS0:=zh (show HeldO W1 p b1 o1 (.bool false) x1 x2 (.bool false) y1 y2 W1.drew from⟨l0,l1,l2,q0,q1,q2,(zB _ _).drew⟩);have HT:=zh (fun W (h:HeldO W1 p b1 o1 (.bool false) x1 x2 (.bool false) y1 y2 W)=>rfadd0_any x1 x2 y1 y2 1 c d W (h.ls HX1.out) (h.ls HX2.out) (h.ls HY1.out) (h.ls HY2.out) (by omega) HCD.out.1 HCD.out.2.1 (by have:=HCD.out;omega) (by have:=HCD.out;omega) (by rw[Nat.mul_one,Nat.one_mul];exact HCD.out.2.2.1));rw[Nat.mul_one,Nat.one_mul] at HT;have HW1:=zh hW1;have HP:=zh hp;have HPB:=zh (show W0.heap.size<=p from by rw[hp];exact hb1.size);clear hx1 hx2 hy1 hy2;clear hu0 hu1 hu0' hu1' hyn' hyd' hb1 hb2 hb12 hbw hpk hp hW1 hpl hgp q0 q1 q2 l0 l1 l2 lf0 lf1 lf2;go_upto_region 2 with fail;rw[<-HW1.out,<-HP.out];go_wp2_with fail;go_loopg [5,6,7,15] 1 (fun z v5 v6 v7 v15 wr=>(z=1/\v5=.int .i64 0/\W1=wr)\/(z=0/\v5=.int .i64 1/\Hid (Below w.heap.size w wr)/\Hid (wr.heap[g]?=some (.cells #[.bool false,.slice none 0 0,.slice none 0 0] 26 (0,0)))/\Hid (∃un um,wr.heap[p]?=some (.cells #[.bool false,un,um] 26 (0,0))/\LS wr (Fr W1.heap.size wr.heap.size) un (natL c)/\LS wr (Fr W1.heap.size wr.heap.size) um (natL d))))
 case atStart=>exact .inl ⟨rfl,rfl,rfl⟩
 case round =>
  rcases hrel with ⟨rfl,rfl,rfl⟩ | ⟨rfl,rfl,hbr,hgk,hpk⟩
  ·go_upto_region 5 with fail;refine region_tail (S:=(fun w'=>w'.cell? ⟨p,0,none⟩=some (.bool false)/\w'.cell? ⟨p,1,none⟩=some x1/\w'.cell? ⟨p,2,none⟩=some x2/\w'.cell? ⟨b1,o1,none⟩=some (.bool false)/\w'.cell? ⟨b1,o1+1,none⟩=some y1/\w'.cell? ⟨b1,o1+2,none⟩=some y2/\Below W1.heap.size W1 w')) [] (by kernel_rfl) HS0.out (fun hHeld=>?_);refine tk 0 16 ?_;refine tk 1 17 ?_;refine tk 2 18 ?_;refine tk 3 19 ?_;refine tk 4 20 ?_;refine readyT (rs:=[5,9]) (by kernel_rfl) (by simp) ?_;refine zC rfl (fun K hK=>?_) ?_
   ·go_simp;(go_at_call 169;refine(HT.out _ (by assumption)).mono ?_;rintro e w5 ⟨un,um,rfl,hun,hum,hb5⟩);obtain⟨A3,N3,e3,rfl⟩:=hun.frm;obtain⟨A4,N4,e4,rfl⟩:=hum.frm;go_wp2_with fail;refine hK.out _ _ ?_ (fun hHeld=>?_)
    ·(first|(with_reducible assumption)|exact HeldO.set3 (by assumption) hyb HQP.out.1 HQP.out.2|exact HeldO.below (by assumption) hb5 HQP.out.1 HQP.out.2|exact HeldO.below (by assumption) hby HQP.out.1 HQP.out.2)
    clear hK K;(try simp only[Act.put,z1,z2,z3]);refine tk 6 15 ?_;refine tk 7 22 ?_;refine tk 8 23 ?_;refine rd1 9 (fun K hK=>?_);go_simp;obtain⟨y,hy⟩:=zx w5.heap.size;obtain⟨WY,hWY⟩:=zx (w5.alloc (.cells #[.bool false,.slice none 0 0,.slice none 0 0] 26));rw[<-hWY,<-hy]
    have hyk:WY.heap[y]?=some (.cells #[.bool false,.slice none 0 0,.slice none 0 0] 26 (0,0)):=by rw[hWY,hy];exact zN _ _
    have hby:Below (w5).heap.size (w5) WY:=by rw[hWY];exact(show Below (w5).heap.size (w5) ((w5).alloc _) from(zB _ _).alloc (zR _) _)
    have hyl:y<WY.heap.size:=(zA.1 hyk).1
    have hyb:W1.heap.size<=y:=by rw[hy];exact(HeldO.bl (p:=p) (b:=b1) (o:=o1) hHeld).size
    have hun:=hun.keep (fun b hb=>hby.block b hb.2);have hum:=hum.keep (fun b hb=>hby.block b hb.2)
    have hyn:∀b,Fr W1.heap.size w5.heap.size b->b≠y:=fun b hb e=>by have:=hb.2;omega
    have hys:w5.heap.size<=WY.heap.size:=hby.size;clear hWY hy;refine hK.out _ _ ?_ (fun hHeld=>?_)
    ·(first|(with_reducible assumption)|exact HeldO.set3 (by assumption) hyb HQP.out.1 HQP.out.2|exact HeldO.below (by assumption) hb5 HQP.out.1 HQP.out.2|exact HeldO.below (by assumption) hby HQP.out.1 HQP.out.2)
    clear hK K;(try simp only[Act.put,z1,z2,z3]);refine rd1 10 (fun K hK=>?_);obtain⟨z0,z1,z2,zf0,zf1,zf2⟩:=cells3 hyk;go_simp;refine hK.out _ _ ?_ (fun hHeld=>?_)
    ·(first|(with_reducible assumption)|exact HeldO.set3 (by assumption) hyb HQP.out.1 HQP.out.2|exact HeldO.below (by assumption) hb5 HQP.out.1 HQP.out.2|exact HeldO.below (by assumption) hby HQP.out.1 HQP.out.2)
    clear hK K;(try simp only[Act.put,z1,z2,z3]);refine tk 11 7 ?_;refine doneT (by kernel_rfl) ?_ _;have hbX:Below W1.heap.size W1 WY:=HeldO.bl (p:=p) (b:=b1) (o:=o1) (by assumption);have hXY:=box3' hyk hbX hyb (.bool false) (.slice A3 N3 e3) (.slice A4 N4 e4);have hun2:=(hun.keep (kept_set3 WY y (.bool false) (.slice A3 N3 e3) (.slice A4 N4 e4) _ hyn));have hum2:=(hum.keep (kept_set3 WY y (.bool false) (.slice A3 N3 e3) (.slice A4 N4 e4) _ hyn))
    have hsz:(((WY.setCell ⟨y,0,none⟩ (.bool false)).setCell ⟨y,1,none⟩ (.slice A3 N3 e3)).setCell ⟨y,2,none⟩ (.slice A4 N4 e4)).heap.size=WY.heap.size:=by simp
    obtain⟨W4,hW4⟩:=zx (((WY.setCell ⟨y,0,none⟩ (.bool false)).setCell ⟨y,1,none⟩ (.slice A3 N3 e3)).setCell ⟨y,2,none⟩ (.slice A4 N4 e4));rw[<-hW4] at hXY hun2 hum2 hsz ⊢;have HUN:=zh (show LS W4 (Fr W1.heap.size W4.heap.size) (.slice A3 N3 e3) (natL c) from hun2.mono (fun b hb=>⟨hb.1,by rw[hsz];exact zM hb.2 hys⟩));have HUM:=zh (show LS W4 (Fr W1.heap.size W4.heap.size) (.slice A4 N4 e4) (natL d) from hum2.mono (fun b hb=>⟨hb.1,by rw[hsz];exact zM hb.2 hys⟩));have HXY:=zh hXY
    have hyp:y≠p:=by have:=HQP.out.1;omega
    have HYL:=zh (show W1.heap.size<=y from hyb);clear hun hum hun2 hum2 hsz hXY hbX hHeld hyk hyn hys hb5 hby z0 z1 z2 zf0 zf1 zf2 hW4 hyl hyb;obtain⟨z0,z1,z2,-⟩:=cells3 HXY.out.1;have hpk5:=(HXY.out.2.1.block p HQP.out.1).trans HPK.out;obtain⟨l0,l1,l2,lf0,lf1,lf2⟩:=cells3 hpk5;have HPK5:=zh hpk5;clear hpk5;go_wp2_with fail;have hX:=box3' HPK5.out (HBW.out.trans (HXY.out.2.1.mono HBW.out.size)) HGP.out.2.1 (.bool false) (.slice A3 N3 e3) (.slice A4 N4 e4);go_roundg 0
    case measure=>omega
    case rel =>
     refine .inr ⟨rfl,rfl,hX.2.1,?_,⟨_,_,hX.1,?_,?_⟩⟩
     ·exact(hX.2.2 g HGP.out.1).trans ((HXY.out.2.1.block g HGP.out.2.2).trans HGK.out)
     ·exact(HUN.out.keep (kept_set3 W4 p _ _ _ _ (fun b hb e=>by have:=hb.1;have:=HQP.out.1;omega))).mono (Fr.wider (zR _) (by simp))
     ·exact(HUM.out.keep (kept_set3 W4 p _ _ _ _ (fun b hb e=>by have:=hb.1;have:=HQP.out.1;omega))).mono (Fr.wider (zR _) (by simp))
   refine zC rfl (fun K hK=>?_) ?_
   ·go_simp;obtain⟨y,hy⟩:=zx W1.heap.size;obtain⟨WY,hWY⟩:=zx ((W1.alloc (.cells #[.bool false,.slice none 0 0,.slice none 0 0] 26)).drew);rw[<-hWY,<-hy]
    have hyk:WY.heap[y]?=some (.cells #[.bool false,.slice none 0 0,.slice none 0 0] 26 (0,0)):=by rw[hWY,hy];exact zN _ _
    have hby:Below (W1.drew).heap.size (W1.drew) WY:=by rw[hWY];exact(show Below (W1.drew).heap.size (W1.drew) ((W1.drew).alloc _) from(zB _ _).alloc (zR _) _)
    have hyl:y<WY.heap.size:=(zA.1 hyk).1
    have hyb:W1.heap.size<=y:=by rw[hy];exact zR _
    clear hWY hy;refine hK.out _ _ ?_ (fun hHeld=>?_)
    ·(first|(with_reducible assumption)|exact HeldO.set3 (by assumption) hyb HQP.out.1 HQP.out.2|exact HeldO.below (by assumption) hb5 HQP.out.1 HQP.out.2|exact HeldO.below (by assumption) hby HQP.out.1 HQP.out.2)
    clear hK K;(try simp only[Act.put,z1,z2,z3]);refine rd1 5 (fun K hK=>?_);go_simp;(go_at_call 169;refine(HT.out _ (by assumption)).mono ?_;rintro e w5 ⟨un,um,rfl,hun,hum,hb5⟩);obtain⟨A3,N3,e3,rfl⟩:=hun.frm;obtain⟨A4,N4,e4,rfl⟩:=hum.frm;have hyk:=(hb5.block y hyl).trans hyk
    have hyn:∀b,Fr WY.heap.size w5.heap.size b->b≠y:=fun b hb e=>by have:=hb.1;omega
    have hys:WY.heap.size<=w5.heap.size:=hb5.size;have hyl2:=zM hyl hb5.size;go_wp2_with fail;refine hK.out _ _ ?_ (fun hHeld=>?_)
    ·(first|(with_reducible assumption)|exact HeldO.set3 (by assumption) hyb HQP.out.1 HQP.out.2|exact HeldO.below (by assumption) hb5 HQP.out.1 HQP.out.2|exact HeldO.below (by assumption) hby HQP.out.1 HQP.out.2)
    clear hK K;(try simp only[Act.put,z1,z2,z3]);refine tk 6 15 ?_;refine tk 7 22 ?_;refine tk 8 23 ?_;refine rd1 10 (fun K hK=>?_);obtain⟨z0,z1,z2,zf0,zf1,zf2⟩:=cells3 hyk;go_simp;refine hK.out _ _ ?_ (fun hHeld=>?_)
    ·(first|(with_reducible assumption)|exact HeldO.set3 (by assumption) hyb HQP.out.1 HQP.out.2|exact HeldO.below (by assumption) hb5 HQP.out.1 HQP.out.2|exact HeldO.below (by assumption) hby HQP.out.1 HQP.out.2)
    clear hK K;(try simp only[Act.put,z1,z2,z3]);refine tk 11 7 ?_;refine doneT (by kernel_rfl) ?_ _;have hbX:Below W1.heap.size W1 w5:=HeldO.bl (p:=p) (b:=b1) (o:=o1) (by assumption);have hXY:=box3' hyk hbX hyb (.bool false) (.slice A3 N3 e3) (.slice A4 N4 e4);have hun2:=(hun.keep (kept_set3 w5 y (.bool false) (.slice A3 N3 e3) (.slice A4 N4 e4) _ hyn));have hum2:=(hum.keep (kept_set3 w5 y (.bool false) (.slice A3 N3 e3) (.slice A4 N4 e4) _ hyn))
    have hsz:(((w5.setCell ⟨y,0,none⟩ (.bool false)).setCell ⟨y,1,none⟩ (.slice A3 N3 e3)).setCell ⟨y,2,none⟩ (.slice A4 N4 e4)).heap.size=w5.heap.size:=by simp
    obtain⟨W4,hW4⟩:=zx (((w5.setCell ⟨y,0,none⟩ (.bool false)).setCell ⟨y,1,none⟩ (.slice A3 N3 e3)).setCell ⟨y,2,none⟩ (.slice A4 N4 e4));rw[<-hW4] at hXY hun2 hum2 hsz ⊢;have HUN:=zh (show LS W4 (Fr W1.heap.size W4.heap.size) (.slice A3 N3 e3) (natL c) from hun2.mono (fun b hb=>⟨by have:=hb.1;have:=hby.size;exact Nat.le_trans hby.size hb.1,by rw[hsz];exact hb.2⟩));have HUM:=zh (show LS W4 (Fr W1.heap.size W4.heap.size) (.slice A4 N4 e4) (natL d) from hum2.mono (fun b hb=>⟨by have:=hb.1;have:=hby.size;exact Nat.le_trans hby.size hb.1,by rw[hsz];exact hb.2⟩));have HXY:=zh hXY
    have hyp:y≠p:=by have:=HQP.out.1;omega
    have HYL:=zh (show W1.heap.size<=y from hyb);clear hun hum hun2 hum2 hsz hXY hbX hHeld hyk hyn hys hb5 hby hyl2 z0 z1 z2 zf0 zf1 zf2 hW4 hyl hyb;obtain⟨z0,z1,z2,-⟩:=cells3 HXY.out.1;have hpk5:=(HXY.out.2.1.block p HQP.out.1).trans HPK.out;obtain⟨l0,l1,l2,lf0,lf1,lf2⟩:=cells3 hpk5;have HPK5:=zh hpk5;clear hpk5;go_wp2_with fail;have hX:=box3' HPK5.out (HBW.out.trans (HXY.out.2.1.mono HBW.out.size)) HGP.out.2.1 (.bool false) (.slice A3 N3 e3) (.slice A4 N4 e4);go_roundg 0
    case measure=>omega
    case rel =>
     refine .inr ⟨rfl,rfl,hX.2.1,?_,⟨_,_,hX.1,?_,?_⟩⟩
     ·exact(hX.2.2 g HGP.out.1).trans ((HXY.out.2.1.block g HGP.out.2.2).trans HGK.out)
     ·exact(HUN.out.keep (kept_set3 W4 p _ _ _ _ (fun b hb e=>by have:=hb.1;have:=HQP.out.1;omega))).mono (Fr.wider (zR _) (by simp))
     ·exact(HUM.out.keep (kept_set3 W4 p _ _ _ _ (fun b hb e=>by have:=hb.1;have:=HQP.out.1;omega))).mono (Fr.wider (zR _) (by simp))
   exact zE
  ·obtain⟨un,um,hpk2,hun,hum⟩:=hpk.out;obtain⟨A3,N3,e3,rfl⟩:=hun.frm;obtain⟨A4,N4,e4,rfl⟩:=hum.frm;obtain⟨k0,k1,k2,-⟩:=cells3 hpk2;obtain⟨m0,m1,m2,f0,f1,f2⟩:=cells3 hgk.out
   have hgw:w.heap.size<=g:=by rw[HGQ.out];exact zR _
   have hs:=HGP.out.2.2;have hs1:=HBW.out.size;have HX:=zh (box3 hgk.out hbr.out hgw (.bool false) (.slice A3 N3 e3) (.slice A4 N4 e4) hun (fun b hb=>⟨by have:=hb.1;omega,by have:=hb.1;omega,hb.2⟩) hum (fun b hb=>⟨by have:=hb.1;omega,by have:=hb.1;omega,hb.2⟩))
   have hgp:p≠g:=fun e=>HGP.out.1 e.symm
   clear hpk hun hum hpk2 hbr hgk hgw hs hs1;go_wp2_with fail;obtain⟨Wf,hWf⟩:=zx (((wr.setCell ⟨g,0,none⟩ (.bool false)).setCell ⟨g,1,none⟩ (.slice A3 N3 e3)).setCell ⟨g,2,none⟩ (.slice A4 N4 e4));obtain⟨x0,x1',x2',hl1,hl2,hbf⟩:=HX.out Wf hWf;rw[<-hWf];clear hWf m0 m1 m2 k0 k1 k2;exact bodyPost_ret (v:=.tuple #[.agg #[.bool false,.slice A3 N3 e3,.slice A4 N4 e4],.int .i64 0]) (by simp[results,Tryz.results145,go_sem,x0,x1',x2']) rfl ⟨_,_,rfl,hl1,hl2,hbf⟩
end Go.Proofs.YtgfaieppacabjaaGreat
