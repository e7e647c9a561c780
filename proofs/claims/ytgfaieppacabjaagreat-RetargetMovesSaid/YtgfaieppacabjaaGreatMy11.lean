/- Small fractions of the program: sums with nought, the test against 1, walked. -/
import Derived.Test.YtgfaieppacabjaaGreatMy10
set_option linter.unusedSectionVars false
set_option maxRecDepth 100000
set_option maxHeartbeats 12800000
namespace Go.Proofs.YtgfaieppacabjaaGreat
open Go.RowKit
set_option linter.unusedVariables false
set_option linter.unusedSimpArgs false
theorem nadd0_any(va vb:Value)(m:Nat)(w:World)(ha:LS w (Bl w.heap.size) va (natL 0))(hb:LS w (Bl w.heap.size) vb (natL m))(hm:0<m) :
  Calls Tryz.prog 164 #[va,vb] w fun e w'=>∃u,e=.returned (.tuple #[u,.int .i64 0])/\LS w' (Fr w.heap.size w'.heap.size) u (natL m)/\Below w.heap.size w w':=by
 have HLA:=zh (nlarge_any va _ _ w ha (by simp[natL_zero]));have HLB:=zh (nlarge_any vb _ _ w hb (by have:=natL_length m;omega));have HA:=zh (fun k=>nlength_any va _ _ (w.drewN k) ha (by simp[natL_zero]));have HB:=zh (fun k=>nlength_any vb _ _ (w.drewN k) hb (by have:=natL_length m;omega));rw[trim_natL] at HA HB;have hm32:=hb.lt32
 have lm:(natL m).length=1:=by rw[natL_pos hm];rfl
 obtain⟨B,d,rfl,-,-⟩:=hb.form;obtain⟨-,-,-,-,hd0,-⟩:=hb.cap (by rw[lm];omega);rw[lm] at hb HB HLB hd0 ⊢
 have hd1:(1:Int)<=(d:Int):=by omega
 obtain⟨b2,o2,rfl,hR2,hc2⟩:=hb.one hm;have HC2:=zh hc2;have HR2:=zh hR2;have hmk2:=mk_u32s2;have HA0:=zh (show ∀k,Calls Tryz.prog 159 #[va] (w.drewN k) fun e w'=>e=.returned (.int .i64 0)/\w.drewN k=w' from HA.out);have HB0:=zh (show ∀k,Calls Tryz.prog 159 #[.slice (some ⟨b2,o2,none⟩) 1 d] (w.drewN k) fun e w'=>e=.returned (.int .i64 1)/\w.drewN k=w' from HB.out);clear hb lm hc2 hR2 hd0 HB HA;rcases ha.1 with ⟨rfl,-⟩ | ⟨b1,o1,c,hva,-,-,-,-⟩
 ·clear ha;go_enter Tryz.func164,Tryz.ntmps164;go_wp2_with fail;refine HLA.out.mono ?_;rintro e w1 ⟨rfl,rfl⟩;go_wp2_with fail;refine HLB.out.mono ?_;rintro e w1 ⟨rfl,rfl⟩;go_wp2_with fail
  go_quiet (first | with_reducible exact Calls.quiet_of_same ((HA0.out _).mono fun _ _ h=>⟨h.1,h.2.symm⟩) | with_reducible exact Calls.quiet_of_same ((HB0.out _).mono fun _ _ h=>⟨h.1,h.2.symm⟩))
  obtain⟨W,hW⟩:=zx (w.drewN nq);rw[<-hW]
  have hbW:Below w.heap.size w W:=by rw[hW];exact Below.drewN' (zB _ _) nq
  have HBW:=zh hbW;clear hbW hW;obtain⟨W3,hW3⟩:=zx (W.alloc (.cells #[.int .u32 0,.int .u32 0] 107));obtain⟨g,hg⟩:=zx W.heap.size
  have hg3:W3.heap[g]?=some (.cells #[.int .u32 0,.int .u32 0] 107 (0,0)):=by rw[hW3,hg];exact zN _ _
  have HB3:=zh (show Below w.heap.size w W3 from by rw[hW3];exact HBW.out.alloc HBW.out.size _);have HG:=zh (show w.heap.size<=g from by rw[hg];exact HBW.out.size);have k2:W3.cell? ⟨b2,o2,none⟩=some (.int .u32 (m:Int)):=(HB3.out.cell (p:=⟨b2,o2,none⟩) HR2.out).trans HC2.out
  have kg0:W3.cell? ⟨g,0,none⟩=some (.int .u32 0):=by rw[cell_of_row _ _ _ _ _ _ hg3];rfl
  have kf0:W3.frozen? ⟨g,0,none⟩=false:=frozen_of_row _ _ _ _ _ hg3;have HG3:=zh hg3;have HW3:=zh hW3;have HGW:=zh hg
  have m0:(0:Int)<=(m:Int):=by omega
  have m1:(m:Int)<4294967296:=by omega
  have hdiv:(m:Int) / 4294967296=0:=by omega
  clear hg3 hW3 hg;go_upto_region 7 with fail;rw[<-HGW.out,<-HW3.out];clear hmk2;go_wp2_with fail;go_loopg [7,8,36] 1 (fun z v7 v8 v36 wr=>(z=1/\v36=.int .i64 0/\v7=.int .u64 0/\W3=wr)\/(z=0/\v36=.int .i64 1/\v7=.int .u64 0/\Hid (wr.heap[g]?=some (.cells #[.int .u32 (m:Int),.int .u32 0] 107 (0,0)))/\Hid (Below w.heap.size w wr)))
  case atStart=>exact .inl ⟨rfl,rfl,rfl,rfl⟩
  case round =>
   rcases hrel with ⟨rfl,rfl,rfl,rfl⟩ | ⟨rfl,rfl,rfl,hgc,hbr⟩
   ·go_wp2_with fail;go_roundg 0
    case measure=>omega
    case rel=>exact .inr ⟨rfl,rfl,rfl,heap_setCell_same W3 g 0 _ _ _ HG3.out,HB3.out.setCell HG.out _⟩
   ·clear k2 kg0 kf0
    have kg1:wr.cell? ⟨g,1,none⟩=some (.int .u32 0):=by rw[cell_of_row _ _ _ _ _ _ hgc.out];rfl
    have kf1:wr.frozen? ⟨g,1,none⟩=false:=frozen_of_row _ _ _ _ _ hgc.out;obtain⟨W4,hW4⟩:=zx (wr.setCell ⟨g,1,none⟩ (.int .u32 0))
    have hg4:W4.heap[g]?=some (.cells #[.int .u32 (m:Int),.int .u32 0] 107 (0,0)):=by rw[hW4];exact heap_setCell_same wr g 1 _ _ _ hgc.out
    have HB4:=zh (show Below w.heap.size w W4 from by rw[hW4];exact hbr.out.setCell HG.out _);have hgl:g<W4.heap.size:=(zA.1 hg4).1;have hls:LS W4 (Bl W4.heap.size) (.slice (some ⟨g,0,none⟩) 2 2) [m,0]:=LS.cell2 W4 g m (by omega) hg4 _ hgl;have HS:=zh (nsized_any _ _ _ _ _ W4 hls (by simp) (by simp))
    have hr:=((hls.take (natL m).length (natL m).length (by have:=natL_length m;simp;omega) (zR _) (by have:=natL_length m;unfold maxLen;omega) (by simp)).only (R':=Fr w.heap.size W4.heap.size) (fun b o hb=>by
     injection hb with hb;injection hb with hb;rw[<-hb]
     exact⟨HG.out,hgl⟩))
    rw[trim_zero2] at HS
    have ht:[m,0].take (natL m).length=natL m:=by rw[natL_pos hm];rfl
    rw[ht] at hr;have HR:=zh hr;have HW4:=zh hW4;clear hls hr ht hgc hbr hgl hg4 hW4;go_upto_region 18 with fail;rw[<-HW4.out];clear kg1 kf1;go_wp2_with fail;refine HS.out.mono ?_;rintro e w4 ⟨rfl,rfl⟩;go_wp2_with fail;go_ret2;exact⟨_,rfl,HR.out,HB4.out⟩
 ·have hva2:va=.slice (some ⟨b1,o1,none⟩) 0 c:=hva;subst hva2;clear ha hva;go_enter Tryz.func164,Tryz.ntmps164;go_wp2_with fail;refine HLA.out.mono ?_;rintro e w1 ⟨rfl,rfl⟩;go_wp2_with fail;refine HLB.out.mono ?_;rintro e w1 ⟨rfl,rfl⟩;go_wp2_with fail
  go_quiet (first | with_reducible exact Calls.quiet_of_same ((HA0.out _).mono fun _ _ h=>⟨h.1,h.2.symm⟩) | with_reducible exact Calls.quiet_of_same ((HB0.out _).mono fun _ _ h=>⟨h.1,h.2.symm⟩))
  obtain⟨W,hW⟩:=zx (w.drewN nq);rw[<-hW]
  have hbW:Below w.heap.size w W:=by rw[hW];exact Below.drewN' (zB _ _) nq
  have HBW:=zh hbW;clear hbW hW;obtain⟨W3,hW3⟩:=zx (W.alloc (.cells #[.int .u32 0,.int .u32 0] 107));obtain⟨g,hg⟩:=zx W.heap.size
  have hg3:W3.heap[g]?=some (.cells #[.int .u32 0,.int .u32 0] 107 (0,0)):=by rw[hW3,hg];exact zN _ _
  have HB3:=zh (show Below w.heap.size w W3 from by rw[hW3];exact HBW.out.alloc HBW.out.size _);have HG:=zh (show w.heap.size<=g from by rw[hg];exact HBW.out.size);have k2:W3.cell? ⟨b2,o2,none⟩=some (.int .u32 (m:Int)):=(HB3.out.cell (p:=⟨b2,o2,none⟩) HR2.out).trans HC2.out
  have kg0:W3.cell? ⟨g,0,none⟩=some (.int .u32 0):=by rw[cell_of_row _ _ _ _ _ _ hg3];rfl
  have kf0:W3.frozen? ⟨g,0,none⟩=false:=frozen_of_row _ _ _ _ _ hg3;have HG3:=zh hg3;have HW3:=zh hW3;have HGW:=zh hg
  have m0:(0:Int)<=(m:Int):=by omega
  have m1:(m:Int)<4294967296:=by omega
  have hdiv:(m:Int) / 4294967296=0:=by omega
  clear hg3 hW3 hg;go_upto_region 7 with fail;rw[<-HGW.out,<-HW3.out];clear hmk2;go_wp2_with fail;go_loopg [7,8,36] 1 (fun z v7 v8 v36 wr=>(z=1/\v36=.int .i64 0/\v7=.int .u64 0/\W3=wr)\/(z=0/\v36=.int .i64 1/\v7=.int .u64 0/\Hid (wr.heap[g]?=some (.cells #[.int .u32 (m:Int),.int .u32 0] 107 (0,0)))/\Hid (Below w.heap.size w wr)))
  case atStart=>exact .inl ⟨rfl,rfl,rfl,rfl⟩
  case round =>
   rcases hrel with ⟨rfl,rfl,rfl,rfl⟩ | ⟨rfl,rfl,rfl,hgc,hbr⟩
   ·go_wp2_with fail;go_roundg 0
    case measure=>omega
    case rel=>exact .inr ⟨rfl,rfl,rfl,heap_setCell_same W3 g 0 _ _ _ HG3.out,HB3.out.setCell HG.out _⟩
   ·clear k2 kg0 kf0
    have kg1:wr.cell? ⟨g,1,none⟩=some (.int .u32 0):=by rw[cell_of_row _ _ _ _ _ _ hgc.out];rfl
    have kf1:wr.frozen? ⟨g,1,none⟩=false:=frozen_of_row _ _ _ _ _ hgc.out;obtain⟨W4,hW4⟩:=zx (wr.setCell ⟨g,1,none⟩ (.int .u32 0))
    have hg4:W4.heap[g]?=some (.cells #[.int .u32 (m:Int),.int .u32 0] 107 (0,0)):=by rw[hW4];exact heap_setCell_same wr g 1 _ _ _ hgc.out
    have HB4:=zh (show Below w.heap.size w W4 from by rw[hW4];exact hbr.out.setCell HG.out _);have hgl:g<W4.heap.size:=(zA.1 hg4).1;have hls:LS W4 (Bl W4.heap.size) (.slice (some ⟨g,0,none⟩) 2 2) [m,0]:=LS.cell2 W4 g m (by omega) hg4 _ hgl;have HS:=zh (nsized_any _ _ _ _ _ W4 hls (by simp) (by simp))
    have hr:=((hls.take (natL m).length (natL m).length (by have:=natL_length m;simp;omega) (zR _) (by have:=natL_length m;unfold maxLen;omega) (by simp)).only (R':=Fr w.heap.size W4.heap.size) (fun b o hb=>by
     injection hb with hb;injection hb with hb;rw[<-hb]
     exact⟨HG.out,hgl⟩))
    rw[trim_zero2] at HS
    have ht:[m,0].take (natL m).length=natL m:=by rw[natL_pos hm];rfl
    rw[ht] at hr;have HR:=zh hr;have HW4:=zh hW4;clear hls hr ht hgc hbr hgl hg4 hW4;go_upto_region 18 with fail;rw[<-HW4.out];clear kg1 kf1;go_wp2_with fail;refine HS.out.mono ?_;rintro e w4 ⟨rfl,rfl⟩;go_wp2_with fail;go_ret2;exact⟨_,rfl,HR.out,HB4.out⟩
theorem fadd0_any(xn xd yn yd:Value)(b c d:Nat)(w:World)(hxn:LS w (Bl w.heap.size) xn (natL 0))(hxd:LS w (Bl w.heap.size) xd (natL b))(hyn:LS w (Bl w.heap.size) yn (natL c))(hyd:LS w (Bl w.heap.size) yd (natL d))(h0b:0<b)(h0c:0<c)(h0d:0<d)(h2:c*b<4294967296)(h3:b*d<4294967296)(hg:Nat.gcd (c*b) (b*d)=1) :
  Calls Tryz.prog 133 #[.agg #[.bool false,xn,xd],.agg #[.bool false,yn,yd]] w fun e w'=>∃un um,e=.returned (.tuple #[.agg #[.bool false,un,um],.int .i64 0])/\LS w' (Fr w.heap.size w'.heap.size) un (natL (c*b))/\LS w' (Fr w.heap.size w'.heap.size) um (natL (b*d))/\Below w.heap.size w w':=by
 obtain⟨An,Nn,cn,rfl⟩:=hxn.frm;obtain⟨Ad,Nd,cd,rfl⟩:=hxd.frm;obtain⟨Bn,Mn,dn,rfl⟩:=hyn.frm;obtain⟨Bd,Md,dd,rfl⟩:=hyd.frm;obtain⟨W0,hW0⟩:=zx (((w.alloc (.cells #[.bool false,.slice An Nn cn,.slice Ad Nd cd] 26)).alloc (.cells #[.bool false,.slice Bn Mn dn,.slice Bd Md dd] 26)).alloc (.cells #[.bool false,.slice none 0 0,.slice none 0 0] 26));obtain⟨q,hq⟩:=zx w.heap.size;obtain⟨p,hp⟩:=zx (w.heap.size+1);obtain⟨g,hgq⟩:=zx (w.heap.size+1+1)
 have hb0:Below w.heap.size w W0:=by rw[hW0];exact(((zB _ _).alloc (zR _) _).alloc (by simp) _).alloc (by simp;omega) _
 have hgk:W0.heap[g]?=some (.cells #[.bool false,.slice none 0 0,.slice none 0 0] 26 (0,0)):=by
  rw[hW0];exact heap_alloc_at _ _ _ (by rw[hgq];simp)
 have hpk:W0.heap[p]?=some (.cells #[.bool false,.slice Bn Mn dn,.slice Bd Md dd] 26 (0,0)):=by
  rw[hW0];exact(zH _ _ _ (by rw[hp];simp)).trans (heap_alloc_at _ _ _ (by rw[hp];simp))
 have hqk:W0.heap[q]?=some (.cells #[.bool false,.slice An Nn cn,.slice Ad Nd cd] 26 (0,0)):=by
  rw[hW0,hq];exact(zH _ _ _ (by simp;omega)).trans ((zH _ _ _ (by simp)).trans (zN w _))
 have hgl:g<W0.heap.size:=(zA.1 hgk).1;have hpl:p<W0.heap.size:=(zA.1 hpk).1;have hql:q<W0.heap.size:=(zA.1 hqk).1;obtain⟨c0,c1,c2,-⟩:=cells3 hqk;obtain⟨d0,d1,d2,-⟩:=cells3 hpk;obtain⟨x1,hx1⟩:=zx (Value.slice An Nn cn);obtain⟨x2,hx2⟩:=zx (Value.slice Ad Nd cd);obtain⟨y1,hy1⟩:=zx (Value.slice Bn Mn dn);obtain⟨y2,hy2⟩:=zx (Value.slice Bd Md dd);have H1:=zh (hxn.below hb0);have H2:=zh (hxd.below hb0);have H3:=zh (hyn.below hb0);have H4:=zh (hyd.below hb0);have HW0:=zh hW0;have HQ:=zh (show q=w.heap.size/\p=w.heap.size+1/\g=w.heap.size+1+1 from⟨hq,hp,hgq⟩);have HGL:=zh (show g<W0.heap.size/\g=w.heap.size+1+1 from⟨hgl,hgq⟩);have HBK:=zh hgk;have HQP:=zh (show q<W0.heap.size/\p<W0.heap.size from⟨hql,hpl⟩);have HB0:=zh hb0;clear hW0 hq hp hb0 hpk hqk hpl hql hxn hxd hyn hyd hgl hgk hgq;go_enter Tryz.func133,Tryz.ntmps133;go_wp2_with fail;rw[<-HW0.out,<-HQ.out.2.2,<-HQ.out.2.1,<-HQ.out.1];clear HW0 HQ;rw[<-hx1] at H1 c1 ⊢;rw[<-hx2] at H2 c2 ⊢;rw[<-hy1] at H3 d1 ⊢;rw[<-hy2] at H4 d2 ⊢;have HH0:=zh (show HeldF W0 q p (.bool false) x1 x2 (.bool false) y1 y2 W0 from⟨c0,c1,c2,d0,d1,d2,zB _ _⟩);have HT1:=zh (fun W (h:HeldF W0 q p (.bool false) x1 x2 (.bool false) y1 y2 W)=>ftimes_any x1 y2 0 d W (h.ls H1.out) (h.ls H4.out) h0d (by omega));have HT2:=zh (fun W (h:HeldF W0 q p (.bool false) x1 x2 (.bool false) y1 y2 W)=>ftimes_any y1 x2 c b W (h.ls H3.out) (h.ls H2.out) h0b h2);have HT3:=zh (fun W (h:HeldF W0 q p (.bool false) x1 x2 (.bool false) y1 y2 W)=>ftimes_any x2 y2 b d W (h.ls H2.out) (h.ls H4.out) h0d h3);clear hx1 hx2 hy1 hy2 c0 c1 c2 d0 d1 d2 h2 h3;refine(fvalid_any false _ _ 0 b W0 H1.out H2.out h0b).mono ?_;rintro e w1 ⟨rfl,hb1⟩;have hh1:=HH0.out.below hb1 HQP.out.1 HQP.out.2;obtain⟨c0,c1,c2,d0,d1,d2,-⟩:=hh1;have HH1:=zh (HH0.out.below hb1 HQP.out.1 HQP.out.2);clear hb1;go_wp2_with fail;refine(fvalid_any false _ _ c d w1 (HH1.out.ls H3.out) (HH1.out.ls H4.out) h0d).mono ?_;rintro e w2 ⟨rfl,hb2⟩;have HS0:=zh (show HeldF W0 q p (.bool false) x1 x2 (.bool false) y1 y2 w2.drew from(by obtain⟨a1,a2,a3,a4,a5,a6,a7⟩:=HH1.out.below hb2 HQP.out.1 HQP.out.2;exact⟨a1,a2,a3,a4,a5,a6,a7.drew⟩));clear hb2 c0 c1 c2 d0 d1 d2;go_upto_region 3 with fail;refine region_tail (S:=(fun w'=>w'.cell? ⟨q,0,none⟩=some (.bool false)/\w'.cell? ⟨q,1,none⟩=some x1/\w'.cell? ⟨q,2,none⟩=some x2/\w'.cell? ⟨p,0,none⟩=some (.bool false)/\w'.cell? ⟨p,1,none⟩=some y1/\w'.cell? ⟨p,2,none⟩=some y2/\Below W0.heap.size W0 w')) [] (by kernel_rfl) HS0.out (fun hHeld=>?_);refine tk 0 24 ?_;refine tk 1 25 ?_;refine tk 2 26 ?_;refine tk 3 27 ?_;refine tk 5 29 ?_;refine tk 6 30 ?_;refine tk 7 31 ?_;refine tk 8 32 ?_;refine tk 10 34 ?_;refine tk 11 35 ?_;refine tk 12 36 ?_;refine tk 13 37 ?_;refine readyT (rs:=[4]) (by kernel_rfl) (by simp) ?_;refine zC rfl (fun K hK=>?_) ?_
 ·go_simp;(go_at_call 129;refine(HT1.out _ (by assumption)).mono ?_;rintro e w5 ⟨u5,rfl,hu5,hb5⟩);go_wp2_with fail;refine hK.out _ _ ?_ (fun hHeld=>?_)
  ·(first|exact HeldF.below (by assumption) hb7 HQP.out.1 HQP.out.2|exact HeldF.below (by assumption) hb6 HQP.out.1 HQP.out.2|exact HeldF.below (by assumption) hb5 HQP.out.1 HQP.out.2)
  clear hK K;(try simp only[Act.put,z1,z2,z3]);refine readyT (rs:=[9]) (by kernel_rfl) (by simp) ?_;refine zC rfl (fun K hK=>?_) ?_
  ·go_simp;(go_at_call 129;refine(HT2.out _ (by assumption)).mono ?_;rintro e w6 ⟨u6,rfl,hu6,hb6⟩);go_wp2_with fail;refine hK.out _ _ ?_ (fun hHeld=>?_)
   ·(first|exact HeldF.below (by assumption) hb7 HQP.out.1 HQP.out.2|exact HeldF.below (by assumption) hb6 HQP.out.1 HQP.out.2|exact HeldF.below (by assumption) hb5 HQP.out.1 HQP.out.2)
   clear hK K;(try simp only[Act.put,z1,z2,z3]);refine readyT (rs:=[14]) (by kernel_rfl) (by simp) ?_;refine zC rfl (fun K hK=>?_) ?_
   ·go_simp;(go_at_call 129;refine(HT3.out _ (by assumption)).mono ?_;rintro e w7 ⟨u7,rfl,hu7,hb7⟩);go_wp2_with fail;refine hK.out _ _ ?_ (fun hHeld=>?_)
    ·(first|exact HeldF.below (by assumption) hb7 HQP.out.1 HQP.out.2|exact HeldF.below (by assumption) hb6 HQP.out.1 HQP.out.2|exact HeldF.below (by assumption) hb5 HQP.out.1 HQP.out.2)
    clear hK K;(try simp only[Act.put,z1,z2,z3]);refine tk 15 6 ?_;refine tk 16 7 ?_;refine tk 17 8 ?_;refine doneT (by kernel_rfl) ?_ _;have HBZ:=zh (HeldF.bl (q:=q) (p:=p) (by assumption));obtain⟨d0,d1,d2,e0,e1,e2,-⟩:=hHeld;have HU5:=zh ((hu5.bel hb6).bel hb7);have HU6:=zh (hu6.bel hb7);have HU7:=zh hu7;clear hu5 hu6 hu7 hb5 hb6 hb7;rw[Nat.zero_mul] at HU5;have HA:=zh (nadd0_any u5 u6 (c*b) w7 (HU5.out.mono Fr.bl) (HU6.out.mono Fr.bl) (Nat.mul_pos h0c h0b));obtain⟨W7,hW7⟩:=zx w7;go_wp2_with fail;refine HA.out.mono ?_;rintro e w8 ⟨u8,rfl,hu8,hb8⟩;have HU8:=zh hu8;have HU78:=zh (HU7.out.bel hb8);have hb08:=HBZ.out.trans (hb8.mono HBZ.out.size);have l0:w8.cell? ⟨q,0,none⟩=some (.bool false):=(hb8.cell (p:=⟨q,0,none⟩) (zM HQP.out.1 HBZ.out.size)).trans d0;have HB8:=zh hb08;have HL:=zh (flowest_any u8 u7 (c*b) (b*d) w8 (HU8.out.mono Fr.bl) (HU78.out.mono Fr.bl) (Nat.mul_pos h0b h0d) hg);clear hu8 hb8 hb08 d0 d1 d2 e0 e1 e2 hW7;go_wp2_with fail;refine HL.out.mono ?_;rintro e w9 ⟨un,um,rfl,hun,hum,hb9⟩;obtain⟨A3,N3,c3,rfl⟩:=hun.frm;obtain⟨A4,N4,c4,rfl⟩:=hum.frm;have hb19:=HB8.out.trans (hb9.mono HB8.out.size);have hk:=(hb19.block g HGL.out.1).trans HBK.out;obtain⟨m0,m1,m2,f0,f1,f2⟩:=cells3 hk;have hbw:=HB0.out.trans (hb19.mono HB0.out.size)
    have hgw:w.heap.size<=g:=by rw[HGL.out.2];omega
    have hs0:=HB0.out.size;have hs1:=HB8.out.size;have HX:=zh (box3 hk hbw hgw (.bool false) (.slice A3 N3 c3) (.slice A4 N4 c4) hun (fun b hb=>⟨by have:=hb.1;have:=HGL.out.1;omega,by have:=hb.1;omega,hb.2⟩) hum (fun b hb=>⟨by have:=hb.1;have:=HGL.out.1;omega,by have:=hb.1;omega,hb.2⟩));clear hun hum hb9 hb19 hk hbw hgw hs0 hs1 l0;go_wp2_with fail;obtain⟨Wf,hWf⟩:=zx (((w9.setCell ⟨g,0,none⟩ (.bool false)).setCell ⟨g,1,none⟩ (.slice A3 N3 c3)).setCell ⟨g,2,none⟩ (.slice A4 N4 c4));obtain⟨x0,x1,x2,hl1,hl2,hbf⟩:=HX.out Wf hWf;rw[<-hWf];clear hWf m0 m1 m2 f0 f1 f2;exact bodyPost_ret (v:=.tuple #[.agg #[.bool false,.slice A3 N3 c3,.slice A4 N4 c4],.int .i64 0]) (by simp[results,Tryz.results133,go_sem,x0,x1,x2]) rfl ⟨_,_,rfl,hl1,hl2,hbf⟩
   exact zE
  exact zE
 exact zE
theorem three{cs:List Value}{a b c:Value}{w:World}{p o:Nat}(h:∀i c,cs[i]?=some c->w.cell? ⟨p,o+i,none⟩=some c)(e:cs=[a,b,c]) :
  w.cell? ⟨p,o,none⟩=some a/\w.cell? ⟨p,o+1,none⟩=some b/\w.cell? ⟨p,o+2,none⟩=some c:=by
 subst e;exact⟨h 0 _ rfl,h 1 _ rfl,h 2 _ rfl⟩
theorem fall_lim(v:Value)(xs:List Frc)(w:World)(h:SlS 3 FrcK w (Bl w.heap.size) v xs)
  (hK:∀(W:World) (x:Frc) (vn vd:Value),x∈xs->LS W (Bl W.heap.size) vn (natL x.num)->LS W (Bl W.heap.size) vd (natL x.den)->Calls Tryz.prog 89 #[.agg #[.bool x.neg,vn,vd]] W fun e w'=>e=.returned (.bool true)/\Below W.heap.size W w') :
  Calls Tryz.prog 91 #[v,.func (.func 89) #[] #[]] w fun e w'=>e=.returned (.bool true)/\Below w.heap.size w w':=by
 obtain⟨A,c,rfl,-,hm⟩:=h.form;unfold maxLen at hm;have HL:=zh h;have HK:=zh hK;clear h hK;go_enter Tryz.func91,Tryz.ntmps91;go_wp2_with fail;go_loopg [6,9] xs.length (fun z v6 v9 wr=>∃j:Nat,j<=xs.length/\z=xs.length-j/\v9=.int .i64 (j:Int)/\Hid (Below w.heap.size w wr))
 case atStart=>exact⟨0,by omega,rfl,rfl,zB _ _⟩
 case round =>
  obtain⟨j,hj,rfl,rfl,HB⟩:=hrel;by_cases hlt:j<xs.length
  ·obtain⟨b,off,cs,rfl,hR,-,hc,vn,vd,hcs,hn,hd⟩:=(SlS.keep frcK HL.out (kept_below HB.out)).at_ hlt;obtain⟨k0,k1,k2⟩:=three hc hcs;have hmem:xs[j]∈xs:=List.getElem_mem hlt;obtain⟨An,Nn,cn,rfl⟩:=hn.frm;obtain⟨Ad,Nd,cd,rfl⟩:=hd.frm;have hsz:=HB.out.size;generalize hx:xs[j]=x at *;obtain⟨neg,hneg⟩:=zx x.neg;rw[<-hneg] at k0;obtain⟨W1,hW1⟩:=zx (wr.alloc (.cells #[.bool neg,.slice An Nn cn,.slice Ad Nd cd] 26))
   have hb1:Below wr.heap.size wr W1:=by rw[hW1];exact(zB _ _).alloc (zR _) _
   have hn1:=((hn.mono (Bl.mono hsz)).below hb1);have hd1:=((hd.mono (Bl.mono hsz)).below hb1);have HC:=zh (HK.out W1 x _ _ hmem hn1 hd1);rw[<-hneg] at HC;have HB1:=zh (HB.out.trans (hb1.mono hsz));have HW1:=zh hW1;clear hc hcs hn hd hb1 hn1 hd1 hmem hW1 hneg hx hsz;go_wp2_with fail;rw[<-HW1.out];refine HC.out.mono ?_;rintro e w2 ⟨rfl,hb2⟩;have HB2:=zh (HB1.out.trans (hb2.mono HB1.out.size));clear hb2 k0 k1 k2;go_wp2_with fail;go_roundg (xs.length-(j+1))
   case measure=>omega
   case rel=>exact⟨j+1,by omega,rfl,by go_num,HB2⟩
  ·go_wp2_with fail;go_ret;exact⟨rfl,HB.out⟩
theorem fall_rate(v:Value)(xs:List Frc)(w:World)(h:SlS 3 FrcK w (Bl w.heap.size) v xs)
  (hK:∀(W:World) (x:Frc) (vn vd:Value),x∈xs->LS W (Bl W.heap.size) vn (natL x.num)->LS W (Bl W.heap.size) vd (natL x.den)->Calls Tryz.prog 138 #[.agg #[.bool x.neg,vn,vd]] W fun e w'=>e=.returned (.bool true)/\Below W.heap.size W w') :
  Calls Tryz.prog 91 #[v,.func (.func 138) #[] #[]] w fun e w'=>e=.returned (.bool true)/\Below w.heap.size w w':=by
 obtain⟨A,c,rfl,-,hm⟩:=h.form;unfold maxLen at hm;have HL:=zh h;have HK:=zh hK;clear h hK;go_enter Tryz.func91,Tryz.ntmps91;go_wp2_with fail;go_loopg [6,9] xs.length (fun z v6 v9 wr=>∃j:Nat,j<=xs.length/\z=xs.length-j/\v9=.int .i64 (j:Int)/\Hid (Below w.heap.size w wr))
 case atStart=>exact⟨0,by omega,rfl,rfl,zB _ _⟩
 case round =>
  obtain⟨j,hj,rfl,rfl,HB⟩:=hrel;by_cases hlt:j<xs.length
  ·obtain⟨b,off,cs,rfl,hR,-,hc,vn,vd,hcs,hn,hd⟩:=(SlS.keep frcK HL.out (kept_below HB.out)).at_ hlt;obtain⟨k0,k1,k2⟩:=three hc hcs;have hmem:xs[j]∈xs:=List.getElem_mem hlt;obtain⟨An,Nn,cn,rfl⟩:=hn.frm;obtain⟨Ad,Nd,cd,rfl⟩:=hd.frm;have hsz:=HB.out.size;generalize hx:xs[j]=x at *;obtain⟨neg,hneg⟩:=zx x.neg;rw[<-hneg] at k0;obtain⟨W1,hW1⟩:=zx (wr.alloc (.cells #[.bool neg,.slice An Nn cn,.slice Ad Nd cd] 26))
   have hb1:Below wr.heap.size wr W1:=by rw[hW1];exact(zB _ _).alloc (zR _) _
   have hn1:=((hn.mono (Bl.mono hsz)).below hb1);have hd1:=((hd.mono (Bl.mono hsz)).below hb1);have HC:=zh (HK.out W1 x _ _ hmem hn1 hd1);rw[<-hneg] at HC;have HB1:=zh (HB.out.trans (hb1.mono hsz));have HW1:=zh hW1;clear hc hcs hn hd hb1 hn1 hd1 hmem hW1 hneg hx hsz;go_wp2_with fail;rw[<-HW1.out];refine HC.out.mono ?_;rintro e w2 ⟨rfl,hb2⟩;have HB2:=zh (HB1.out.trans (hb2.mono HB1.out.size));clear hb2 k0 k1 k2;go_wp2_with fail;go_roundg (xs.length-(j+1))
   case measure=>omega
   case rel=>exact⟨j+1,by omega,rfl,by go_num,HB2⟩
  ·go_wp2_with fail;go_ret;exact⟨rfl,HB.out⟩
theorem frate_any(va vb:Value)(n m:Nat)(w:World)(ha:LS w (Bl w.heap.size) va (natL n))(hb:LS w (Bl w.heap.size) vb (natL m))(hn:0<n)(hm:0<m)(hg:Nat.gcd n m=1) :
  Calls Tryz.prog 138 #[.agg #[.bool false,va,vb]] w fun e w'=>e=.returned (.bool true)/\Below w.heap.size w w':=by
 obtain⟨An,Nn,cn,rfl⟩:=ha.frm;obtain⟨Ad,Nd,cd,rfl⟩:=hb.frm;obtain⟨W0,hW0⟩:=zx (w.alloc (.cells #[.bool false,.slice An Nn cn,.slice Ad Nd cd] 26));obtain⟨q,hq⟩:=zx w.heap.size
 have hb0:Below w.heap.size w W0:=by rw[hW0];exact(zB _ _).alloc (zR _) _
 have hbk:W0.heap[q]?=some (.cells #[.bool false,.slice An Nn cn,.slice Ad Nd cd] 26 (0,0)):=by rw[hW0,hq];exact zN _ _
 obtain⟨c0,c1,c2,-⟩:=cells3 hbk;have hql:q<W0.heap.size:=(zA.1 hbk).1;have HA0:=zh (ha.below hb0);have HBV:=zh (hb.below hb0);have HL:=zh (flimits_any _ _ n m W0 HA0.out HBV.out hm hg);have HW0:=zh hW0;have HQ:=zh hq;have HB0:=zh hb0;have HQL:=zh hql;clear ha hb hW0 hq hb0 hbk hql;go_enter Tryz.func138,Tryz.ntmps138;go_wp2_with fail;rw[<-HW0.out,<-HQ.out];refine HL.out.mono ?_;rintro e w1 ⟨rfl,hb1⟩;have k0:w1.cell? ⟨q,0,none⟩=some (.bool false):=(hb1.cell (p:=⟨q,0,none⟩) HQL.out).trans c0;have k1:w1.cell? ⟨q,1,none⟩=some (.slice An Nn cn):=(hb1.cell (p:=⟨q,1,none⟩) HQL.out).trans c1;have k2:w1.cell? ⟨q,2,none⟩=some (.slice Ad Nd cd):=(hb1.cell (p:=⟨q,2,none⟩) HQL.out).trans c2;have HV:=zh (fabove_any false _ _ n m w1 (HA0.out.below hb1) (HBV.out.below hb1));rw[decide_eq_true hn] at HV;have HB1:=zh (HB0.out.trans (hb1.mono HB0.out.size));clear hb1 c0 c1 c2;go_wp2_with fail;refine HV.out.mono ?_;rintro e w2 ⟨rfl,hb2⟩;have HB2:=zh (HB1.out.trans (hb2.mono HB1.out.size));clear hb2 k0 k1 k2;go_wp2_with fail;go_ret;exact⟨rfl,HB2.out⟩
theorem fone_any(va vb:Value)(n m:Nat)(w:World)(ha:LS w (Bl w.heap.size) va (natL n))(hb:LS w (Bl w.heap.size) vb (natL m))(hm:0<m)(hle:n<=m) :
  Calls Tryz.prog 139 #[.agg #[.bool false,va,vb]] w fun e w'=>e=.returned (.bool true)/\Below w.heap.size w w':=by
 obtain⟨An,Nn,cn,rfl⟩:=ha.frm;obtain⟨Ad,Nd,cd,rfl⟩:=hb.frm;have n32:=ha.lt32;have m32:=hb.lt32;obtain⟨W0,hW0⟩:=zx (w.alloc (.cells #[.bool false,.slice An Nn cn,.slice Ad Nd cd] 26));obtain⟨q,hq⟩:=zx w.heap.size
 have hb0:Below w.heap.size w W0:=by rw[hW0];exact(zB _ _).alloc (zR _) _
 have hbk:W0.heap[q]?=some (.cells #[.bool false,.slice An Nn cn,.slice Ad Nd cd] 26 (0,0)):=by rw[hW0,hq];exact zN _ _
 obtain⟨c0,c1,c2,-⟩:=cells3 hbk;have hql:q<W0.heap.size:=(zA.1 hbk).1;have HA0:=zh (ha.below hb0);have HBV:=zh (hb.below hb0);have HM:=zh (fmake_any 1 1 W0 (by omega) (by omega) (by omega) (by decide));have HW0:=zh hW0;have HQ:=zh hq;have HB0:=zh hb0;have HQL:=zh hql;clear ha hb hW0 hq hb0 hbk hql;go_enter Tryz.func139,Tryz.ntmps139;go_wp2_with fail;rw[<-HW0.out,<-HQ.out];refine HM.out.mono ?_;rintro e w1 ⟨un,um,rfl,hun,hum,hb1⟩;obtain⟨A1,N1,e1,rfl⟩:=hun.frm;obtain⟨A2,N2,e2,rfl⟩:=hum.frm;obtain⟨W1,hW1⟩:=zx (w1.alloc (.cells #[.bool false,.slice A1 N1 e1,.slice A2 N2 e2] 26));obtain⟨g,hgq⟩:=zx w1.heap.size
 have hb2:Below w1.heap.size w1 W1:=by rw[hW1];exact(zB _ _).alloc (zR _) _
 have hb12:=hb1.trans (hb2.mono hb1.size)
 have hbk:W1.heap[g]?=some (.cells #[.bool false,.slice A1 N1 e1,.slice A2 N2 e2] 26 (0,0)):=by rw[hW1,hgq];exact zN _ _
 obtain⟨l0,l1,l2,-⟩:=cells3 hbk;have k0:W1.cell? ⟨q,0,none⟩=some (.bool false):=(hb12.cell (p:=⟨q,0,none⟩) HQL.out).trans c0;have k1:W1.cell? ⟨q,1,none⟩=some (.slice An Nn cn):=(hb12.cell (p:=⟨q,1,none⟩) HQL.out).trans c1;have k2:W1.cell? ⟨q,2,none⟩=some (.slice Ad Nd cd):=(hb12.cell (p:=⟨q,2,none⟩) HQL.out).trans c2;have HC:=zh (fcmp_any _ _ _ _ n m 1 1 W1 (HA0.out.below hb12) (HBV.out.below hb12) ((hun.mono Fr.bl).below hb2) ((hum.mono Fr.bl).below hb2) hm (by omega) (by omega) (by omega))
 have hcm:cmpI (n*1) (1*m)<=0:=by unfold cmpI;split <;> (try split) <;> omega
 obtain⟨C,hC⟩:=zx (cmpI (n*1) (1*m));rw[<-hC] at HC hcm;have HB1:=zh (HB0.out.trans (hb12.mono HB0.out.size));have HW1:=zh hW1;have HGQ:=zh hgq;clear hun hum hb1 hb2 hb12 hW1 hgq hbk hC c0 c1 c2;go_upto_region 2 with fail;rw[<-HW1.out,<-HGQ.out];go_wp2_with fail;refine HC.out.mono ?_;rintro e w2 ⟨rfl,hb2⟩;have HB2:=zh (HB1.out.trans (hb2.mono HB1.out.size));clear hb2 k0 k1 k2 l0 l1 l2;go_wp2_with fail;go_ret;exact⟨ret_bool (by simp),HB2.out⟩
theorem one_frc{w:World}{R:Nat->Prop}{v:Value}{x:Frc}(h:SlS 3 FrcK w R v [x]):∃b off c vn vd,v=.slice (some ⟨b,off,none⟩) 1 c/\R b/\w.cell? ⟨b,off,none⟩=some (.bool x.neg)/\w.cell? ⟨b,off+1,none⟩=some vn/\w.cell? ⟨b,off+2,none⟩=some vd/\LS w R vn (natL x.num)/\LS w R vd (natL x.den):=by
 obtain⟨A,c,rfl,-,-⟩:=h.form;obtain⟨b,off,cs,rfl,hR,-,hc,vn,vd,hcs,hn,hd⟩:=h.at_ (k:=0) (by simp);obtain⟨k0,k1,k2⟩:=three hc hcs;exact⟨b,off,c,vn,vd,rfl,hR,k0,k1,k2,hn,hd⟩
theorem one_row{w:World}{R:Nat->Prop}{v:Value}{l:List Frc}(h:SlS 1 RowFK w R v [l]):∃b off c u,v=.slice (some ⟨b,off,none⟩) 1 c/\R b/\w.cell? ⟨b,off,none⟩=some u/\SlS 3 FrcK w R u l:=by
 obtain⟨A,c,rfl,-,-⟩:=h.form;obtain⟨b,off,cs,rfl,hR,-,hc,u,hcs,hu⟩:=h.at_ (k:=0) (by simp);have h0:=hc 0 u (by rw[hcs];rfl);exact⟨b,off,c,u,rfl,hR,h0,hu⟩
theorem box3'{w wf:World}{g:Nat}{a b c:Value}{T:TypeId}(hk:wf.heap[g]?=some (.cells #[a,b,c] T (0,0)))(hb:Below w.heap.size w wf)(hg:w.heap.size<=g)(v0 v1 v2:Value) :
  (((wf.setCell ⟨g,0,none⟩ v0).setCell ⟨g,1,none⟩ v1).setCell ⟨g,2,none⟩ v2).heap[g]?=some (.cells #[v0,v1,v2] T (0,0))/\Below w.heap.size w (((wf.setCell ⟨g,0,none⟩ v0).setCell ⟨g,1,none⟩ v1).setCell ⟨g,2,none⟩ v2) /\
   ∀x,x≠g->(((wf.setCell ⟨g,0,none⟩ v0).setCell ⟨g,1,none⟩ v1).setCell ⟨g,2,none⟩ v2).heap[x]?=wf.heap[x]? :=
 ⟨store3 hk,below_set3 hb hg _ _ _,fun x hx=>kept_set3 wf g v0 v1 v2 (fun y=>y=x) (fun y hy e=>hx (by rw[<-hy,e])) x rfl⟩
theorem fsum1_any(v:Value)(c d:Nat)(w:World)(h:SlS 3 FrcK w (Bl w.heap.size) v [⟨false,c,d⟩])(hc:0<c)(hd:0<d)(hg:Nat.gcd c d=1) :
  Calls Tryz.prog 92 #[v] w fun e w'=>∃un um,e=.returned (.tuple #[.agg #[.bool false,un,um],.int .i64 0])/\LS w' (Fr w.heap.size w'.heap.size) un (natL c)/\LS w' (Fr w.heap.size w'.heap.size) um (natL d)/\Below w.heap.size w w':=by
 obtain⟨b1,o1,c1,vn,vd,rfl,hR,k0,k1,k2,hn,hdd⟩:=one_frc h;have c32:=hn.lt32;have d32:=hdd.lt32;obtain⟨An,Nn,cn,rfl⟩:=hn.frm;obtain⟨Ad,Nd,cd,rfl⟩:=hdd.frm;obtain⟨W0,hW0⟩:=zx (w.alloc (.cells #[.bool false,.slice none 0 0,.slice none 0 0] 26));obtain⟨g,hgq⟩:=zx w.heap.size
 have hb0:Below w.heap.size w W0:=by rw[hW0];exact(zB _ _).alloc (zR _) _
 have hbk:W0.heap[g]?=some (.cells #[.bool false,.slice none 0 0,.slice none 0 0] 26 (0,0)):=by rw[hW0,hgq];exact zN _ _
 have hgl:g<W0.heap.size:=(zA.1 hbk).1;have HM:=zh (nmake_any 1 W0 (by omega));have K0:=zh k0;have K1:=zh k1;have K2:=zh k2;have HN:=zh hn;have HD:=zh hdd;have HR:=zh hR;have HW0:=zh hW0;have HGQ:=zh hgq;have HB0:=zh hb0;have HBK:=zh hbk;have HGL:=zh hgl;clear h hW0 hgq hb0 hbk hgl k0 k1 k2 hn hdd hR;go_enter Tryz.func92,Tryz.ntmps92;go_wp2_with fail;rw[<-HW0.out,<-HGQ.out];refine HM.out.mono ?_;rintro e w1 ⟨u1,rfl,hu1,hb1⟩;obtain⟨A1,N1,e1,rfl⟩:=hu1.frm;obtain⟨W1,hW1⟩:=zx (w1.alloc (.cells #[.bool false,.slice none 0 0,.slice A1 N1 e1] 26));obtain⟨p,hp⟩:=zx w1.heap.size
 have hb2:Below w1.heap.size w1 W1:=by rw[hW1];exact(zB _ _).alloc (zR _) _
 have hb12:=hb1.trans (hb2.mono hb1.size)
 have hpk:W1.heap[p]?=some (.cells #[.bool false,.slice none 0 0,.slice A1 N1 e1] 26 (0,0)):=by rw[hW1,hp];exact zN _ _
 have hbw:=HB0.out.trans (hb12.mono HB0.out.size);have q0:W1.cell? ⟨b1,o1,none⟩=some (.bool false):=(hbw.cell (p:=⟨b1,o1,none⟩) HR.out).trans K0.out;have q1:W1.cell? ⟨b1,o1+1,none⟩=some (.slice An Nn cn):=(hbw.cell (p:=⟨b1,o1+1,none⟩) HR.out).trans K1.out;have q2:W1.cell? ⟨b1,o1+2,none⟩=some (.slice Ad Nd cd):=(hbw.cell (p:=⟨b1,o1+2,none⟩) HR.out).trans K2.out;obtain⟨l0,l1,l2,lf0,lf1,lf2⟩:=cells3 hpk;have HU:=zh ((hu1.mono Fr.bl).below hb2);have HPK:=zh hpk;have HB1:=zh hb12;have HBW:=zh hbw;have HW1:=zh hW1;have HP:=zh (show p=w1.heap.size/\W0.heap.size<=p/\p<W1.heap.size/\W1.heap.size=p+1 from⟨hp,by rw[hp];exact hb1.size,(zA.1 hpk).1,by rw[hW1,hp];simp⟩);clear hu1 hb1 hb2 hb12 hbw hpk hp hW1;go_upto_region 2 with fail;rw[<-HW1.out,<-HP.out.1];go_wp2_with fail;go_loopg [6,7,8,13] 1 (fun z v6 v7 v8 v13 wr=>(z=1/\v13=.int .i64 0/\W1=wr)\/(z=0/\v13=.int .i64 1/\Hid (Below w.heap.size w wr)/\Hid (wr.heap[g]?=some (.cells #[.bool false,.slice none 0 0,.slice none 0 0] 26 (0,0)))/\Hid (∃un um,wr.heap[p]?=some (.cells #[.bool false,un,um] 26 (0,0))/\LS wr (Fr W1.heap.size wr.heap.size) un (natL c)/\LS wr (Fr W1.heap.size wr.heap.size) um (natL d))))
 case atStart=>exact .inl ⟨rfl,rfl,rfl⟩
 case round =>
  rcases hrel with ⟨rfl,rfl,rfl⟩ | ⟨rfl,rfl,hbr,hgk,hpk⟩
  ·obtain⟨W2,hW2⟩:=zx (W1.alloc (.cells #[.bool false,.slice An Nn cn,.slice Ad Nd cd] 26));obtain⟨x,hx⟩:=zx W1.heap.size
   have hb3:Below W1.heap.size W1 W2:=by rw[hW2];exact(zB _ _).alloc (zR _) _
   have hxk:W2.heap[x]?=some (.cells #[.bool false,.slice An Nn cn,.slice Ad Nd cd] 26 (0,0)):=by rw[hW2,hx];exact zN _ _
   obtain⟨m0,m1,m2,-⟩:=cells3 hxk;have hpk2:=(hb3.block p HP.out.2.2.1).trans HPK.out;obtain⟨n0,n1,n2,nf0,nf1,nf2⟩:=cells3 hpk2;have hbw2:=HBW.out.trans (hb3.mono HBW.out.size);have HA:=zh (fadd0_any (.slice none 0 0) (.slice A1 N1 e1) (.slice An Nn cn) (.slice Ad Nd cd) 1 c d W2 (by rw[natL_zero];exact LS.nil _ _) (HU.out.below hb3) (HN.out.below hbw2) (HD.out.below hbw2) (by omega) hc hd (by omega) (by omega) (by rw[Nat.mul_one,Nat.one_mul];exact hg));rw[Nat.mul_one,Nat.one_mul] at HA;have HB2:=zh hb3;have HX:=zh hx;have HW2:=zh hW2;have HPK2:=zh hpk2;have HBW2:=zh hbw2;clear hb3 hxk hpk2 hbw2 hx hW2;go_upto_region 5 with fail;rw[<-HW2.out,<-HX.out];clear l0 l1 l2 lf0 lf1 lf2 q0 q1 q2;go_wp2_with fail;refine HA.out.mono ?_;rintro e w4 ⟨un,um,rfl,hun,hum,hb4⟩;obtain⟨A3,N3,e3,rfl⟩:=hun.frm;obtain⟨A4,N4,e4,rfl⟩:=hum.frm;obtain⟨W4,hW4⟩:=zx (w4.alloc (.cells #[.bool false,.slice A3 N3 e3,.slice A4 N4 e4] 26));obtain⟨y,hy⟩:=zx w4.heap.size
   have hb5:Below w4.heap.size w4 W4:=by rw[hW4];exact(zB _ _).alloc (zR _) _
   have hyk:W4.heap[y]?=some (.cells #[.bool false,.slice A3 N3 e3,.slice A4 N4 e4] 26 (0,0)):=by rw[hW4,hy];exact zN _ _
   obtain⟨y0,y1,y2,-⟩:=cells3 hyk;have hb45:=hb4.trans (hb5.mono hb4.size);have hs2:=HB2.out.size;have hs4:=hb4.size;have hpk5:=(hb45.block p (zM HP.out.2.2.1 hs2)).trans HPK2.out;obtain⟨l0,l1,l2,lf0,lf1,lf2⟩:=cells3 hpk5
   have hyp:y≠p:=by have:=HP.out;omega
   have HPK5:=zh hpk5;have HBW5:=zh (HBW2.out.trans (hb45.mono HBW2.out.size));have hgk5:W4.heap[g]?=some (.cells #[.bool false,.slice none 0 0,.slice none 0 0] 26 (0,0)):=(hb45.block g (by have:=HGL.out;have:=HB1.out.size;omega)).trans ((HB2.out.block g (by have:=HGL.out;have:=HB1.out.size;omega)).trans ((HB1.out.block g HGL.out).trans HBK.out));have HGK5:=zh hgk5;have HUN:=zh ((hun.bel hb5).mono (Fr.wider hs2 (zR _)));have HUM:=zh ((hum.bel hb5).mono (Fr.wider hs2 (zR _)));have HY:=zh hy;have HW4:=zh hW4
   have hgp:g≠p:=by have:=HGL.out;have:=HP.out;omega
   have hpw:w.heap.size<=p:=by have:=HP.out;have:=HB0.out.size;omega
   have HGP:=zh (And.intro hgp hpw);clear hun hum hb4 hb5 hyk hb45 hpk5 hgk5 hy hW4 hgp hpw n0 n1 n2 nf0 nf1 nf2 m0 m1 m2 hs2 hs4;go_upto_region 6 with fail;rw[<-HW4.out,<-HY.out];go_wp2_with fail;have hX:=box3' HPK5.out HBW5.out HGP.out.2 (.bool false) (.slice A3 N3 e3) (.slice A4 N4 e4);go_roundg 0
   case measure=>omega
   case rel =>
    refine .inr ⟨rfl,rfl,hX.2.1,?_,⟨_,_,hX.1,?_,?_⟩⟩
    ·exact(hX.2.2 g HGP.out.1).trans HGK5.out
    ·exact(HUN.out.keep (kept_set3 W4 p _ _ _ _ (fun b hb e=>by have:=hb.1;have:=HP.out;omega))).mono (Fr.wider (zR _) (by simp))
    ·exact(HUM.out.keep (kept_set3 W4 p _ _ _ _ (fun b hb e=>by have:=hb.1;have:=HP.out;omega))).mono (Fr.wider (zR _) (by simp))
  ·obtain⟨un,um,hpk2,hun,hum⟩:=hpk.out;obtain⟨A3,N3,e3,rfl⟩:=hun.frm;obtain⟨A4,N4,e4,rfl⟩:=hum.frm;obtain⟨k0,k1,k2,-⟩:=cells3 hpk2;obtain⟨m0,m1,m2,f0,f1,f2⟩:=cells3 hgk.out
   have hgw:w.heap.size<=g:=by rw[HGQ.out];exact zR _
   have hs:=HB0.out.size;have hs1:=HB1.out.size;have HX:=zh (box3 hgk.out hbr.out hgw (.bool false) (.slice A3 N3 e3) (.slice A4 N4 e4) hun (fun b hb=>⟨by have:=hb.1;have:=HGL.out;omega,by have:=hb.1;omega,hb.2⟩) hum (fun b hb=>⟨by have:=hb.1;have:=HGL.out;omega,by have:=hb.1;omega,hb.2⟩))
   have hgp:p≠g:=by have:=HGL.out;have:=HP.out;omega
   clear hpk hun hum hpk2 hbr hgk hgw hs hs1 l0 l1 l2 lf0 lf1 lf2 q0 q1 q2;go_wp2_with fail;obtain⟨Wf,hWf⟩:=zx (((wr.setCell ⟨g,0,none⟩ (.bool false)).setCell ⟨g,1,none⟩ (.slice A3 N3 e3)).setCell ⟨g,2,none⟩ (.slice A4 N4 e4));obtain⟨x0,x1,x2,hl1,hl2,hbf⟩:=HX.out Wf hWf;rw[<-hWf];clear hWf m0 m1 m2 f0 f1 f2;exact bodyPost_ret (v:=.tuple #[.agg #[.bool false,.slice A3 N3 e3,.slice A4 N4 e4],.int .i64 0]) (by simp[results,Tryz.results92,go_sem,x0,x1,x2]) rfl ⟨_,_,rfl,hl1,hl2,hbf⟩
theorem mk_bool1:∀w:World,(Instr.makeSlice 158 (.int .i64 1) (.int .i64 1)).run Tryz.prog w=.ok (.slice (some ⟨w.heap.size,0,none⟩) 1 1) (w.alloc (.cells #[.bool false] 4)):=by
 intro w;obtain⟨i0,hi0,hz0,hz1,hz2⟩:=info_parts info_bool;have h:=run_make (P:=Tryz.prog) w 158 4 i0 _ Tryz.underlying158 hi0 hz0 .i64 .i64 (1:Int) (1:Int) (by omega) (by omega) (by rw[hz2];decide) (by omega);rw[hz1] at h
 simpa[madeCells_one,Value.cells] using h
structure LawE (w:World) (r bs os bl ol be oe br orr:Nat) (cr:Nat) (sn sd rn rd en ed:Value):Prop where
 r0:w.cell? ⟨bl,ol,none⟩=some (.slice (some ⟨br,orr,none⟩) 1 cr)
 s0:w.cell? ⟨bs,os,none⟩=some (.bool false)
 s1:w.cell? ⟨bs,os+1,none⟩=some sn
 s2:w.cell? ⟨bs,os+2,none⟩=some sd
 x0:w.cell? ⟨br,orr,none⟩=some (.bool false)
 x1:w.cell? ⟨br,orr+1,none⟩=some rn
 x2:w.cell? ⟨br,orr+2,none⟩=some rd
 e0:w.cell? ⟨be,oe,none⟩=some (.bool false)
 e1:w.cell? ⟨be,oe+1,none⟩=some en
 e2:w.cell? ⟨be,oe+2,none⟩=some ed
 sN:LS w (Bl w.heap.size) sn (natL 1)
 sD:LS w (Bl w.heap.size) sd (natL 1)
 rN:LS w (Bl w.heap.size) rn (natL 0)
 rD:LS w (Bl w.heap.size) rd (natL 1)
 eN:LS w (Bl w.heap.size) en (natL 1)
 eD:LS w (Bl w.heap.size) ed (natL (100+r))
theorem slS_one_frc{w:World}{b o c:Nat}{neg:Bool}{vn vd:Value}{n d:Nat}(h0:w.cell? ⟨b,o,none⟩=some (.bool neg))(h1:w.cell? ⟨b,o+1,none⟩=some vn)(h2:w.cell? ⟨b,o+2,none⟩=some vd)(hn:LS w (Bl w.heap.size) vn (natL n))(hd:LS w (Bl w.heap.size) vd (natL d))(hc:1<=c) :
  SlS 3 FrcK w (Bl w.heap.size) (.slice (some ⟨b,o,none⟩) 1 c) [⟨neg,n,d⟩]:=by
 refine⟨_,c,rfl,hc,by unfold maxLen;simp,fun _=>⟨b,o,rfl,block_lt_of_cell h0,fun k a hk=>?_⟩⟩
 match k,hk with
 | 0,hk =>
  simp at hk;subst hk;refine⟨[.bool neg,vn,vd],rfl,fun i x hx=>?_,vn,vd,rfl,hn,hd⟩
  match i,hx with
  | 0,hx=>simp at hx;subst hx;simpa using h0
  | 1,hx=>simp at hx;subst hx;simpa using h1
  | 2,hx=>simp at hx;subst hx;simpa using h2
  | i+3,hx=>simp at hx
 | k+1,hk=>simp at hk
theorem fend1_any(b:Bool)(w:World):Calls Tryz.prog 135 #[.bool b] w fun e w'=>e=.returned (.bool b)/\w=w':=by
 go_enter Tryz.func135,Tryz.ntmps135;go_wp2_with fail;go_ret;exact⟨rfl,rfl⟩
theorem fallb_any(g:Nat)(w:World)(h:w.cell? ⟨g,0,none⟩=some (.bool true)) :
  Calls Tryz.prog 134 #[.slice (some ⟨g,0,none⟩) 1 1,.func (.func 135) #[] #[]] w fun e w'=>e=.returned (.bool true)/\Below w.heap.size w w':=by
 have HG:=zh (block_lt_of_cell h);have HH:=zh h;clear h;go_enter Tryz.func134,Tryz.ntmps134;go_wp2_with fail;go_loopg [9] 1 (fun z v9 wr=>z+1<=2/\v9=.int .i64 ((1-z:Nat):Int)/\Hid (Below w.heap.size w wr))
 case atStart=>exact⟨by omega,rfl,zB _ _⟩
 case round =>
  obtain⟨hz,rfl,HB⟩:=hrel;rcases Nat.eq_zero_or_pos gk with hz0 | hz0
  ·subst hz0;go_wp2_with fail;go_ret;exact⟨rfl,HB.out⟩
  ·obtain rfl:gk=1:=by omega
   have h0:=(HB.out.cell (p:=⟨g,0,none⟩) HG.out).trans HH.out;go_wp2_with fail;refine(fend1_any true wr).mono ?_;rintro e w2 ⟨rfl,rfl⟩;go_wp2_with fail;go_roundg 0
   case measure=>omega
   case rel=>exact⟨by omega,rfl,HB.out⟩
section
variable {w w' : World} {r bs os bl ol be oe br orr cr : Nat} {sn sd rn rd en ed : Value}
theorem LawE.below(h:LawE w r bs os bl ol be oe br orr cr sn sd rn rd en ed)(hb:Below w.heap.size w w'):LawE w' r bs os bl ol be oe br orr cr sn sd rn rd en ed:=by
 have m:∀b o x,w.cell? ⟨b,o,none⟩=some x->w'.cell? ⟨b,o,none⟩=some x:=fun b o x hx=>(hb.cell (p:=⟨b,o,none⟩) (block_lt_of_cell hx)).trans hx
 exact⟨m _ _ _ h.r0,m _ _ _ h.s0,m _ _ _ h.s1,m _ _ _ h.s2,m _ _ _ h.x0,m _ _ _ h.x1,m _ _ _ h.x2,m _ _ _ h.e0,m _ _ _ h.e1,m _ _ _ h.e2,h.sN.below hb,h.sD.below hb,h.rN.below hb,h.rD.below hb,h.eN.below hb,h.eD.below hb⟩
theorem LawE.start(h:LawE w r bs os bl ol be oe br orr cr sn sd rn rd en ed)(c:Nat)(hc:1<=c):SlS 3 FrcK w (Bl w.heap.size) (.slice (some ⟨bs,os,none⟩) 1 c) [⟨false,1,1⟩]:=slS_one_frc h.s0 h.s1 h.s2 h.sN h.sD hc
theorem LawE.row(h:LawE w r bs os bl ol be oe br orr cr sn sd rn rd en ed)(hc:1<=cr):SlS 3 FrcK w (Bl w.heap.size) (.slice (some ⟨br,orr,none⟩) 1 cr) [⟨false,0,1⟩]:=slS_one_frc h.x0 h.x1 h.x2 h.rN h.rD hc
theorem LawE.exit(h:LawE w r bs os bl ol be oe br orr cr sn sd rn rd en ed)(c:Nat)(hc:1<=c):SlS 3 FrcK w (Bl w.heap.size) (.slice (some ⟨be,oe,none⟩) 1 c) [⟨false,1,100+r⟩]:=slS_one_frc h.e0 h.e1 h.e2 h.eN h.eD hc
end
theorem bool1_cell{w:World}{g:Nat}{b:Bool}(h:w.heap[g]?=some (.cells #[.bool b] 4 (0,0))):w.cell? ⟨g,0,none⟩=some (.bool b)/\w.frozen? ⟨g,0,none⟩=false :=
 ⟨by rw[cell_of_row _ _ _ _ _ _ h];rfl,frozen_of_row _ _ _ _ _ h⟩
theorem cells4{W:World}{g:Nat}{a b c d:Value}{t:TypeId}(h:W.heap[g]?=some (.cells #[a,b,c,d] t (0,0))):W.cell? ⟨g,0,none⟩=some a/\W.cell? ⟨g,1,none⟩=some b/\W.cell? ⟨g,2,none⟩=some c/\W.cell? ⟨g,3,none⟩=some d:=by
 refine⟨?_,?_,?_,?_⟩ <;> (rw[cell_of_row _ _ _ _ _ _ h];rfl)
theorem fends_any(n:ByteArray)(r bs os bl ol be oe br orr cs cl ce cr:Nat)(sn sd rn rd en ed:Value)(w:World)(h:LawE w r bs os bl ol be oe br orr cr sn sd rn rd en ed) :
  Calls Tryz.prog 93 #[.agg #[.string n,.slice (some ⟨bs,os,none⟩) 1 cs,.slice (some ⟨bl,ol,none⟩) 1 cl,.slice (some ⟨be,oe,none⟩) 1 ce]] w fun e w'=>e=.returned (.bool true)/\Below w.heap.size w w':=by
 obtain⟨A1,N1,d1,rfl⟩:=h.rN.frm;obtain⟨A2,N2,d2,rfl⟩:=h.rD.frm;obtain⟨A3,N3,d3,rfl⟩:=h.eN.frm;obtain⟨A4,N4,d4,rfl⟩:=h.eD.frm;obtain⟨W0,hW0⟩:=zx (w.alloc (.cells #[.string n,.slice (some ⟨bs,os,none⟩) 1 cs,.slice (some ⟨bl,ol,none⟩) 1 cl,.slice (some ⟨be,oe,none⟩) 1 ce] 96));obtain⟨q,hq⟩:=zx w.heap.size
 have hb0:Below w.heap.size w W0:=by rw[hW0];exact(zB _ _).alloc (zR _) _
 have hqk:W0.heap[q]?=some (.cells #[.string n,.slice (some ⟨bs,os,none⟩) 1 cs,.slice (some ⟨bl,ol,none⟩) 1 cl,.slice (some ⟨be,oe,none⟩) 1 ce] 96 (0,0)):=by rw[hW0,hq];exact zN _ _
 obtain⟨c0,c1,c2,c3⟩:=cells4 hqk;have hql:q<W0.heap.size:=(zA.1 hqk).1;obtain⟨W1,hW1⟩:=zx (W0.alloc (.cells #[.bool false] 4));obtain⟨g,hg⟩:=zx W0.heap.size
 have hgk:W1.heap[g]?=some (.cells #[.bool false] 4 (0,0)):=by rw[hW1,hg];exact zN _ _
 have hb1:Below W0.heap.size W0 W1:=by rw[hW1];exact(zB _ _).alloc (zR _) _
 have hmk:=mk_bool1;have HE:=zh (h.below hb0);have HC:=zh (And.intro c1 (And.intro c2 c3));have HW0:=zh hW0;have HQ:=zh hq;have HB0:=zh hb0;have HQL:=zh hql;have HW1:=zh hW1;have HG:=zh hg;have HGK:=zh hgk;have HB1:=zh hb1;clear h hW0 hq hb0 hqk hql hW1 hg hgk hb1 c0 c1 c2;go_enter Tryz.func93,Tryz.ntmps93;go_upto_region 1 with fail;rw[<-HW0.out,<-HQ.out];go_upto_region 2 with fail;rw[<-HW1.out,<-HG.out];clear hmk c3;go_wp2_with fail;go_loopg [4] 2 (fun z v4 wr=>∃t:Nat,t<=2/\z=2-t/\v4=.int .i64 (t:Int)/\Hid (wr.heap[g]?=some (.cells #[.bool (decide (0<t))] 4 (0,0)))/\Hid (Below W0.heap.size W0 wr))
 case atStart=>exact⟨0,by omega,rfl,rfl,HGK.out,HB1.out⟩
 case round =>
  obtain⟨t,ht,rfl,rfl,HT,HB⟩:=hrel;by_cases hlt:t<2
  ·have q2:(t:Int)<=1:=by omega
   have HTL:=zh hlt;obtain⟨wo,rfl⟩:=zx (wr:World);go_wp2_with fail;go_loopg [20] 1 (fun z v20 wr=>(z=1/\v20=.int .i64 0/\wo=wr)\/(z=0/\v20=.int .i64 1/\Hid (wr.heap[g]?=some (.cells #[.bool true] 4 (0,0)))/\Hid (Below W0.heap.size W0 wr)))
   case atStart=>exact .inl ⟨rfl,rfl,rfl⟩
   case round =>
    rcases hrel with ⟨rfl,rfl,rfl⟩ | ⟨rfl,rfl,HT2,HB2⟩
    ·have c2:wo.cell? ⟨q,2,none⟩=_:=(HB.out.cell (p:=⟨q,2,none⟩) HQL.out).trans HC.out.2.1;have c3:wo.cell? ⟨q,3,none⟩=_:=(HB.out.cell (p:=⟨q,3,none⟩) HQL.out).trans HC.out.2.2;have he:=HE.out.below HB.out;obtain⟨g0,gf⟩:=bool1_cell HT.out;have e0:=he.e0;have e1:=he.e1;have e2:=he.e2;have HA:=zh (fabove_any false _ _ 1 (100+r) wo he.eN he.eD);rw[decide_eq_true (show 0<1 by omega)] at HA;have HGG:=zh (show W0.heap.size<=g from by rw[HG.out];exact zR _);clear he;by_cases h0:t=0
     ·have hd:decide (0<t)=false:=by rw[h0];rfl
      rw[hd] at g0 HT;clear hd h0;go_wp2_with fail;refine HA.out.mono ?_;rintro e w2 ⟨rfl,hb2⟩;have hgk2:=(hb2.block g (block_lt_of_cell g0)).trans HT.out;obtain⟨g1,gf1⟩:=bool1_cell hgk2;have HBZ:=zh (HB.out.trans (hb2.mono HB.out.size));have HGK2:=zh hgk2;clear g0 gf e0 e1 e2 c2 c3 hb2 hgk2;obtain⟨w3,hw3⟩:=zx (w2.setCell ⟨g,0,none⟩ (.bool true))
      have hg3:w3.heap[g]?=some (.cells #[.bool true] 4 (0,0)):=by rw[hw3];exact heap_setCell_same w2 g 0 _ _ _ HGK2.out
      have hb3:Below W0.heap.size W0 w3:=by rw[hw3];exact HBZ.out.setCell HGG.out _
      have HW3:=zh hw3;have HG3:=zh hg3;have HB3:=zh hb3;have f2:w3.cell? ⟨q,2,none⟩=_:=(hb3.cell (p:=⟨q,2,none⟩) HQL.out).trans HC.out.2.1;have r0:=(HE.out.below hb3).r0;clear hw3 hg3 hb3;go_upto_region 9 with fail;rw[<-HW3.out];clear g1 gf1;go_wp2_with fail;clear f2 r0;go_loopg [44] 1 (fun z v44 wr=>z+1<=2/\v44=.int .i64 ((1-z:Nat):Int)/\Hid (wr.heap[g]?=some (.cells #[.bool true] 4 (0,0)))/\Hid (Below W0.heap.size W0 wr))
      case atStart=>exact⟨by omega,rfl,HG3.out,HB3.out⟩
      case round =>
       obtain⟨hz,rfl,HT4,HB4⟩:=hrel;rcases Nat.eq_zero_or_pos gk with hz0 | hz0
       ·subst hz0;go_wp2_with fail;go_roundg 0
        case measure=>omega
        case rel=>exact .inr ⟨rfl,rfl,HT4.out,HB4.out⟩
       ·obtain rfl:gk=1:=by omega
        have he:=HE.out.below HB4.out;have x0:=he.x0;have x1:=he.x1;have x2:=he.x2;obtain⟨W4,hW4⟩:=zx (wr.alloc (.cells #[.bool false,.slice A1 N1 d1,.slice A2 N2 d2] 26))
        have hb5:Below wr.heap.size wr W4:=by rw[hW4];exact(zB _ _).alloc (zR _) _
        have hgl:=(zA.1 HT4.out).1;have hg5:=(hb5.block g hgl).trans HT4.out;obtain⟨g5,gf5⟩:=bool1_cell hg5;have HB5:=zh (HB4.out.trans (hb5.mono HB4.out.size));have HG5:=zh hg5;have HW4:=zh hW4;clear he hW4 hb5 hgl hg5;go_upto_region 12 with fail;rw[<-HW4.out];clear x0 x1 x2;go_wp2_with fail;go_roundg 0
        case measure=>omega
        case rel=>exact⟨by omega,rfl,heap_setCell_same W4 g 0 _ _ _ HG5.out,HB5.out.setCell HGG.out _⟩
     ·have hd:decide (0<t)=true:=by simp;omega
      rw[hd] at g0 HT;clear hd h0;obtain⟨w3,hw3⟩:=zx (wo.setCell ⟨g,0,none⟩ (.bool true))
      have hg3:w3.heap[g]?=some (.cells #[.bool true] 4 (0,0)):=by rw[hw3];exact heap_setCell_same wo g 0 _ _ _ HT.out
      have hb3:Below W0.heap.size W0 w3:=by rw[hw3];exact HB.out.setCell HGG.out _
      have HW3:=zh hw3;have HG3:=zh hg3;have HB3:=zh hb3;have f2:w3.cell? ⟨q,2,none⟩=_:=(hb3.cell (p:=⟨q,2,none⟩) HQL.out).trans HC.out.2.1;have r0:=(HE.out.below hb3).r0;clear hw3 hg3 hb3;go_upto_region 9 with fail;rw[<-HW3.out];clear g0 gf e0 e1 e2 c2 c3;go_wp2_with fail;clear f2 r0;go_loopg [44] 1 (fun z v44 wr=>z+1<=2/\v44=.int .i64 ((1-z:Nat):Int)/\Hid (wr.heap[g]?=some (.cells #[.bool true] 4 (0,0)))/\Hid (Below W0.heap.size W0 wr))
      case atStart=>exact⟨by omega,rfl,HG3.out,HB3.out⟩
      case round =>
       obtain⟨hz,rfl,HT4,HB4⟩:=hrel;rcases Nat.eq_zero_or_pos gk with hz0 | hz0
       ·subst hz0;go_wp2_with fail;go_roundg 0
        case measure=>omega
        case rel=>exact .inr ⟨rfl,rfl,HT4.out,HB4.out⟩
       ·obtain rfl:gk=1:=by omega
        have he:=HE.out.below HB4.out;have x0:=he.x0;have x1:=he.x1;have x2:=he.x2;obtain⟨W4,hW4⟩:=zx (wr.alloc (.cells #[.bool false,.slice A1 N1 d1,.slice A2 N2 d2] 26))
        have hb5:Below wr.heap.size wr W4:=by rw[hW4];exact(zB _ _).alloc (zR _) _
        have hgl:=(zA.1 HT4.out).1;have hg5:=(hb5.block g hgl).trans HT4.out;obtain⟨g5,gf5⟩:=bool1_cell hg5;have HB5:=zh (HB4.out.trans (hb5.mono HB4.out.size));have HG5:=zh hg5;have HW4:=zh hW4;clear he hW4 hb5 hgl hg5;go_upto_region 12 with fail;rw[<-HW4.out];clear x0 x1 x2;go_wp2_with fail;go_roundg 0
        case measure=>omega
        case rel=>exact⟨by omega,rfl,heap_setCell_same W4 g 0 _ _ _ HG5.out,HB5.out.setCell HGG.out _⟩
    ·clear HB HT;go_wp2_with fail;go_roundg (2-(t+1))
     case measure=>have:=HTL.out;omega
     case rel=>exact⟨t+1,HTL.out,rfl,by go_num,by rw[decide_eq_true (Nat.succ_pos t)];exact HT2.out,HB2.out⟩
  ·have h2:t=2:=by omega
   subst h2;obtain⟨g0,gf⟩:=bool1_cell HT.out;have HBR:=zh HB.out;go_wp2_with fail;refine(fallb_any g wr (by have:=g0;simpa using this)).mono ?_;rintro e w2 ⟨rfl,hb2⟩;have HBZ:=zh (HB0.out.trans ((HBR.out.trans (hb2.mono HBR.out.size)).mono HB0.out.size));clear hb2 g0 gf;go_wp2_with fail;go_ret;exact⟨rfl,HBZ.out⟩
theorem fin_any(n lo hi:Int)(w:World):Calls Tryz.prog 42 #[.int .i64 n,.int .i64 lo,.int .i64 hi] w fun e w'=>e=.returned (.bool (decide (lo<=n/\n<=hi)))/\w=w':=by
 by_cases h1:lo<=n
 ·by_cases h2:n<=hi
  ·go_enter Tryz.func42,Tryz.ntmps42;go_wp2_with fail;go_ret;exact⟨ret_bool (by simp[h1,h2]),rfl⟩
  ·go_enter Tryz.func42,Tryz.ntmps42;go_wp2_with fail;go_ret;exact⟨ret_bool (by simp[h1,h2]),rfl⟩
 ·go_enter Tryz.func42,Tryz.ntmps42;go_wp2_with fail;go_ret;exact⟨ret_bool (by simp;intro h;omega),rfl⟩
theorem flaw_any(n:ByteArray)(r bs os bl ol be oe br orr cs cl ce cr:Nat)(sn sd rn rd en ed:Value)(w:World)(h:LawE w r bs os bl ol be oe br orr cr sn sd rn rd en ed)(hcs:1<=cs)(hce:1<=ce)(hcr:1<=cr) :
  Calls Tryz.prog 44 #[.agg #[.string n,.slice (some ⟨bs,os,none⟩) 1 cs,.slice (some ⟨bl,ol,none⟩) 1 cl,.slice (some ⟨be,oe,none⟩) 1 ce]] w fun e w'=>e=.returned (.bool true)/\Below w.heap.size w w':=by
 obtain⟨A1,N1,d1,rfl⟩:=h.rN.frm;obtain⟨A2,N2,d2,rfl⟩:=h.rD.frm;obtain⟨W0,hW0⟩:=zx (w.alloc (.cells #[.string n,.slice (some ⟨bs,os,none⟩) 1 cs,.slice (some ⟨bl,ol,none⟩) 1 cl,.slice (some ⟨be,oe,none⟩) 1 ce] 96));obtain⟨q,hq⟩:=zx w.heap.size
 have hb0:Below w.heap.size w W0:=by rw[hW0];exact(zB _ _).alloc (zR _) _
 have hqk:W0.heap[q]?=some (.cells #[.string n,.slice (some ⟨bs,os,none⟩) 1 cs,.slice (some ⟨bl,ol,none⟩) 1 cl,.slice (some ⟨be,oe,none⟩) 1 ce] 96 (0,0)):=by rw[hW0,hq];exact zN _ _
 have hql:q<W0.heap.size:=(zA.1 hqk).1;have HF:=zh (fun(w':World) (hb:Below W0.heap.size W0 w')=>cells4 ((hb.block q hql).trans hqk));have HE:=zh (fun(w':World) (hb:Below W0.heap.size W0 w')=>(h.below hb0).below hb);have HS:=zh (fun(w':World) (hb:Below W0.heap.size W0 w')=>fall_lim _ _ w' (((h.below hb0).below hb).start cs hcs) (fun W x vn vd hx hn hd=>by rw[List.mem_singleton.1 hx] at hn hd ⊢;exact flimits_any vn vd 1 1 W hn hd (by omega) (by decide)));have HX:=zh (fun(w':World) (hb:Below W0.heap.size W0 w')=>fall_lim _ _ w' (((h.below hb0).below hb).exit ce hce) (fun W x vn vd hx hn hd=>by rw[List.mem_singleton.1 hx] at hn hd ⊢;exact flimits_any vn vd 1 (100+r) W hn hd (by show 0<100+r;omega) (Nat.gcd_one_left _)));have HRW:=zh (fun(w':World) (hb:Below W0.heap.size W0 w')=>fall_lim _ _ w' (((h.below hb0).below hb).row hcr) (fun W x vn vd hx hn hd=>by rw[List.mem_singleton.1 hx] at hn hd ⊢;exact flimits_any vn vd 0 1 W hn hd (by omega) (by decide)));have HSU:=zh (fun(w':World) (hb:Below W0.heap.size W0 w')=>fsum1_any _ 1 1 w' (((h.below hb0).below hb).start cs hcs) (by omega) (by omega) (by decide));have HW0:=zh hW0;have HQ:=zh hq;have HB0:=zh hb0;obtain⟨c0,c1,c2,c3⟩:=HF.out W0 (zB _ _);have HC:=zh (show 1<=cs/\1<=ce/\1<=cr from⟨hcs,hce,hcr⟩);clear h hW0 hq hb0 hqk hql hcs hce hcr;go_enter Tryz.func44,Tryz.ntmps44;go_wp2_with fail;rw[<-HW0.out,<-HQ.out];refine(fin_any 1 1 4 W0).mono ?_;rintro e w1 ⟨rfl,rfl⟩
 have hd:decide ((1:Int)<=1/\(1:Int)<=4)=true:=by decide
 rw[hd];clear hd;go_wp2_with fail;refine(HS.out _ (zB _ _)).mono ?_;rintro e w1 ⟨rfl,hb1⟩;obtain⟨k0,k1,k2,k3⟩:=HF.out w1 hb1;have HB1:=zh hb1;clear hb1 c0 c1 c2 c3;go_wp2_with fail;refine(HX.out _ HB1.out).mono ?_;rintro e w2 ⟨rfl,hb2⟩;have hb02:=HB1.out.trans (hb2.mono HB1.out.size);obtain⟨c0,c1,c2,c3⟩:=HF.out w2 hb02;have r0:=(HE.out w2 hb02).r0;have x0:=(HE.out w2 hb02).x0;have x1:=(HE.out w2 hb02).x1;have x2:=(HE.out w2 hb02).x2;have HB2:=zh hb02;clear hb2 hb02 k0 k1 k2 k3;go_wp2_with fail;clear c0 c1 c2 c3;go_loopg [47] 1 (fun z v47 wr=>z+1<=2/\v47=.int .i64 ((1-z:Nat):Int)/\Hid (Below W0.heap.size W0 wr))
 case atStart=>exact⟨by omega,rfl,HB2.out⟩
 case round =>
  clear r0 x0 x1 x2;obtain⟨hz,rfl,HB⟩:=hrel;rcases Nat.eq_zero_or_pos gk with hz0 | hz0
  ·subst hz0;obtain⟨c0,c1,c2,c3⟩:=HF.out wr HB.out;go_wp2_with fail;refine(HSU.out _ HB.out).mono ?_;rintro e w3 ⟨un,um,rfl,hun,hum,hb3⟩;obtain⟨A3,N3,d3,rfl⟩:=hun.frm;obtain⟨A4,N4,d4,rfl⟩:=hum.frm;obtain⟨W3,hW3⟩:=zx (w3.alloc (.cells #[.bool false,.slice A3 N3 d3,.slice A4 N4 d4] 26));obtain⟨g,hg⟩:=zx w3.heap.size
   have hb4:Below w3.heap.size w3 W3:=by rw[hW3];exact(zB _ _).alloc (zR _) _
   have hgk:W3.heap[g]?=some (.cells #[.bool false,.slice A3 N3 d3,.slice A4 N4 d4] 26 (0,0)):=by rw[hW3,hg];exact zN _ _
   have hb03:=HB.out.trans ((hb3.trans (hb4.mono hb3.size)).mono HB.out.size);have HN3:=zh ((hun.mono Fr.bl).below hb4);have HM3:=zh ((hum.mono Fr.bl).below hb4);have HB3:=zh hb03;have HGK:=zh hgk;have HW3:=zh hW3;have HG:=zh hg;clear hun hum hb3 hb4 hW3 hg hgk hb03 c0 c1 c2 c3;go_upto_region 11 with fail;rw[<-HW3.out,<-HG.out];go_wp2_with fail;refine(fmake_any 1 1 W3 (by omega) (by omega) (by omega) (by decide)).mono ?_;rintro e w4 ⟨u5,u6,rfl,hu5,hu6,hb4⟩;obtain⟨A5,N5,d5,rfl⟩:=hu5.frm;obtain⟨A6,N6,d6,rfl⟩:=hu6.frm;obtain⟨W4,hW4⟩:=zx (w4.alloc (.cells #[.bool false,.slice A5 N5 d5,.slice A6 N6 d6] 26));obtain⟨g4,hg4⟩:=zx w4.heap.size
   have hb5:Below w4.heap.size w4 W4:=by rw[hW4];exact(zB _ _).alloc (zR _) _
   have hgk4:W4.heap[g4]?=some (.cells #[.bool false,.slice A5 N5 d5,.slice A6 N6 d6] 26 (0,0)):=by rw[hW4,hg4];exact zN _ _
   have hb45:=hb4.trans (hb5.mono hb4.size);have hgk3:=(hb45.block g (zA.1 HGK.out).1).trans HGK.out;obtain⟨m0,m1,m2,-⟩:=cells3 hgk3;obtain⟨n0,n1,n2,-⟩:=cells3 hgk4;have hb04:=HB3.out.trans (hb45.mono HB3.out.size);have HCM:=zh (fcmp_any _ _ _ _ 1 1 1 1 W4 (HN3.out.below hb45) (HM3.out.below hb45) ((hu5.mono Fr.bl).below hb5) ((hu6.mono Fr.bl).below hb5) (by omega) (by omega) (by omega) (by omega));rw[show cmpI (1*1) (1*1)=0 from rfl] at HCM;have HB4:=zh hb04;have HW4:=zh hW4;have HG4:=zh hg4;clear hu5 hu6 hb4 hb5 hW4 hg4 hgk4 hb45 hgk3 hb04;go_upto_region 12 with fail;rw[<-HW4.out,<-HG4.out];go_wp2_with fail;refine HCM.out.mono ?_;rintro e w5 ⟨rfl,hb5⟩;have hb05:=HB4.out.trans (hb5.mono HB4.out.size);obtain⟨c0,c1,c2,c3⟩:=HF.out w5 hb05;have HEN:=zh (fends_any n r bs os bl ol be oe br orr cs cl ce cr _ _ _ _ _ _ w5 (HE.out w5 hb05));have HB5:=zh hb05;clear hb5 hb05 m0 m1 m2 n0 n1 n2;go_wp2_with fail;refine HEN.out.mono ?_;rintro e w6 ⟨rfl,hb6⟩;have HB6:=zh (HB0.out.trans ((HB5.out.trans (hb6.mono HB5.out.size)).mono HB0.out.size));clear hb6 c0 c1 c2 c3;go_wp2_with fail;go_ret;exact⟨rfl,HB6.out⟩
  ·obtain rfl:gk=1:=by omega
   have r0:=(HE.out wr HB.out).r0;go_wp2_with fail;refine(HRW.out wr HB.out).mono ?_;rintro e w3 ⟨rfl,hb3⟩;have hb03:=HB.out.trans (hb3.mono HB.out.size);have x0:=(HE.out w3 hb03).x0;have x1:=(HE.out w3 hb03).x1;have x2:=(HE.out w3 hb03).x2;have HA:=zh (fabove_any false _ _ 0 1 w3 (HE.out w3 hb03).rN (HE.out w3 hb03).rD);rw[decide_eq_false (show ¬0<0 by omega)] at HA;have HB3:=zh hb03;clear hb3 hb03 r0;go_wp2_with fail;refine HA.out.mono ?_;rintro e w4 ⟨rfl,hb4⟩;have HB4:=zh (HB3.out.trans (hb4.mono HB3.out.size));clear hb4 x0 x1 x2;go_wp2_with fail;go_roundg 0
   case measure=>omega
   case rel=>exact⟨by omega,rfl,HB4.out⟩
end Go.Proofs.YtgfaieppacabjaaGreat
