/- Small numbers of the reference: products, walked. -/
import Derived.Test.YtgfaieppacabjaaGreatMy11
set_option linter.unusedSectionVars false
set_option maxRecDepth 100000
set_option maxHeartbeats 12800000
namespace Go.Proofs.YtgfaieppacabjaaGreat
open Go.RowKit
set_option linter.unusedVariables false
set_option linter.unusedSimpArgs false
theorem drewN_heapV(w:World)(k:Nat):(w.drewN k).heap=w.heap:=by
 induction k generalizing w with
 | zero=>rfl
 | succ k ih=>exact ih _
theorem rtimes_any(va vb:Value)(n m:Nat)(w:World)(ha:LS w (Bl w.heap.size) va (natL n))(hb:LS w (Bl w.heap.size) vb (natL m))(hm:0<m)(hnm:n*m<4294967296) :
  Calls Tryz.prog 175 #[va,vb] w fun e w'=>∃u,e=.returned u/\OwnL w' w.heap.size u (natL (n*m))/\Below w.heap.size w w':=by
 have hm32:=hb.lt32;have hn32:=ha.lt32
 have lm:(natL m).length=1:=by rw[natL_pos hm];rfl
 obtain⟨B,d,rfl,-,-⟩:=hb.form;obtain⟨-,-,-,-,hd0,-⟩:=hb.cap (by rw[lm];omega);rw[lm] at hb hd0 ⊢
 have hd1:(1:Int)<=(d:Int):=by omega
 obtain⟨b2,o2,rfl,hR2,hc2⟩:=hb.one hm;have HC2:=zh hc2;have HR2:=zh hR2;have hmk1:=mk_u32s1;have hmk2:=mk_u32s2;clear hb lm hc2 hR2 hd0;rcases Nat.eq_zero_or_pos n with h0 | h0
 ·subst h0;obtain⟨A,c,rfl,-,-⟩:=ha.form;rw[show(natL 0).length=0 from rfl] at ha ⊢;obtain⟨W3,hW3⟩:=zx (w.alloc (.cells #[.int .u32 0] 107));obtain⟨g,hg⟩:=zx w.heap.size
  have hg3:W3.heap[g]?=some (.cells #[.int .u32 0] 107 (0,0)):=by rw[hW3,hg];exact zN _ _
  have hgl:g<W3.heap.size:=(zA.1 hg3).1;have HB3:=zh (show Below w.heap.size w W3 from by rw[hW3];exact(zB _ _).alloc (zR _) _);have hls:LS W3 (Bl W3.heap.size) (.slice (some ⟨g,0,none⟩) 1 1) [0]:=LS.cell1 W3 g 0 (by omega) hg3 _ hgl;have HT:=zh (trim_any _ _ _ W3 hls (fun _ h=>h) (by simp));rw[show trimL [0]=[] from rfl] at HT;have HW3:=zh hW3;have HGW:=zh hg;clear hg3 hgl hls hW3 hg ha;go_enter Tryz.func175,Tryz.ntmps175;go_upto_region 2 with fail;rw[<-HGW.out,<-HW3.out];clear hmk1 hmk2;go_wp2_with fail;go_loopg [6] 0 (fun z v6 wr=>v6=.int .i64 0/\W3=wr)
  case atStart=>exact⟨rfl,rfl⟩
  case round =>
   obtain⟨rfl,rfl⟩:=hrel;go_wp2_with fail;refine HT.out.mono ?_;rintro e w4 ⟨u,rfl,hO,hb4⟩;have HO:=zh (hO.base (B':=w.heap.size) HB3.out.size);have HB4:=zh (HB3.out.trans (hb4.mono HB3.out.size));clear hO hb4;go_wp2_with fail;go_ret;exact⟨_,rfl,by rw[Nat.zero_mul];exact HO.out,HB4.out⟩
 ·have ln:(natL n).length=1:=by rw[natL_pos h0];rfl
  obtain⟨A,c,rfl,-,-⟩:=ha.form;obtain⟨-,-,-,-,hc0,-⟩:=ha.cap (by rw[ln];omega);rw[ln] at ha hc0 ⊢
  have hc1:(1:Int)<=(c:Int):=by omega
  obtain⟨b1,o1,rfl,hR1,hk1⟩:=ha.one h0;have HC1:=zh hk1;have HR1:=zh hR1;clear ha ln hc0 hk1 hR1;obtain⟨W3,hW3⟩:=zx (w.alloc (.cells #[.int .u32 0,.int .u32 0] 107));obtain⟨g,hg⟩:=zx w.heap.size
  have hg3:W3.heap[g]?=some (.cells #[.int .u32 0,.int .u32 0] 107 (0,0)):=by rw[hW3,hg];exact zN _ _
  have hgl:g<W3.heap.size:=(zA.1 hg3).1;have HB3:=zh (show Below w.heap.size w W3 from by rw[hW3];exact(zB _ _).alloc (zR _) _);have HG:=zh (show w.heap.size<=g from by rw[hg];exact zR _);have k1:W3.cell? ⟨b1,o1,none⟩=some (.int .u32 (n:Int)):=(HB3.out.cell (p:=⟨b1,o1,none⟩) HR1.out).trans HC1.out;have k2:W3.cell? ⟨b2,o2,none⟩=some (.int .u32 (m:Int)):=(HB3.out.cell (p:=⟨b2,o2,none⟩) HR2.out).trans HC2.out
  have kg0:W3.cell? ⟨g,0,none⟩=some (.int .u32 0):=by rw[cell_of_row _ _ _ _ _ _ hg3];rfl
  have kg1:W3.cell? ⟨g,1,none⟩=some (.int .u32 0):=by rw[cell_of_row _ _ _ _ _ _ hg3];rfl
  have kf0:W3.frozen? ⟨g,0,none⟩=false:=frozen_of_row _ _ _ _ _ hg3;have kf1:W3.frozen? ⟨g,1,none⟩=false:=frozen_of_row _ _ _ _ _ hg3
  have e1:b1≠g:=by have:=HR1.out;have:=HG.out;unfold Bl at *;omega
  have e2:b2≠g:=by have:=HR2.out;have:=HG.out;unfold Bl at *;omega
  have HG3:=zh hg3;have HW3:=zh hW3;have HGW:=zh hg
  have n0:(0:Int)<=(n:Int):=by omega
  have n1:(n:Int)<4294967296:=by omega
  have m0:(0:Int)<=(m:Int):=by omega
  have m1:(m:Int)<4294967296:=by omega
  have hmul:=mul32 n m hnm;obtain⟨NM,hNM⟩:=zx (n*m);rw[<-hNM] at hmul hnm
  have q0:(0:Int)<=(NM:Int):=by omega
  have q1:(NM:Int)<4294967296:=by omega
  have HNM:=zh hNM
  have hdiv:(NM:Int) / 4294967296=0:=by omega
  clear hg3 hW3 hg hNM;go_enter Tryz.func175,Tryz.ntmps175;go_upto_region 2 with fail;rw[<-HGW.out,<-HW3.out];clear hmk1 hmk2;go_wp2_with fail;go_loopg [6,7,8,9] 1 (fun z v6 v7 v8 v9 wr=>(z=1/\v6=.int .i64 0/\W3=wr)\/(z=0/\v6=.int .i64 1/\Hid (wr.heap[g]?=some (.cells #[.int .u32 (NM:Int),.int .u32 0] 107 (0,0)))/\Hid (Below w.heap.size w wr)))
  case atStart=>exact .inl ⟨rfl,rfl,rfl⟩
  case round =>
   rcases hrel with ⟨rfl,rfl,rfl⟩ | ⟨rfl,rfl,hgc,hbr⟩
   ·go_wp2_with fail;go_loopg [7,8,9] 1 (fun z v7 v8 v9 wr=>(z=1/\v8=.int .i64 0/\v7=.int .u64 0/\W3=wr)\/(z=0/\v8=.int .i64 1/\v7=.int .u64 0/\Hid (wr.heap[g]?=some (.cells #[.int .u32 (NM:Int),.int .u32 0] 107 (0,0)))/\Hid (Below w.heap.size w wr)))
    case atStart=>exact .inl ⟨rfl,rfl,rfl,rfl⟩
    case round =>
     rcases hrel with ⟨rfl,rfl,rfl,rfl⟩ | ⟨rfl,rfl,rfl,hg4,hb4⟩
     ·go_wp2_with fail
      go_quiet (fail)
      obtain⟨W5,hW5⟩:=zx (W3.drewN nq);rw[<-hW5]
      have hg5:W5.heap[g]?=some (.cells #[.int .u32 0,.int .u32 0] 107 (0,0)):=by rw[hW5,drewN_heapV];exact HG3.out
      have HB5:=zh (show Below w.heap.size w W5 from by rw[hW5];exact Below.drewN' HB3.out nq);have HG5:=zh hg5
      have kg5:W5.cell? ⟨g,0,none⟩=some (.int .u32 0):=by rw[cell_of_row _ _ _ _ _ _ hg5];rfl
      have kf5:W5.frozen? ⟨g,0,none⟩=false:=frozen_of_row _ _ _ _ _ hg5;clear hW5 hg5 kg0 kg1 kf0 kf1 k1 k2;go_wp2_with fail;go_roundg 0
      case measure=>omega
      case rel=>exact .inr ⟨rfl,rfl,rfl,heap_setCell_same W5 g 0 _ _ _ HG5.out,HB5.out.setCell HG.out _⟩
     ·have kg4:wr.cell? ⟨g,1,none⟩=some (.int .u32 0):=by rw[cell_of_row _ _ _ _ _ _ hg4.out];rfl
      have kf4:wr.frozen? ⟨g,1,none⟩=false:=frozen_of_row _ _ _ _ _ hg4.out;clear kg0 kg1 kf0 kf1 k1 k2;go_wp2_with fail;go_roundg 0
      case measure=>omega
      case rel=>exact .inr ⟨rfl,rfl,heap_setCell_same wr g 1 _ _ _ hg4.out,hb4.out.setCell HG.out _⟩
   ·have hgl:g<wr.heap.size:=(zA.1 hgc.out).1;have hls:LS wr (Bl wr.heap.size) (.slice (some ⟨g,0,none⟩) 2 2) [NM,0]:=LS.cell2 wr g NM (by omega) hgc.out _ hgl;have HT:=zh (trim_any _ _ _ wr hls (fun _ h=>h) (by simp));rw[trim_two] at HT;have HBR:=zh hbr.out;clear hls hgc hbr hgl k1 k2 kg0 kg1 kf0 kf1;go_wp2_with fail;refine HT.out.mono ?_;rintro e w4 ⟨u,rfl,hO,hb4⟩;have HO:=zh (hO.base (B':=w.heap.size) HBR.out.size);have HB4:=zh (HBR.out.trans (hb4.mono HBR.out.size));clear hO hb4;go_wp2_with fail;go_ret;exact⟨_,rfl,by rw[<-HNM.out];exact HO.out,HB4.out⟩
theorem rmul_any(va vb:Value)(n m:Nat)(w:World)(ha:LS w (Bl w.heap.size) va (natL n))(hb:LS w (Bl w.heap.size) vb (natL m))(hm:0<m)(hnm:n*m<4294967296) :
  Calls Tryz.prog 163 #[va,vb] w fun e w'=>∃u,e=.returned (.tuple #[u,.int .i64 0])/\OwnL w' w.heap.size u (natL (n*m))/\Below w.heap.size w w':=by
 have HN:=zh ha.lt32;have HM:=zh hb.lt32;have HL1:=zh (rlarge_any va _ _ w ha (fun _ h=>h) (by have:=natL_length n;omega));have HA:=zh ha;have HB:=zh hb;have HM0:=zh hm;have HNM:=zh hnm;clear ha hb hm hnm;go_enter Tryz.func163,Tryz.ntmps163;go_wp2_with fail;refine HL1.out.mono ?_;rintro e w1 ⟨rfl,hb1⟩;have HB1:=zh hb1;have HL2:=zh (rlarge_any vb _ _ w1 (HB.out.below hb1) (fun _ h=>h) (by have:=natL_length m;omega));clear hb1;go_wp2_with fail;refine HL2.out.mono ?_;rintro e w2 ⟨rfl,hb2⟩;have HB2:=zh (HB1.out.trans (hb2.mono HB1.out.size));have HT1:=zh (trim_any va _ _ w2 (HA.out.below HB2.out) (fun _ h=>h) (by have:=natL_length n;omega));clear hb2;go_wp2_with fail;refine HT1.out.mono ?_;rintro e w3 ⟨u1,rfl,ho1,hb3⟩;rw[trim_natL] at ho1;have HO1:=zh ho1;have HB3:=zh (HB2.out.trans (hb3.mono HB2.out.size));have HT2:=zh (trim_any vb _ _ w3 (HB.out.below HB3.out) (fun _ h=>h) (by have:=natL_length m;omega));clear ho1 hb3;go_wp2_with fail;refine HT2.out.mono ?_;rintro e w4 ⟨u2,rfl,ho2,hb4⟩;rw[trim_natL] at ho2;have HB4:=zh (HB3.out.trans (hb4.mono HB3.out.size));have HT:=zh (rtimes_any u1 u2 n m w4 ((HO1.out.below hb4).lsBl (natL_mem HN.out)) (ho2.lsBl (natL_mem HM.out)) HM0.out HNM.out);clear ho2 hb4;go_wp2_with fail;refine HT.out.mono ?_;rintro e w5 ⟨u,rfl,ho,hb5⟩;have HB5:=zh (HB4.out.trans (hb5.mono HB4.out.size));have HO:=zh ho;have HL3:=zh (rlarge_any u _ _ w5 (ho.lsBl (natL_mem HNM.out)) (fun _ h=>h) (by have:=natL_length (n*m);omega));clear ho hb5;go_wp2_with fail;refine HL3.out.mono ?_;rintro e w6 ⟨rfl,hb6⟩;have HO6:=zh ((HO.out.below hb6).base (B':=w.heap.size) HB4.out.size);have HB6:=zh (HB5.out.trans (hb6.mono HB5.out.size));clear hb6;go_wp2_with fail;go_ret2;exact⟨_,rfl,HO6.out,HB6.out⟩
theorem rtm_any(va vb:Value)(n m:Nat)(w:World)(ha:LS w (Bl w.heap.size) va (natL n))(hb:LS w (Bl w.heap.size) vb (natL m))(hm:0<m)(hnm:n*m<4294967296) :
  Calls Tryz.prog 131 #[va,vb] w fun e w'=>∃u,e=.returned u/\OwnL w' w.heap.size u (natL (n*m))/\Below w.heap.size w w':=by
 have HM:=zh (rmul_any va vb n m w ha hb hm hnm);clear ha hb hm hnm;go_enter Tryz.func131,Tryz.ntmps131;go_wp2_with fail;refine HM.out.mono ?_;rintro e w1 ⟨u,rfl,ho,hb⟩;have HO:=zh ho;clear ho;go_wp2_with fail;go_ret;exact⟨_,rfl,HO.out,hb⟩
theorem lowF_one{n m:Nat}(h:Nat.gcd n m=1):lowF false n m=⟨false,n,m⟩:=by
 unfold lowF;split
 ·rename_i h0;subst h0;rw[Nat.gcd_zero_left] at h;rw[h]
 ·rw[h,Nat.div_one,Nat.div_one]
theorem rlow1_any(va vb:Value)(n m:Nat)(w:World)(ha:LS w (Bl w.heap.size) va (natL n))(hb:LS w (Bl w.heap.size) vb (natL m))(hm:0<m)(hg:Nat.gcd n m=1) :
  Calls Tryz.prog 67 #[.bool false,va,vb] w fun e w'=>∃un um,e=.returned (.agg #[.bool false,un,um])/\LS w' (Fr w.heap.size w'.heap.size) un (natL n)/\LS w' (Fr w.heap.size w'.heap.size) um (natL m)/\Below w.heap.size w w':=by
 refine(rlowest_any false va vb n m w ha hb hm).mono ?_;rintro e w' ⟨v,rfl,⟨un,um,rfl,h1,h2⟩,h3⟩;rw[lowF_one hg] at h1 h2 ⊢;exact⟨un,um,rfl,h1,h2,h3⟩
theorem rvalid_any(neg:Bool)(va vb:Value)(n m:Nat)(w:World)(ha:LS w (Bl w.heap.size) va (natL n))(hb:LS w (Bl w.heap.size) vb (natL m))(hm:0<m) :
  Calls Tryz.prog 85 #[.agg #[.bool neg,va,vb]] w fun e w'=>e=.returned (.bool true)/\Below w.heap.size w w':=by
 obtain⟨An,Nn,cn,rfl⟩:=ha.frm;obtain⟨Ad,Nd,cd,rfl⟩:=hb.frm;obtain⟨W0,hW0⟩:=zx (w.alloc (.cells #[.bool neg,.slice An Nn cn,.slice Ad Nd cd] 26));obtain⟨q,hq⟩:=zx w.heap.size
 have hb0:Below w.heap.size w W0:=by rw[hW0];exact(zB _ _).alloc (zR _) _
 have hqk:W0.heap[q]?=some (.cells #[.bool neg,.slice An Nn cn,.slice Ad Nd cd] 26 (0,0)):=by rw[hW0,hq];exact zN _ _
 have hql:q<W0.heap.size:=(zA.1 hqk).1;have HC:=zh (fun(w':World) (hb:Below W0.heap.size W0 w')=>cells3 ((hb.block q hql).trans hqk));have HA:=zh (fun(w':World) (hb:Below W0.heap.size W0 w')=>trim_any _ _ _ w' ((ha.below hb0).below hb) (fun _ h=>h) (by have:=natL_length n;omega));have HB:=zh (fun(w':World) (hb':Below W0.heap.size W0 w')=>trim_any _ _ _ w' ((hb.below hb0).below hb') (fun _ h=>h) (by have:=natL_length m;omega));rw[trim_natL] at HA HB
 have hL:(natL m).length=1:=by rw[natL_pos hm];rfl
 have HL:=zh hL;have HN:=zh (natL_length n);have HW0:=zh hW0;have HQ:=zh hq;have HB0:=zh hb0;obtain⟨c0,c1,c2,-⟩:=HC.out W0 (zB _ _);clear ha hb hW0 hq hb0 hqk hql hL;go_enter Tryz.func85,Tryz.ntmps85;go_wp2_with fail;rw[<-HW0.out,<-HQ.out];refine(HB.out W0 (zB _ _)).mono ?_;rintro e w1 ⟨u1,rfl,ho1,hb1⟩
 obtain⟨A1,k1,rfl⟩:∃A c,u1=.slice A 1 c:=by obtain⟨A,c,e⟩:=own_form ho1;exact⟨A,c,by rw[e,HL.out]⟩
 have HB1:=zh hb1;clear c0 c1 c2 ho1 hb1;obtain⟨c0,c1,c2,-⟩:=HC.out w1 HB1.out;go_wp2_with fail;refine(HB.out w1 HB1.out).mono ?_;rintro e w2 ⟨u1,rfl,ho1,hb1⟩
 obtain⟨A2,k2,rfl⟩:∃A c,u1=.slice A 1 c:=by obtain⟨A,c,e⟩:=own_form ho1;exact⟨A,c,by rw[e,HL.out]⟩
 have HB2:=zh (HB1.out.trans (hb1.mono HB1.out.size));clear c0 c1 c2 ho1 hb1;obtain⟨c0,c1,c2,-⟩:=HC.out w2 HB2.out;go_wp2_with fail;refine(HA.out w2 HB2.out).mono ?_;rintro e w3 ⟨u1,rfl,ho1,hb1⟩
 obtain⟨A3,L,k3,hL,rfl⟩:∃A L c,L<=1/\u1=.slice A L c:=by obtain⟨A,c,e⟩:=own_form ho1;exact⟨A,_,c,HN.out,e⟩
 have HB3:=zh (HB2.out.trans (hb1.mono HB2.out.size));have hL2:decide ((L:Int)<=128)=true:=decide_eq_true (by omega)
 have hL3:(L:Int)<=128:=by omega
 clear c0 c1 c2 ho1 hb1;go_wp2_with fail;go_ret;exact⟨rfl,HB0.out.trans (HB3.out.mono HB0.out.size)⟩
theorem rreduce_any(va vb:Value)(n m:Nat)(w:World)(ha:LS w (Bl w.heap.size) va (natL n))(hb:LS w (Bl w.heap.size) vb (natL m))(hm:0<m)(hg:Nat.gcd n m=1) :
  Calls Tryz.prog 83 #[.agg #[.bool false,va,vb]] w fun e w'=>∃un um,e=.returned (.tuple #[.agg #[.bool false,un,um],.int .i64 0])/\LS w' (Fr w.heap.size w'.heap.size) un (natL n)/\LS w' (Fr w.heap.size w'.heap.size) um (natL m)/\Below w.heap.size w w':=by
 obtain⟨An,Nn,cn,rfl⟩:=ha.frm;obtain⟨Ad,Nd,cd,rfl⟩:=hb.frm;obtain⟨W0,hW0⟩:=zx ((w.alloc (.cells #[.bool false,.slice An Nn cn,.slice Ad Nd cd] 26)).alloc (.cells #[.bool false,.slice none 0 0,.slice none 0 0] 26));obtain⟨q,hq⟩:=zx w.heap.size;obtain⟨g,hgq⟩:=zx (w.heap.size+1)
 have hb0:Below w.heap.size w W0:=by rw[hW0];exact((zB _ _).alloc (zR _) _).alloc (by simp) _
 have hbk:W0.heap[g]?=some (.cells #[.bool false,.slice none 0 0,.slice none 0 0] 26 (0,0)):=by
  have h0:=zN (w.alloc (.cells #[.bool false,.slice An Nn cn,.slice Ad Nd cd] 26)) (.cells #[.bool false,.slice none 0 0,.slice none 0 0] 26);rw[show(w.alloc (.cells #[.bool false,.slice An Nn cn,.slice Ad Nd cd] 26)).heap.size=g by rw[hgq];simp] at h0;rw[hW0];exact h0
 have hqk:W0.heap[q]?=some (.cells #[.bool false,.slice An Nn cn,.slice Ad Nd cd] 26 (0,0)):=by
  rw[hW0,hq];exact(zH _ _ _ (by simp)).trans (zN w _)
 have hgl:g<W0.heap.size:=(zA.1 hbk).1;have hql:q<W0.heap.size:=(zA.1 hqk).1;obtain⟨c0,c1,c2,-⟩:=cells3 hqk;have HA0:=zh (ha.below hb0);have HBV:=zh (hb.below hb0);have HV:=zh (rvalid_any false _ _ n m W0 HA0.out HBV.out hm);have HW0:=zh hW0;have HGQ:=zh (show q=w.heap.size/\g=w.heap.size+1 from⟨hq,hgq⟩);have HB0:=zh hb0;have HBK:=zh hbk;have HGL:=zh hgl;have HQL:=zh hql;clear ha hb hW0 hb0 hbk hgl hql hqk hgq hq;go_enter Tryz.func83,Tryz.ntmps83;go_wp2_with fail;rw[<-HW0.out,<-HGQ.out.2,<-HGQ.out.1];refine HV.out.mono ?_;rintro e w1 ⟨rfl,hb1⟩;have k0:w1.cell? ⟨q,0,none⟩=some (.bool false):=(hb1.cell (p:=⟨q,0,none⟩) HQL.out).trans c0;have k1:w1.cell? ⟨q,1,none⟩=some (.slice An Nn cn):=(hb1.cell (p:=⟨q,1,none⟩) HQL.out).trans c1;have k2:w1.cell? ⟨q,2,none⟩=some (.slice Ad Nd cd):=(hb1.cell (p:=⟨q,2,none⟩) HQL.out).trans c2;have HL:=zh (rlow1_any _ _ n m w1 (HA0.out.below hb1) (HBV.out.below hb1) hm hg);have HB1:=zh hb1;clear hb1 c0 c1 c2;go_wp2_with fail;refine HL.out.mono ?_;rintro e w2 ⟨un,um,rfl,hun,hum,hb2⟩;obtain⟨A1,N1,c1,rfl⟩:=hun.frm;obtain⟨A2,N2,c2,rfl⟩:=hum.frm;have hb12:=HB1.out.trans (hb2.mono HB1.out.size);have hk:=(hb12.block g HGL.out).trans HBK.out;obtain⟨l0,l1,l2,f0,f1,f2⟩:=cells3 hk;have hbw:=HB0.out.trans (hb12.mono HB0.out.size)
 have hgw:w.heap.size<=g:=by rw[HGQ.out.2];omega
 have hs0:=HB0.out.size;have hs1:=HB1.out.size;have HX:=zh (box3 hk hbw hgw (.bool false) (.slice A1 N1 c1) (.slice A2 N2 c2) hun (fun b hb=>⟨by have:=hb.1;have:=HGL.out;omega,by have:=hb.1;omega,hb.2⟩) hum (fun b hb=>⟨by have:=hb.1;have:=HGL.out;omega,by have:=hb.1;omega,hb.2⟩));clear hun hum hb2 hb12 hk hbw hgw hs0 hs1 k0 k1 k2;go_wp2_with fail;obtain⟨Wf,hWf⟩:=zx (((w2.setCell ⟨g,0,none⟩ (.bool false)).setCell ⟨g,1,none⟩ (.slice A1 N1 c1)).setCell ⟨g,2,none⟩ (.slice A2 N2 c2));obtain⟨x0,x1,x2,hl1,hl2,hbf⟩:=HX.out Wf hWf;rw[<-hWf];clear hWf l0 l1 l2 f0 f1 f2;exact bodyPost_ret (v:=.tuple #[.agg #[.bool false,.slice A1 N1 c1,.slice A2 N2 c2],.int .i64 0]) (by simp[results,Tryz.results83,go_sem,x0,x1,x2]) rfl ⟨_,_,rfl,hl1,hl2,hbf⟩
theorem rfrac1_any(n:Nat)(w:World)(hn:n<4294967296) :
  Calls Tryz.prog 27 #[.int .i64 (n:Int),.int .i64 1] w fun e w'=>∃un um,e=.returned (.tuple #[.agg #[.bool false,un,um],.int .i64 0])/\LS w' (Fr w.heap.size w'.heap.size) un (natL n)/\LS w' (Fr w.heap.size w'.heap.size) um (natL 1)/\Below w.heap.size w w':=by
 refine(rfrac_any n 1 w hn (by omega) (by omega)).mono ?_;rintro e w' ⟨v,rfl,⟨un,um,rfl,h1,h2⟩,h3⟩;rw[lowF_one (Nat.gcd_one_right n)] at h1 h2 ⊢;exact⟨un,um,rfl,h1,h2,h3⟩
theorem rint_any(n:Nat)(w:World)(hn:n<4294967296) :
  Calls Tryz.prog 146 #[.int .i64 (n:Int)] w fun e w'=>∃un um,e=.returned (.agg #[.bool false,un,um])/\LS w' (Fr w.heap.size w'.heap.size) un (natL n)/\LS w' (Fr w.heap.size w'.heap.size) um (natL 1)/\Below w.heap.size w w':=by
 obtain⟨W0,hW0⟩:=zx (w.alloc (.cells #[.bool false,.slice none 0 0,.slice none 0 0] 26));obtain⟨g,hg⟩:=zx w.heap.size
 have hb0:Below w.heap.size w W0:=by rw[hW0];exact(zB _ _).alloc (zR _) _
 have hbk:W0.heap[g]?=some (.cells #[.bool false,.slice none 0 0,.slice none 0 0] 26 (0,0)):=by rw[hW0,hg];exact zN _ _
 have hgl:g<W0.heap.size:=(zA.1 hbk).1;have HW0:=zh hW0;have HG:=zh hg;have HB0:=zh hb0;have HBK:=zh hbk;have HGL:=zh hgl;have HF:=zh (rfrac1_any n W0 hn);clear hW0 hg hb0 hbk hgl hn;go_enter Tryz.func146,Tryz.ntmps146;go_wp2_with fail;rw[<-HW0.out,<-HG.out];refine HF.out.mono ?_;rintro e w1 ⟨un,um,rfl,h1,h2,hb1⟩;obtain⟨A1,N1,e1,rfl⟩:=h1.frm;obtain⟨A2,N2,e2,rfl⟩:=h2.frm;obtain⟨W2,hW2⟩:=zx (w1.alloc (.cells #[.bool false,.slice A1 N1 e1,.slice A2 N2 e2] 26));obtain⟨p,hp⟩:=zx w1.heap.size
 have hb2:Below w1.heap.size w1 W2:=by rw[hW2];exact(zB _ _).alloc (zR _) _
 have hpk:W2.heap[p]?=some (.cells #[.bool false,.slice A1 N1 e1,.slice A2 N2 e2] 26 (0,0)):=by rw[hW2,hp];exact zN _ _
 obtain⟨c0,c1,c2,-⟩:=cells3 hpk;have hb12:=hb1.trans (hb2.mono hb1.size);have hk:=(hb12.block g HGL.out).trans HBK.out;obtain⟨l0,l1,l2,f0,f1,f2⟩:=cells3 hk;have hbw:=HB0.out.trans (hb12.mono HB0.out.size)
 have hgw:w.heap.size<=g:=by rw[HG.out];omega
 have hs0:=HB0.out.size;have hgl:=HGL.out;have h1':=h1.keep (fun b hb=>hb2.block b hb.2);have h2':=h2.keep (fun b hb=>hb2.block b hb.2);have HX:=zh (box3 hk hbw hgw (.bool false) (.slice A1 N1 e1) (.slice A2 N2 e2) h1' (fun b hb=>⟨by have:=hb.1;omega,by have:=hb.1;omega,zM hb.2 hb2.size⟩) h2' (fun b hb=>⟨by have:=hb.1;omega,by have:=hb.1;omega,zM hb.2 hb2.size⟩));have HW2:=zh hW2;have HP:=zh hp;clear h1 h2 h1' h2' hb1 hb2 hb12 hk hbw hgw hs0 hgl hW2 hp hpk;go_upto_region 2 with fail;rw[<-HW2.out,<-HP.out];go_wp2_with fail;obtain⟨Wf,hWf⟩:=zx (((W2.setCell ⟨g,0,none⟩ (.bool false)).setCell ⟨g,1,none⟩ (.slice A1 N1 e1)).setCell ⟨g,2,none⟩ (.slice A2 N2 e2));obtain⟨x0,x1,x2,hl1,hl2,hbf⟩:=HX.out Wf hWf;rw[<-hWf];clear hWf l0 l1 l2 c0 c1 c2;exact bodyPost_ret (v:=.agg #[.bool false,.slice A1 N1 e1,.slice A2 N2 e2]) (by simp[results,Tryz.results146,go_sem,x0,x1,x2]) rfl ⟨_,_,rfl,hl1,hl2,hbf⟩
theorem rsmall_any(va vb:Value)(n m:Nat)(w:World)(ha:LS w (Bl w.heap.size) va (natL n))(hb:LS w (Bl w.heap.size) vb (natL m))(hm:0<m)(hg:Nat.gcd n m=1) :
  Calls Tryz.prog 102 #[.agg #[.bool false,va,vb]] w fun e w'=>e=.returned (.bool true)/\Below w.heap.size w w':=by
 obtain⟨An,Nn,cn,rfl⟩:=ha.frm;obtain⟨Ad,Nd,cd,rfl⟩:=hb.frm;obtain⟨W0,hW0⟩:=zx (w.alloc (.cells #[.bool false,.slice An Nn cn,.slice Ad Nd cd] 26));obtain⟨q,hq⟩:=zx w.heap.size
 have hb0:Below w.heap.size w W0:=by rw[hW0];exact(zB _ _).alloc (zR _) _
 have hqk:W0.heap[q]?=some (.cells #[.bool false,.slice An Nn cn,.slice Ad Nd cd] 26 (0,0)):=by rw[hW0,hq];exact zN _ _
 obtain⟨c0,c1,c2,-⟩:=cells3 hqk;have HR:=zh (rreduce_any _ _ n m W0 (ha.below hb0) (hb.below hb0) hm hg);have HN:=zh (natL_length n);have HM:=zh (natL_length m);have HW0:=zh hW0;have HQ:=zh hq;have HB0:=zh hb0;clear ha hb hW0 hq hb0 hqk;go_enter Tryz.func102,Tryz.ntmps102;go_wp2_with fail;rw[<-HW0.out,<-HQ.out];refine HR.out.mono ?_;rintro e w1 ⟨un,um,rfl,h1,h2,hb1⟩
 obtain⟨A1,N1,e1,hN1,rfl⟩:∃A L c,L<=1/\un=.slice A L c:=by obtain⟨A,c,e,-⟩:=h1.form;exact⟨A,_,c,HN.out,e⟩
 obtain⟨A2,N2,e2,hN2,rfl⟩:∃A L c,L<=1/\um=.slice A L c:=by obtain⟨A,c,e,-⟩:=h2.form;exact⟨A,_,c,HM.out,e⟩
 have HB1:=zh (HB0.out.trans (hb1.mono HB0.out.size));obtain⟨W2,hW2⟩:=zx (w1.alloc (.cells #[.bool false,.slice A1 N1 e1,.slice A2 N2 e2] 26));obtain⟨p,hp⟩:=zx w1.heap.size
 have hpk:W2.heap[p]?=some (.cells #[.bool false,.slice A1 N1 e1,.slice A2 N2 e2] 26 (0,0)):=by rw[hW2,hp];exact zN _ _
 have HB2:=zh (show Below w.heap.size w W2 by rw[hW2];exact HB1.out.alloc HB1.out.size _);have HW2:=zh hW2;have HP:=zh hp;have hL1:decide ((N1:Int)<=1)=true:=decide_eq_true (by omega);have hL2:decide ((N2:Int)<=1)=true:=decide_eq_true (by omega)
 have hL3:(N1:Int)<=1:=by omega
 have hL4:(N2:Int)<=1:=by omega
 clear h1 h2 hb1 c0 c1 c2 hW2 hp hN1 hN2;obtain⟨c0,c1,c2,-⟩:=cells3 hpk;clear hpk;go_upto_region 2 with fail;rw[<-HW2.out,<-HP.out];go_wp2_with fail;go_ret;exact⟨rfl,HB2.out⟩
theorem rorder_any(xn xd yn yd:Value)(a b c d:Nat)(w:World)(hxn:LS w (Bl w.heap.size) xn (natL a))(hxd:LS w (Bl w.heap.size) xd (natL b))(hyn:LS w (Bl w.heap.size) yn (natL c))(hyd:LS w (Bl w.heap.size) yd (natL d))(h0b:0<b)(h0d:0<d)(h1:a*d<4294967296)(h2:c*b<4294967296) :
  Calls Tryz.prog 86 #[.agg #[.bool false,xn,xd],.agg #[.bool false,yn,yd]] w fun e w'=>e=.returned (.int .i64 (cmpI (a*d) (c*b)))/\Below w.heap.size w w':=by
 obtain⟨An,Nn,cn,rfl⟩:=hxn.frm;obtain⟨Ad,Nd,cd,rfl⟩:=hxd.frm;obtain⟨Bn,Mn,dn,rfl⟩:=hyn.frm;obtain⟨Bd,Md,dd,rfl⟩:=hyd.frm;obtain⟨W0,hW0⟩:=zx ((w.alloc (.cells #[.bool false,.slice An Nn cn,.slice Ad Nd cd] 26)).alloc (.cells #[.bool false,.slice Bn Mn dn,.slice Bd Md dd] 26));obtain⟨q,hq⟩:=zx w.heap.size;obtain⟨p,hp⟩:=zx (w.heap.size+1)
 have hb0:Below w.heap.size w W0:=by rw[hW0];exact((zB _ _).alloc (zR _) _).alloc (by simp) _
 have hpk:W0.heap[p]?=some (.cells #[.bool false,.slice Bn Mn dn,.slice Bd Md dd] 26 (0,0)):=by
  rw[hW0];exact heap_alloc_at _ _ _ (by rw[hp];simp)
 have hqk:W0.heap[q]?=some (.cells #[.bool false,.slice An Nn cn,.slice Ad Nd cd] 26 (0,0)):=by
  rw[hW0,hq];exact(zH _ _ _ (by simp)).trans (zN w _)
 have hpl:p<W0.heap.size:=(zA.1 hpk).1;have hql:q<W0.heap.size:=(zA.1 hqk).1;obtain⟨c0,c1,c2,-⟩:=cells3 hqk;obtain⟨d0,d1,d2,-⟩:=cells3 hpk;obtain⟨x1,hx1⟩:=zx (Value.slice An Nn cn);obtain⟨x2,hx2⟩:=zx (Value.slice Ad Nd cd);obtain⟨y1,hy1⟩:=zx (Value.slice Bn Mn dn);obtain⟨y2,hy2⟩:=zx (Value.slice Bd Md dd);have H1:=zh (hxn.below hb0);have H2:=zh (hxd.below hb0);have H3:=zh (hyn.below hb0);have H4:=zh (hyd.below hb0);have H5:=zh (show a*d<4294967296/\c*b<4294967296 from⟨h1,h2⟩);have HW0:=zh hW0;have HQ:=zh (show q=w.heap.size/\p=w.heap.size+1 from⟨hq,hp⟩);have HQP:=zh (show q<W0.heap.size/\p<W0.heap.size from⟨hql,hpl⟩);have HB0:=zh hb0;clear hW0 hq hp hb0 hpk hqk hpl hql hxn hxd hyn hyd;go_enter Tryz.func86,Tryz.ntmps86;go_upto_region 1 with fail;rw[<-HW0.out,<-HQ.out.2,<-HQ.out.1];clear HW0 HQ;rw[<-hx1] at H1 c1 ⊢;rw[<-hx2] at H2 c2 ⊢;rw[<-hy1] at H3 d1 ⊢;rw[<-hy2] at H4 d2 ⊢;have HT1:=zh (fun W (h:HeldF W0 q p (.bool false) x1 x2 (.bool false) y1 y2 W)=>rtm_any x1 y2 a d W (h.ls H1.out) (h.ls H4.out) h0d h1);have HT2:=zh (fun W (h:HeldF W0 q p (.bool false) x1 x2 (.bool false) y1 y2 W)=>rtm_any y1 x2 c b W (h.ls H3.out) (h.ls H2.out) h0b h2);have HS0:=zh (show HeldF W0 q p (.bool false) x1 x2 (.bool false) y1 y2 W0.drew from⟨c0,c1,c2,d0,d1,d2,(zB _ _).drew⟩);clear hx1 hx2 hy1 hy2 c0 c1 c2 d0 d1 d2 h1 h2;refine region_tail (S:=(fun w'=>w'.cell? ⟨q,0,none⟩=some (.bool false)/\w'.cell? ⟨q,1,none⟩=some x1/\w'.cell? ⟨q,2,none⟩=some x2/\w'.cell? ⟨p,0,none⟩=some (.bool false)/\w'.cell? ⟨p,1,none⟩=some y1/\w'.cell? ⟨p,2,none⟩=some y2/\Below W0.heap.size W0 w')) [] (by kernel_rfl) HS0.out (fun hHeld=>?_);refine tk 0 9 ?_;refine tk 1 10 ?_;refine tk 2 11 ?_;refine tk 3 12 ?_;refine tk 5 14 ?_;refine tk 6 15 ?_;refine tk 7 16 ?_;refine tk 8 17 ?_;refine readyT (rs:=[4]) (by kernel_rfl) (by simp) ?_;refine zC rfl (fun K hK=>?_) ?_
 ·go_simp;(go_at_call 131;refine(HT1.out _ (by assumption)).mono ?_;rintro e w5 ⟨u5,rfl,hu5,hb5⟩);go_wp2_with fail;refine hK.out _ _ ?_ (fun hHeld=>?_)
  ·(first|exact HeldF.below (by assumption) hb6 HQP.out.1 HQP.out.2|exact HeldF.below (by assumption) hb5 HQP.out.1 HQP.out.2)
  clear hK K;(try simp only[Act.put,z1,z2,z3]);refine readyT (rs:=[9]) (by kernel_rfl) (by simp) ?_;refine zC rfl (fun K hK=>?_) ?_
  ·go_simp;(go_at_call 131;refine(HT2.out _ (by assumption)).mono ?_;rintro e w6 ⟨u6,rfl,hu6,hb6⟩);go_wp2_with fail;refine hK.out _ _ ?_ (fun hHeld=>?_)
   ·(first|exact HeldF.below (by assumption) hb6 HQP.out.1 HQP.out.2|exact HeldF.below (by assumption) hb5 HQP.out.1 HQP.out.2)
   clear hK K;(try simp only[Act.put,z1,z2,z3]);refine tk 10 5 ?_;refine tk 11 6 ?_;refine doneT (by kernel_rfl) ?_ _;have HBZ:=zh (HeldF.bl (q:=q) (p:=p) (by assumption));obtain⟨d0,d1,d2,e0,e1,e2,-⟩:=hHeld;have HCM:=zh (rcmp_any u5 u6 (a*d) (c*b) _ _ w6 ((hu5.below hb6).lsBl (natL_mem H5.out.1)) (hu6.lsBl (natL_mem H5.out.2)) (fun _ h=>h) (fun _ h=>h));clear hu5 hu6 hb5 hb6;go_wp2_with fail;refine HCM.out.mono ?_;rintro e w7 ⟨rfl,hb7⟩;have HB7:=zh (HBZ.out.trans (hb7.mono HBZ.out.size));clear hb7 d0 d1 d2 e0 e1 e2;go_wp2_with fail;go_ret;exact⟨rfl,HB0.out.trans (HB7.out.mono HB0.out.size)⟩
  exact zE
 exact zE
theorem rless_any(xn xd yn yd:Value)(a b c d:Nat)(w:World)(hxn:LS w (Bl w.heap.size) xn (natL a))(hxd:LS w (Bl w.heap.size) xd (natL b))(hyn:LS w (Bl w.heap.size) yn (natL c))(hyd:LS w (Bl w.heap.size) yd (natL d))(h0b:0<b)(h0d:0<d)(h1:a*d<4294967296)(h2:c*b<4294967296) :
  Calls Tryz.prog 149 #[.agg #[.bool false,xn,xd],.agg #[.bool false,yn,yd]] w fun e w'=>e=.returned (.bool (decide (cmpI (a*d) (c*b)<0)))/\Below w.heap.size w w':=by
 obtain⟨An,Nn,cn,rfl⟩:=hxn.frm;obtain⟨Ad,Nd,cd,rfl⟩:=hxd.frm;obtain⟨Bn,Mn,dn,rfl⟩:=hyn.frm;obtain⟨Bd,Md,dd,rfl⟩:=hyd.frm;obtain⟨W0,hW0⟩:=zx ((w.alloc (.cells #[.bool false,.slice An Nn cn,.slice Ad Nd cd] 26)).alloc (.cells #[.bool false,.slice Bn Mn dn,.slice Bd Md dd] 26));obtain⟨q,hq⟩:=zx w.heap.size;obtain⟨p,hp⟩:=zx (w.heap.size+1)
 have hb0:Below w.heap.size w W0:=by rw[hW0];exact((zB _ _).alloc (zR _) _).alloc (by simp) _
 have hpk:W0.heap[p]?=some (.cells #[.bool false,.slice Bn Mn dn,.slice Bd Md dd] 26 (0,0)):=by
  rw[hW0];exact heap_alloc_at _ _ _ (by rw[hp];simp)
 have hqk:W0.heap[q]?=some (.cells #[.bool false,.slice An Nn cn,.slice Ad Nd cd] 26 (0,0)):=by
  rw[hW0,hq];exact(zH _ _ _ (by simp)).trans (zN w _)
 have hpl:p<W0.heap.size:=(zA.1 hpk).1;have hql:q<W0.heap.size:=(zA.1 hqk).1;obtain⟨c0,c1,c2,-⟩:=cells3 hqk;obtain⟨d0,d1,d2,-⟩:=cells3 hpk;obtain⟨x1,hx1⟩:=zx (Value.slice An Nn cn);obtain⟨x2,hx2⟩:=zx (Value.slice Ad Nd cd);obtain⟨y1,hy1⟩:=zx (Value.slice Bn Mn dn);obtain⟨y2,hy2⟩:=zx (Value.slice Bd Md dd);have H1:=zh (hxn.below hb0);have H2:=zh (hxd.below hb0);have H3:=zh (hyn.below hb0);have H4:=zh (hyd.below hb0);have H5:=zh (show a*d<4294967296/\c*b<4294967296 from⟨h1,h2⟩);have HW0:=zh hW0;have HQ:=zh (show q=w.heap.size/\p=w.heap.size+1 from⟨hq,hp⟩);have HQP:=zh (show q<W0.heap.size/\p<W0.heap.size from⟨hql,hpl⟩);have HB0:=zh hb0;clear hW0 hq hp hb0 hpk hqk hpl hql hxn hxd hyn hyd;have HO:=zh (rorder_any _ _ _ _ a b c d W0 H1.out H2.out H3.out H4.out h0b h0d h1 h2);obtain⟨C,hC⟩:=zx (cmpI (a*d) (c*b));rw[<-hC] at HO ⊢;clear hx1 hx2 hy1 hy2 h1 h2 hC;go_enter Tryz.func149,Tryz.ntmps149;go_wp2_with fail;rw[<-HW0.out,<-HQ.out.2,<-HQ.out.1];clear HW0 HQ;refine HO.out.mono ?_;rintro e w2 ⟨rfl,hb2⟩;have HB2:=zh (HB0.out.trans (hb2.mono HB0.out.size));clear hb2 c0 c1 c2 d0 d1 d2;go_wp2_with fail;go_ret;exact⟨rfl,HB2.out⟩
theorem rsame_any(xn xd yn yd:Value)(a b c d:Nat)(w:World)(hxn:LS w (Bl w.heap.size) xn (natL a))(hxd:LS w (Bl w.heap.size) xd (natL b))(hyn:LS w (Bl w.heap.size) yn (natL c))(hyd:LS w (Bl w.heap.size) yd (natL d))(h0b:0<b)(h0d:0<d)(h1:a*d<4294967296)(h2:c*b<4294967296) :
  Calls Tryz.prog 87 #[.agg #[.bool false,xn,xd],.agg #[.bool false,yn,yd]] w fun e w'=>e=.returned (.bool (decide (cmpI (a*d) (c*b)=0)))/\Below w.heap.size w w':=by
 obtain⟨An,Nn,cn,rfl⟩:=hxn.frm;obtain⟨Ad,Nd,cd,rfl⟩:=hxd.frm;obtain⟨Bn,Mn,dn,rfl⟩:=hyn.frm;obtain⟨Bd,Md,dd,rfl⟩:=hyd.frm;obtain⟨W0,hW0⟩:=zx ((w.alloc (.cells #[.bool false,.slice An Nn cn,.slice Ad Nd cd] 26)).alloc (.cells #[.bool false,.slice Bn Mn dn,.slice Bd Md dd] 26));obtain⟨q,hq⟩:=zx w.heap.size;obtain⟨p,hp⟩:=zx (w.heap.size+1)
 have hb0:Below w.heap.size w W0:=by rw[hW0];exact((zB _ _).alloc (zR _) _).alloc (by simp) _
 have hpk:W0.heap[p]?=some (.cells #[.bool false,.slice Bn Mn dn,.slice Bd Md dd] 26 (0,0)):=by
  rw[hW0];exact heap_alloc_at _ _ _ (by rw[hp];simp)
 have hqk:W0.heap[q]?=some (.cells #[.bool false,.slice An Nn cn,.slice Ad Nd cd] 26 (0,0)):=by
  rw[hW0,hq];exact(zH _ _ _ (by simp)).trans (zN w _)
 have hpl:p<W0.heap.size:=(zA.1 hpk).1;have hql:q<W0.heap.size:=(zA.1 hqk).1;obtain⟨c0,c1,c2,-⟩:=cells3 hqk;obtain⟨d0,d1,d2,-⟩:=cells3 hpk;obtain⟨x1,hx1⟩:=zx (Value.slice An Nn cn);obtain⟨x2,hx2⟩:=zx (Value.slice Ad Nd cd);obtain⟨y1,hy1⟩:=zx (Value.slice Bn Mn dn);obtain⟨y2,hy2⟩:=zx (Value.slice Bd Md dd);have H1:=zh (hxn.below hb0);have H2:=zh (hxd.below hb0);have H3:=zh (hyn.below hb0);have H4:=zh (hyd.below hb0);have H5:=zh (show a*d<4294967296/\c*b<4294967296 from⟨h1,h2⟩);have HW0:=zh hW0;have HQ:=zh (show q=w.heap.size/\p=w.heap.size+1 from⟨hq,hp⟩);have HQP:=zh (show q<W0.heap.size/\p<W0.heap.size from⟨hql,hpl⟩);have HB0:=zh hb0;clear hW0 hq hp hb0 hpk hqk hpl hql hxn hxd hyn hyd;have HO:=zh (rorder_any _ _ _ _ a b c d W0 H1.out H2.out H3.out H4.out h0b h0d h1 h2);obtain⟨C,hC⟩:=zx (cmpI (a*d) (c*b));rw[<-hC] at HO ⊢;clear hx1 hx2 hy1 hy2 h1 h2 hC;go_enter Tryz.func87,Tryz.ntmps87;go_wp2_with fail;rw[<-HW0.out,<-HQ.out.2,<-HQ.out.1];clear HW0 HQ;refine HO.out.mono ?_;rintro e w2 ⟨rfl,hb2⟩;have HB2:=zh (HB0.out.trans (hb2.mono HB0.out.size));clear hb2 c0 c1 c2 d0 d1 d2;go_wp2_with fail;go_ret;exact⟨ret_bool (by by_cases h:C=0 <;> simp[h]),HB2.out⟩
theorem app_l{ops:Array Oper}{rest:List Oper}{o:Oper}{a:Act}{Q:Exit->Act->World->Prop}{w:World}(x0:Nat)(s x:Operand)(hgd:o.guard=none)(ho:o.op=.call { callee:=.builtin .append,args:=#[s,x],argTypes:=#[24,24] })
  (base:Nat) (v:Value) (n:Nat) (xs:List Nat) (hl:xs.length=n) (hs:a.eval s=v) (hown:w.ownsRow base 107 1 v n (xs.map u32V))
  (hx:a.eval x=.slice (some ⟨w.heap.size,0,none⟩) 1 1) (hn:n+1<=16777216) (hbase:base<=w.heap.size)
  (h:∀v' w',OwnL w' base v' (xs++[x0])->w.grownBy w' v.ownBlock->wpList Tryz.prog ops Q rest (a.put o.dst v') w') :
  wpList Tryz.prog ops Q (o :: rest) a (w.alloc (.cells #[.int .u32 (x0:Int)] 107)):=by
 obtain⟨i0,hi0,hz0,hz1,hz2⟩:=info_parts info_u32;refine wpList_append1 hgd s x _ ho base i0 _ 1 4 Tryz.underlying24 hi0 hz0 hz1 hz2 rfl (by omega) (by omega) v n _ hs hown hx rfl (by simp;rfl) hn hbase (fun v' w' h1 h2 _=>h v' w' ?_ h2);unfold OwnL;rw[zP,hl,List.map_append];exact h1
theorem LS.zero_form{w:World}{R:Nat->Prop}{v:Value}(h:LS w R v (natL 0)):∃A c,v=.slice A 0 c:=by
 obtain⟨A,c,e,-⟩:=h.form;exact⟨A,c,e⟩
theorem rplus0_any(va vb:Value)(m:Nat)(w:World)(ha:LS w (Bl w.heap.size) va (natL 0))(hb:LS w (Bl w.heap.size) vb (natL m))(hm:0<m) :
  Calls Tryz.prog 188 #[va,vb] w fun e w'=>∃u,e=.returned u/\OwnL w' w.heap.size u (natL m)/\Below w.heap.size w w':=by
 have hm32:=hb.lt32
 have lm:(natL m).length=1:=by rw[natL_pos hm];rfl
 obtain⟨A,c,rfl⟩:=ha.zero_form;obtain⟨B,d,rfl,-,-⟩:=hb.form;rw[lm] at hb ⊢;obtain⟨b2,o2,rfl,hR2,hc2⟩:=hb.one hm
 have m0:(0:Int)<=(m:Int):=by omega
 have m1:(m:Int)<4294967296:=by omega
 have hdiv:(m:Int) / 4294967296=0:=by omega
 have HM:=zh (show 0<m/\m<4294967296 from⟨hm,hm32⟩);clear hb lm ha hm hR2;go_enter Tryz.func188,Tryz.ntmps188;go_wp2_with fail;go_loopg [5,6,7,8] 1 (fun z v5 v6 v7 v8 wr=>(z=1/\v5=.slice none 0 0/\v6=.int .u64 0/\v7=.int .i64 0/\w=wr)\/(z=0/\v6=.int .u64 0/\v7=.int .i64 1/\Hid (OwnL wr w.heap.size v5 [m])/\Hid (Below w.heap.size w wr)))
 case atStart=>exact .inl ⟨rfl,rfl,rfl,rfl,rfl⟩
 case round =>
  rcases hrel with ⟨rfl,rfl,rfl,rfl,rfl⟩ | ⟨rfl,rfl,rfl,hO,hB⟩
  ·go_wp2_with (at_builtin;refine app_l m (.tmp 48) (.tmp 51) rfl rfl w.heap.size (.slice none 0 0) 0 [] rfl (by rfl) (World.ownsRow_nil _ _ _ _) (by rfl) (by omega) (zR _) ?_;intro v5 w5 hown5 hg5;have HO5:=zh hown5;have HB5:=zh (below_none hg5);clear hown5 hg5 hc2);go_wp2_with fail;go_roundg 0
   case measure=>omega
   case rel=>exact .inr ⟨rfl,rfl,rfl,HO5.out,HB5.out⟩
  ·have HT:=zh (trim_any _ [m] _ wr (hO.out.lsBl (fun x hx=>by simp at hx;subst hx;exact HM.out.2)) (fun _ h=>h) (by simp));rw[show trimL [m]=natL m from by rw[<-natL_pos HM.out.1];exact trim_natL m] at HT;go_wp2_with fail;refine HT.out.mono ?_;rintro e w6 ⟨u,rfl,ho,hb6⟩;have HO:=zh (ho.base (B':=w.heap.size) hB.out.size);have HB6:=zh (hB.out.trans (hb6.mono hB.out.size));clear ho hb6;go_wp2_with fail;go_ret;exact⟨_,rfl,HO.out,HB6.out⟩
theorem radd0_any(va vb:Value)(m:Nat)(w:World)(ha:LS w (Bl w.heap.size) va (natL 0))(hb:LS w (Bl w.heap.size) vb (natL m))(hm:0<m) :
  Calls Tryz.prog 184 #[va,vb] w fun e w'=>∃u,e=.returned (.tuple #[u,.int .i64 0])/\OwnL w' w.heap.size u (natL m)/\Below w.heap.size w w':=by
 have HM:=zh hb.lt32;have HL1:=zh (rlarge_any va _ _ w ha (fun _ h=>h) (by have:=natL_length 0;omega));have HA:=zh ha;have HB:=zh hb;have HM0:=zh hm;clear ha hb hm;go_enter Tryz.func184,Tryz.ntmps184;go_wp2_with fail;refine HL1.out.mono ?_;rintro e w1 ⟨rfl,hb1⟩;have HB1:=zh hb1;have HL2:=zh (rlarge_any vb _ _ w1 (HB.out.below hb1) (fun _ h=>h) (by have:=natL_length m;omega));clear hb1;go_wp2_with fail;refine HL2.out.mono ?_;rintro e w2 ⟨rfl,hb2⟩;have HB2:=zh (HB1.out.trans (hb2.mono HB1.out.size));have HT1:=zh (trim_any va _ _ w2 (HA.out.below HB2.out) (fun _ h=>h) (by have:=natL_length 0;omega));clear hb2;go_wp2_with fail;refine HT1.out.mono ?_;rintro e w3 ⟨u1,rfl,ho1,hb3⟩;rw[trim_natL] at ho1;have HO1:=zh ho1;have HB3:=zh (HB2.out.trans (hb3.mono HB2.out.size));have HT2:=zh (trim_any vb _ _ w3 (HB.out.below HB3.out) (fun _ h=>h) (by have:=natL_length m;omega));clear ho1 hb3;go_wp2_with fail;refine HT2.out.mono ?_;rintro e w4 ⟨u2,rfl,ho2,hb4⟩;rw[trim_natL] at ho2;have HB4:=zh (HB3.out.trans (hb4.mono HB3.out.size));have HT:=zh (rplus0_any u1 u2 m w4 ((HO1.out.below hb4).lsBl (natL_mem (by omega))) (ho2.lsBl (natL_mem HM.out)) HM0.out);clear ho2 hb4;go_wp2_with fail;refine HT.out.mono ?_;rintro e w5 ⟨u,rfl,ho,hb5⟩;have HB5:=zh (HB4.out.trans (hb5.mono HB4.out.size));have HO:=zh ho;have HL3:=zh (rlarge_any u _ _ w5 (ho.lsBl (natL_mem HM.out)) (fun _ h=>h) (by have:=natL_length m;omega));clear ho hb5;go_wp2_with fail;refine HL3.out.mono ?_;rintro e w6 ⟨rfl,hb6⟩;have HO6:=zh ((HO.out.below hb6).base (B':=w.heap.size) HB4.out.size);have HB6:=zh (HB5.out.trans (hb6.mono HB5.out.size));clear hb6;go_wp2_with fail;go_ret2;exact⟨_,rfl,HO6.out,HB6.out⟩
theorem rlargef_any(va vb:Value)(n m:Nat)(R:Nat->Prop)(w:World)(ha:LS w R va (natL n))(hb:LS w R vb (natL m)) :
  Calls Tryz.prog 189 #[.agg #[.bool false,va,vb]] w fun e w'=>e=.returned (.bool false)/\Below w.heap.size w w':=by
 obtain⟨An,Nn,cn,hN,rfl⟩:∃A L c,L<=1/\va=.slice A L c:=by obtain⟨A,c,e,-⟩:=ha.form;exact⟨A,_,c,natL_length n,e⟩
 obtain⟨Ad,Nd,cd,hM,rfl⟩:∃A L c,L<=1/\vb=.slice A L c:=by obtain⟨A,c,e,-⟩:=hb.form;exact⟨A,_,c,natL_length m,e⟩
 obtain⟨W0,hW0⟩:=zx (w.alloc (.cells #[.bool false,.slice An Nn cn,.slice Ad Nd cd] 26));obtain⟨q,hq⟩:=zx w.heap.size
 have hb0:Below w.heap.size w W0:=by rw[hW0];exact(zB _ _).alloc (zR _) _
 have hqk:W0.heap[q]?=some (.cells #[.bool false,.slice An Nn cn,.slice Ad Nd cd] 26 (0,0)):=by rw[hW0,hq];exact zN _ _
 obtain⟨c0,c1,c2,-⟩:=cells3 hqk;have HW0:=zh hW0;have HQ:=zh hq;have HB0:=zh hb0;have q1:decide ((128:Int)<(Nn:Int))=false:=decide_eq_false (by omega);have q2:decide ((128:Int)<(Nd:Int))=false:=decide_eq_false (by omega);clear ha hb hW0 hq hb0 hqk hN hM;go_enter Tryz.func189,Tryz.ntmps189;go_upto_region 1 with fail;rw[<-HW0.out,<-HQ.out];go_wp2_with fail;go_ret;exact⟨rfl,HB0.out⟩
theorem rfits_any(va vb:Value)(n m:Nat)(B:Nat)(w:World)(hB:B<=w.heap.size)(ha:LS w (Fr B w.heap.size) va (natL n))(hb:LS w (Fr B w.heap.size) vb (natL m)) :
  Calls Tryz.prog 185 #[.agg #[.bool false,va,vb]] w fun e w'=>e=.returned (.tuple #[.agg #[.bool false,va,vb],.int .i64 0])/\Below w.heap.size w w':=by
 obtain⟨An,Nn,cn,rfl⟩:=ha.frm;obtain⟨Ad,Nd,cd,rfl⟩:=hb.frm;obtain⟨W0,hW0⟩:=zx ((w.alloc (.cells #[.bool false,.slice An Nn cn,.slice Ad Nd cd] 26)).alloc (.cells #[.bool false,.slice none 0 0,.slice none 0 0] 26));obtain⟨q,hq⟩:=zx w.heap.size;obtain⟨g,hgq⟩:=zx (w.heap.size+1)
 have hb0:Below w.heap.size w W0:=by rw[hW0];exact((zB _ _).alloc (zR _) _).alloc (by simp) _
 have hbk:W0.heap[g]?=some (.cells #[.bool false,.slice none 0 0,.slice none 0 0] 26 (0,0)):=by
  rw[hW0];exact heap_alloc_at _ _ _ (by rw[hgq];simp)
 have hqk:W0.heap[q]?=some (.cells #[.bool false,.slice An Nn cn,.slice Ad Nd cd] 26 (0,0)):=by
  rw[hW0,hq];exact(zH _ _ _ (by simp)).trans (zN w _)
 have hgl:g<W0.heap.size:=(zA.1 hbk).1;have hql:q<W0.heap.size:=(zA.1 hqk).1;obtain⟨c0,c1,c2,-⟩:=cells3 hqk;have HV:=zh (rlargef_any _ _ n m _ W0 (ha.keep (fun b h=>hb0.block b h.2)) (hb.keep (fun b h=>hb0.block b h.2)));have HC:=zh (fun(w':World) (hb:Below W0.heap.size W0 w')=>(cells3 ((hb.block q hql).trans hqk):_));have HD:=zh (fun(w':World) (hb:Below W0.heap.size W0 w')=>((hb.block g hgl).trans hbk:_));have HW0:=zh hW0;have HGQ:=zh (show q=w.heap.size/\g=w.heap.size+1 from⟨hq,hgq⟩);have HB0:=zh hb0;clear ha hb hW0 hb0 hbk hgl hql hqk hgq hq;go_enter Tryz.func185,Tryz.ntmps185;go_wp2_with fail;rw[<-HW0.out,<-HGQ.out.2,<-HGQ.out.1];refine HV.out.mono ?_;rintro e w1 ⟨rfl,hb1⟩;clear c0 c1 c2;obtain⟨c0,c1,c2,-⟩:=HC.out w1 hb1;have hk:=HD.out w1 hb1;obtain⟨l0,l1,l2,f0,f1,f2⟩:=cells3 hk;have hs:=HB0.out.size;have hX:=box3' hk (HB0.out.trans (hb1.mono HB0.out.size)) (show w.heap.size<=g by rw[HGQ.out.2];omega) (.bool false) (.slice An Nn cn) (.slice Ad Nd cd);have HX:=zh hX;clear hb1 hk hs hX;go_wp2_with fail;obtain⟨Wf,hWf⟩:=zx (((w1.setCell ⟨g,0,none⟩ (.bool false)).setCell ⟨g,1,none⟩ (.slice An Nn cn)).setCell ⟨g,2,none⟩ (.slice Ad Nd cd));have hx:=HX.out;rw[<-hWf] at hx ⊢;obtain⟨hx1,hx2,-⟩:=hx;obtain⟨x0,x1,x2,-⟩:=cells3 hx1;clear hWf l0 l1 l2 c0 c1 c2;exact bodyPost_ret (v:=.tuple #[.agg #[.bool false,.slice An Nn cn,.slice Ad Nd cd],.int .i64 0]) (by simp[results,Tryz.results185,go_sem,x0,x1,x2]) rfl ⟨rfl,hx2⟩
theorem rfadd0_any(xn xd yn yd:Value)(b c d:Nat)(w:World)(hxn:LS w (Bl w.heap.size) xn (natL 0))(hxd:LS w (Bl w.heap.size) xd (natL b))(hyn:LS w (Bl w.heap.size) yn (natL c))(hyd:LS w (Bl w.heap.size) yd (natL d))(h0b:0<b)(h0c:0<c)(h0d:0<d)(h2:c*b<4294967296)(h3:b*d<4294967296)(hg:Nat.gcd (c*b) (b*d)=1) :
  Calls Tryz.prog 169 #[.agg #[.bool false,xn,xd],.agg #[.bool false,yn,yd]] w fun e w'=>∃un um,e=.returned (.tuple #[.agg #[.bool false,un,um],.int .i64 0])/\LS w' (Fr w.heap.size w'.heap.size) un (natL (c*b))/\LS w' (Fr w.heap.size w'.heap.size) um (natL (b*d))/\Below w.heap.size w w':=by
 obtain⟨An,Nn,cn,rfl⟩:=hxn.frm;obtain⟨Ad,Nd,cd,rfl⟩:=hxd.frm;obtain⟨Bn,Mn,dn,rfl⟩:=hyn.frm;obtain⟨Bd,Md,dd,rfl⟩:=hyd.frm;obtain⟨W0,hW0⟩:=zx (((w.alloc (.cells #[.bool false,.slice An Nn cn,.slice Ad Nd cd] 26)).alloc (.cells #[.bool false,.slice Bn Mn dn,.slice Bd Md dd] 26)).alloc (.cells #[.bool false,.slice none 0 0,.slice none 0 0] 26));obtain⟨q,hq⟩:=zx w.heap.size;obtain⟨p,hp⟩:=zx (w.heap.size+1);obtain⟨g,hgq⟩:=zx (w.heap.size+1+1)
 have hb0:Below w.heap.size w W0:=by rw[hW0];exact(((zB _ _).alloc (zR _) _).alloc (by simp) _).alloc (by simp;omega) _
 have hgk:W0.heap[g]?=some (.cells #[.bool false,.slice none 0 0,.slice none 0 0] 26 (0,0)):=by
  rw[hW0];exact heap_alloc_at _ _ _ (by rw[hgq];simp)
 have hpk:W0.heap[p]?=some (.cells #[.bool false,.slice Bn Mn dn,.slice Bd Md dd] 26 (0,0)):=by
  rw[hW0];exact(zH _ _ _ (by rw[hp];simp)).trans (heap_alloc_at _ _ _ (by rw[hp];simp))
 have hqk:W0.heap[q]?=some (.cells #[.bool false,.slice An Nn cn,.slice Ad Nd cd] 26 (0,0)):=by
  rw[hW0,hq];exact(zH _ _ _ (by simp;omega)).trans ((zH _ _ _ (by simp)).trans (zN w _))
 have hgl:g<W0.heap.size:=(zA.1 hgk).1;have hpl:p<W0.heap.size:=(zA.1 hpk).1;have hql:q<W0.heap.size:=(zA.1 hqk).1;obtain⟨c0,c1,c2,-⟩:=cells3 hqk;obtain⟨d0,d1,d2,-⟩:=cells3 hpk;obtain⟨x1,hx1⟩:=zx (Value.slice An Nn cn);obtain⟨x2,hx2⟩:=zx (Value.slice Ad Nd cd);obtain⟨y1,hy1⟩:=zx (Value.slice Bn Mn dn);obtain⟨y2,hy2⟩:=zx (Value.slice Bd Md dd);have H1:=zh (hxn.below hb0);have H2:=zh (hxd.below hb0);have H3:=zh (hyn.below hb0);have H4:=zh (hyd.below hb0);have HW0:=zh hW0;have H5:=zh (show c*b<4294967296/\b*d<4294967296/\0<c/\0<b/\0<d/\Nat.gcd (c*b) (b*d)=1 from⟨h2,h3,h0c,h0b,h0d,hg⟩);have HQ:=zh (show q=w.heap.size/\p=w.heap.size+1/\g=w.heap.size+1+1 from⟨hq,hp,hgq⟩);have HGL:=zh (show g<W0.heap.size/\g=w.heap.size+1+1 from⟨hgl,hgq⟩);have HBK:=zh hgk;have HQP:=zh (show q<W0.heap.size/\p<W0.heap.size from⟨hql,hpl⟩);have HB0:=zh hb0;clear hW0 hq hp hb0 hpk hqk hpl hql hxn hxd hyn hyd hgl hgk hgq;go_enter Tryz.func169,Tryz.ntmps169;go_wp2_with fail;rw[<-HW0.out,<-HQ.out.2.2,<-HQ.out.2.1,<-HQ.out.1];clear HW0 HQ;rw[<-hx1] at H1 c1 ⊢;rw[<-hx2] at H2 c2 ⊢;rw[<-hy1] at H3 d1 ⊢;rw[<-hy2] at H4 d2 ⊢;have HH0:=zh (show HeldF W0 q p (.bool false) x1 x2 (.bool false) y1 y2 W0 from⟨c0,c1,c2,d0,d1,d2,zB _ _⟩);have HT1:=zh (fun W (h:HeldF W0 q p (.bool false) x1 x2 (.bool false) y1 y2 W)=>rtm_any x1 y2 0 d W (h.ls H1.out) (h.ls H4.out) h0d (by omega));have HT2:=zh (fun W (h:HeldF W0 q p (.bool false) x1 x2 (.bool false) y1 y2 W)=>rtm_any y1 x2 c b W (h.ls H3.out) (h.ls H2.out) h0b h2);have HT3:=zh (fun W (h:HeldF W0 q p (.bool false) x1 x2 (.bool false) y1 y2 W)=>rtm_any x2 y2 b d W (h.ls H2.out) (h.ls H4.out) h0d h3);clear hx1 hx2 hy1 hy2 c0 c1 c2 d0 d1 d2 h2 h3;refine(rvalid_any false _ _ 0 b W0 H1.out H2.out h0b).mono ?_;rintro e w1 ⟨rfl,hb1⟩;have hh1:=HH0.out.below hb1 HQP.out.1 HQP.out.2;obtain⟨c0,c1,c2,d0,d1,d2,-⟩:=hh1;have HH1:=zh (HH0.out.below hb1 HQP.out.1 HQP.out.2);clear hb1;go_wp2_with fail;refine(rvalid_any false _ _ c d w1 (HH1.out.ls H3.out) (HH1.out.ls H4.out) h0d).mono ?_;rintro e w2 ⟨rfl,hb2⟩;have HS0:=zh (show HeldF W0 q p (.bool false) x1 x2 (.bool false) y1 y2 w2.drew from(by obtain⟨a1,a2,a3,a4,a5,a6,a7⟩:=HH1.out.below hb2 HQP.out.1 HQP.out.2;exact⟨a1,a2,a3,a4,a5,a6,a7.drew⟩));clear hb2 c0 c1 c2 d0 d1 d2;go_upto_region 3 with fail;refine region_tail (S:=(fun w'=>w'.cell? ⟨q,0,none⟩=some (.bool false)/\w'.cell? ⟨q,1,none⟩=some x1/\w'.cell? ⟨q,2,none⟩=some x2/\w'.cell? ⟨p,0,none⟩=some (.bool false)/\w'.cell? ⟨p,1,none⟩=some y1/\w'.cell? ⟨p,2,none⟩=some y2/\Below W0.heap.size W0 w')) [] (by kernel_rfl) HS0.out (fun hHeld=>?_);refine tk 0 24 ?_;refine tk 1 25 ?_;refine tk 2 26 ?_;refine tk 3 27 ?_;refine tk 5 29 ?_;refine tk 6 30 ?_;refine tk 7 31 ?_;refine tk 8 32 ?_;refine tk 10 34 ?_;refine tk 11 35 ?_;refine tk 12 36 ?_;refine tk 13 37 ?_;refine readyT (rs:=[4]) (by kernel_rfl) (by simp) ?_;refine zC rfl (fun K hK=>?_) ?_
 ·go_simp;(go_at_call 131;refine(HT1.out _ (by assumption)).mono ?_;rintro e w5 ⟨u5,rfl,hu5,hb5⟩);go_wp2_with fail;refine hK.out _ _ ?_ (fun hHeld=>?_)
  ·(first|exact HeldF.below (by assumption) hb7 HQP.out.1 HQP.out.2|exact HeldF.below (by assumption) hb6 HQP.out.1 HQP.out.2|exact HeldF.below (by assumption) hb5 HQP.out.1 HQP.out.2)
  clear hK K;(try simp only[Act.put,z1,z2,z3]);refine readyT (rs:=[9]) (by kernel_rfl) (by simp) ?_;refine zC rfl (fun K hK=>?_) ?_
  ·go_simp;(go_at_call 131;refine(HT2.out _ (by assumption)).mono ?_;rintro e w6 ⟨u6,rfl,hu6,hb6⟩);go_wp2_with fail;refine hK.out _ _ ?_ (fun hHeld=>?_)
   ·(first|exact HeldF.below (by assumption) hb7 HQP.out.1 HQP.out.2|exact HeldF.below (by assumption) hb6 HQP.out.1 HQP.out.2|exact HeldF.below (by assumption) hb5 HQP.out.1 HQP.out.2)
   clear hK K;(try simp only[Act.put,z1,z2,z3]);refine readyT (rs:=[14]) (by kernel_rfl) (by simp) ?_;refine zC rfl (fun K hK=>?_) ?_
   ·go_simp;(go_at_call 131;refine(HT3.out _ (by assumption)).mono ?_;rintro e w7 ⟨u7,rfl,hu7,hb7⟩);go_wp2_with fail;refine hK.out _ _ ?_ (fun hHeld=>?_)
    ·(first|exact HeldF.below (by assumption) hb7 HQP.out.1 HQP.out.2|exact HeldF.below (by assumption) hb6 HQP.out.1 HQP.out.2|exact HeldF.below (by assumption) hb5 HQP.out.1 HQP.out.2)
    clear hK K;(try simp only[Act.put,z1,z2,z3]);refine tk 15 6 ?_;refine tk 16 7 ?_;refine tk 17 8 ?_;refine doneT (by kernel_rfl) ?_ _;have HBZ:=zh (HeldF.bl (q:=q) (p:=p) (by assumption));have HHZ:=zh (show HeldF W0 q p (.bool false) x1 x2 (.bool false) y1 y2 w7 from hHeld);obtain⟨d0,d1,d2,e0,e1,e2,-⟩:=hHeld;rw[Nat.zero_mul] at hu5;have HA:=zh (radd0_any u5 u6 (c*b) w7 (((hu5.below hb6).below hb7).lsBl (natL_mem (by omega))) ((hu6.below hb7).lsBl (natL_mem H5.out.1)) (Nat.mul_pos H5.out.2.2.1 H5.out.2.2.2.1));have HU7:=zh (hu7.lsBl (natL_mem H5.out.2.1));clear hu5 hu6 hu7 hb5 hb6 hb7;go_wp2_with fail;refine HA.out.mono ?_;rintro e w8 ⟨u8,rfl,hu8,hb8⟩;have HB8:=zh (HBZ.out.trans (hb8.mono HBZ.out.size));clear d0 d1 d2 e0 e1 e2;obtain⟨d0,-⟩:=HHZ.out.below hb8 HQP.out.1 HQP.out.2;have HLO:=zh (rlow1_any u8 u7 (c*b) (b*d) w8 (hu8.lsBl (natL_mem H5.out.1)) (HU7.out.below hb8) (Nat.mul_pos H5.out.2.2.2.1 H5.out.2.2.2.2.1) H5.out.2.2.2.2.2);clear hu8 hb8;go_wp2_with fail;refine HLO.out.mono ?_;rintro e w9 ⟨un,um,rfl,hun,hum,hb9⟩;have HB9:=zh (HB8.out.trans (hb9.mono HB8.out.size));have HFI:=zh (rfits_any un um _ _ w8.heap.size w9 hb9.size hun hum);have HUN:=zh hun;have HUM:=zh hum;clear hun hum hb9 d0;go_wp2_with fail;refine HFI.out.mono ?_;rintro e w10 ⟨rfl,hb10⟩;obtain⟨A1,N1,c1,rfl⟩:=HUN.out.frm;obtain⟨A2,N2,c2,rfl⟩:=HUM.out.frm;have hbx:=HB9.out.trans (hb10.mono HB9.out.size);have hk:=(hbx.block g HGL.out.1).trans HBK.out;obtain⟨l0,l1,l2,f0,f1,f2⟩:=cells3 hk;have hbw:=HB0.out.trans (hbx.mono HB0.out.size)
    have hgw:w.heap.size<=g:=by rw[HGL.out.2];omega
    have hs0:=HB0.out.size;have hs1:=HB8.out.size;have hgl:=HGL.out.1;have hs2:=hb10.size;have h1':=HUN.out.keep (fun b hb=>hb10.block b hb.2);have h2':=HUM.out.keep (fun b hb=>hb10.block b hb.2);have HX:=zh (box3 hk hbw hgw (.bool false) (.slice A1 N1 c1) (.slice A2 N2 c2) h1' (fun b hb=>⟨by have:=hb.1;omega,by have:=hb.1;omega,zM hb.2 hs2⟩) h2' (fun b hb=>⟨by have:=hb.1;omega,by have:=hb.1;omega,zM hb.2 hs2⟩));clear h1' h2' hb10 hbx hk hbw hgw hs0 hs1 hs2 hgl;go_wp2_with fail;obtain⟨Wf,hWf⟩:=zx (((w10.setCell ⟨g,0,none⟩ (.bool false)).setCell ⟨g,1,none⟩ (.slice A1 N1 c1)).setCell ⟨g,2,none⟩ (.slice A2 N2 c2));obtain⟨z0,z1,z2,hl1,hl2,hbf⟩:=HX.out Wf hWf;rw[<-hWf];clear hWf l0 l1 l2;exact bodyPost_ret (v:=.tuple #[.agg #[.bool false,.slice A1 N1 c1,.slice A2 N2 c2],.int .i64 0]) (by simp[results,Tryz.results169,go_sem,z0,z1,z2]) rfl ⟨_,_,rfl,hl1,hl2,hbf⟩
   exact zE
  exact zE
 exact zE
theorem rsign_any(va vb:Value)(n m:Nat)(w:World)(ha:LS w (Bl w.heap.size) va (natL n))(hb:LS w (Bl w.heap.size) vb (natL m))(hm:0<m) :
  Calls Tryz.prog 101 #[.agg #[.bool false,va,vb]] w fun e w'=>e=.returned (.int .i64 (cmpI n 0))/\Below w.heap.size w w':=by
 have hn32:=ha.lt32;have hm32:=hb.lt32;obtain⟨An,Nn,cn,rfl⟩:=ha.frm;obtain⟨Ad,Nd,cd,rfl⟩:=hb.frm;obtain⟨W0,hW0⟩:=zx (w.alloc (.cells #[.bool false,.slice An Nn cn,.slice Ad Nd cd] 26));obtain⟨q,hq⟩:=zx w.heap.size
 have hb0:Below w.heap.size w W0:=by rw[hW0];exact(zB _ _).alloc (zR _) _
 have hqk:W0.heap[q]?=some (.cells #[.bool false,.slice An Nn cn,.slice Ad Nd cd] 26 (0,0)):=by rw[hW0,hq];exact zN _ _
 have hql:q<W0.heap.size:=(zA.1 hqk).1;obtain⟨c0,c1,c2,-⟩:=cells3 hqk;obtain⟨x1,hx1⟩:=zx (Value.slice An Nn cn);obtain⟨x2,hx2⟩:=zx (Value.slice Ad Nd cd);have h1':=ha.below hb0;have h2':=hb.below hb0;rw[<-hx1] at c1 h1';rw[<-hx2] at c2 h2';have H1:=zh h1';have H2:=zh h2';have HS0:=zh (show HeldF W0 q q (.bool false) x1 x2 (.bool false) x1 x2 W0.drew from⟨c0,c1,c2,c0,c1,c2,(zB _ _).drew⟩);have HT1:=zh (fun W (h:HeldF W0 q q (.bool false) x1 x2 (.bool false) x1 x2 W)=>rint_any 0 W (by omega));have HT2:=zh (fun W yn yd (h:HeldF W0 q q (.bool false) x1 x2 (.bool false) x1 x2 W) (h3:LS W (Bl W.heap.size) yn (natL 0)) (h4:LS W (Bl W.heap.size) yd (natL 1))=>rorder_any x1 x2 yn yd n m 0 1 W (h.ls H1.out) (h.ls H2.out) h3 h4 hm (by omega) (by omega) (by omega));rw[Nat.mul_one,Nat.zero_mul] at HT2;have HW0:=zh hW0;have HQ:=zh hq;have HQP:=zh (show q<W0.heap.size/\q<W0.heap.size from⟨hql,hql⟩);have HB0:=zh hb0;obtain⟨C,hC⟩:=zx (cmpI n 0);rw[<-hC] at HT2 ⊢;clear ha hb hW0 hq hb0 hqk hql hx1 hx2 h1' h2' c0 c1 c2 hC hn32 hm32 hm;go_enter Tryz.func101,Tryz.ntmps101;go_upto_region 1 with fail;rw[<-HW0.out,<-HQ.out];refine region_tail (S:=(fun w'=>w'.cell? ⟨q,0,none⟩=some (.bool false)/\w'.cell? ⟨q,1,none⟩=some x1/\w'.cell? ⟨q,2,none⟩=some x2/\w'.cell? ⟨q,0,none⟩=some (.bool false)/\w'.cell? ⟨q,1,none⟩=some x1/\w'.cell? ⟨q,2,none⟩=some x2/\Below W0.heap.size W0 w')) [] (by kernel_rfl) HS0.out (fun hHeld=>?_);refine tk 0 3 ?_;refine readyT (rs:=[1]) (by kernel_rfl) (by simp) ?_;refine zC rfl (fun K hK=>?_) ?_
 ·go_simp;(go_at_call 146;refine(HT1.out _ (by assumption)).mono ?_;rintro e w5 ⟨un,um,rfl,hun,hum,hb5⟩);go_wp2_with fail;refine hK.out _ _ ?_ (fun hHeld=>?_)
  ·(first|exact HeldF.below (by assumption) hb6 HQP.out.1 HQP.out.2|exact HeldF.below (by assumption) hb5 HQP.out.1 HQP.out.2)
  clear hK K;(try simp only[Act.put,z1,z2,z3]);refine readyT (rs:=[2]) (by kernel_rfl) (by simp) ?_;refine zC rfl (fun K hK=>?_) ?_
  ·go_simp;(go_at_call 86;refine(HT2.out _ _ _ (by assumption) (hun.mono Fr.bl) (hum.mono Fr.bl)).mono ?_;rintro e w6 ⟨rfl,hb6⟩);go_wp2_with fail;refine hK.out _ _ ?_ (fun hHeld=>?_)
   ·(first|exact HeldF.below (by assumption) hb6 HQP.out.1 HQP.out.2|exact HeldF.below (by assumption) hb5 HQP.out.1 HQP.out.2)
   clear hK K;(try simp only[Act.put,z1,z2,z3]);refine tk 3 2 ?_;refine doneT (by kernel_rfl) ?_ _;have HBZ:=zh (HeldF.bl (q:=q) (p:=q) (by assumption));clear hHeld hun hum hb5 hb6;go_wp2_with fail;go_ret;exact⟨rfl,HB0.out.trans (HBZ.out.mono HB0.out.size)⟩
  exact zE
 exact zE
theorem rsmalls_any(v:Value)(l:List Frc)(w:World)(h:SlS 3 FrcK w (Bl w.heap.size) v l)(hl:∀x∈l,x.neg=false/\0<x.den/\Nat.gcd x.num x.den=1) :
  Calls Tryz.prog 144 #[v,.int .i64 (l.length:Int)] w fun e w'=>e=.returned (.bool true)/\Below w.heap.size w w':=by
 obtain⟨A,c,rfl,-,hm⟩:=h.form;unfold maxLen at hm;have HS:=zh (fun(w':World) (hb:Below w.heap.size w w')=>SlS.below frcK h hb);have HL:=zh hl;obtain⟨n,hn⟩:=zx l.length;have HN:=zh hn;rw[<-hn] at hm ⊢
 have q0:((n:Int) != (n:Int))=false:=by simp
 clear h hl hn;go_enter Tryz.func144,Tryz.ntmps144;go_wp2_with fail;go_loopg [5] n (fun z v5 wr=>∃j:Nat,j<=n/\z=n-j/\v5=.int .i64 (j:Int)/\Hid (Below w.heap.size w wr))
 case atStart=>exact⟨0,by omega,rfl,rfl,zB _ _⟩
 case round =>
  obtain⟨j,hj,rfl,rfl,HBR⟩:=hrel;by_cases hlt:j<n
  ·have hlt2:j<l.length:=by rw[<-HN.out];exact hlt
   obtain⟨p,off,cs,rfl,hR,-,hc,vn,vd,hcs,hvn,hvd⟩:=(HS.out wr HBR.out).at_ hlt2;obtain⟨h1,h2,h3⟩:=HL.out l[j] (List.getElem_mem hlt2);obtain⟨k0,k1,k2⟩:=three hc hcs;rw[h1] at k0;obtain⟨A1,N1,d1,rfl⟩:=hvn.frm;obtain⟨A2,N2,d2,rfl⟩:=hvd.frm;have HSM:=zh (rsmall_any _ _ _ _ wr hvn hvd h2 h3);clear hc hcs hvn hvd h1 h2 h3 hR;go_wp2_with fail;refine HSM.out.mono ?_;rintro e w1 ⟨rfl,hb1⟩;have HB1:=zh (HBR.out.trans (hb1.mono HBR.out.size));clear hb1 k0 k1 k2;go_wp2_with fail;go_roundg (n-(j+1))
   case measure=>omega
   case rel=>exact⟨j+1,by omega,rfl,by go_num,HB1.out⟩
  ·go_wp2_with fail;go_ret;exact⟨rfl,HBR.out⟩
theorem rwithin_any(n lo hi:Int)(h:lo<=n/\n<=hi)(w:World):Calls Tryz.prog 97 #[.int .i64 n,.int .i64 lo,.int .i64 hi] w fun e w'=>e=.returned (.bool true)/\w=w':=by
 obtain⟨h1,h2⟩:=h;go_enter Tryz.func97,Tryz.ntmps97;go_wp2_with fail;go_ret;exact⟨rfl,rfl⟩
theorem rsizes_any(a b c d e f:Int)(ha:a<=4)(hb:b<=4)(hc:c<=40)(hd:d<=24)(he:e<=4)(hf:f<=12)(w:World):Calls Tryz.prog 98 #[.int .i64 a,.int .i64 b,.int .i64 c,.int .i64 d,.int .i64 e,.int .i64 f] w fun e w'=>e=.returned (.bool true)/\w=w':=by
 go_enter Tryz.func98,Tryz.ntmps98;go_wp2_with fail;go_ret;exact⟨rfl,rfl⟩
theorem rindex_any(v:Value)(l:List ByteArray)(s:ByteArray)(R:Nat->Prop)(w:World)(h:SlS 1 StrK w R v l)(hs:s∉l) :
  Calls Tryz.prog 143 #[v,.string s] w fun e w'=>e=.returned (.int .i64 (-1))/\w=w':=by
 obtain⟨A,c,rfl,-,hm⟩:=h.form;unfold maxLen at hm;have HS:=zh h;have HL:=zh hs;clear h hs;go_enter Tryz.func143,Tryz.ntmps143;go_wp2_with fail;go_loopg [5] l.length (fun z v5 wr=>w=wr/\∃j:Nat,j<=l.length/\z=l.length-j/\v5=.int .i64 (j:Int))
 case atStart=>exact⟨rfl,0,by omega,rfl,rfl⟩
 case round =>
  obtain⟨rfl,j,hj,rfl,rfl⟩:=hrel;by_cases hlt:j<l.length
  ·obtain⟨p,off,cs,rfl,hR,-,hc,hk,hsz⟩:=HS.out.at_ hlt;have hcell:=hc 0 (.string l[j]) (by rw[hk];rfl);simp only[Nat.mul_one,Nat.add_zero] at hcell
   have hne:(l[j].toList==s.toList)=false:=by
    rw[beq_eq_false_iff_ne];intro e;refine HL.out ?_
    have e2:l[j]=s:=by
     rw[ByteArray.toList_eq,ByteArray.toList_eq] at e;have e3:=Array.toList_inj.1 e
     cases hx:l[j];cases hy:s;rw[hx,hy] at e3;simp only at e3;rw[e3]
    rw[<-e2];exact List.getElem_mem hlt
   generalize l[j]=x at *;clear hc hk;go_wp2_with fail;go_roundg (l.length - (j+1))
   case measure=>omega
   case rel=>exact⟨rfl,j+1,by omega,rfl,by go_num⟩
  ·go_wp2_with fail;go_ret;exact⟨rfl,rfl⟩
end Go.Proofs.YtgfaieppacabjaaGreat
