/- Parts. -/
import Derived.Test.YtgfaieppacabjaaGreatMq10
set_option linter.unusedSectionVars false
set_option maxRecDepth 100000
set_option maxHeartbeats 12800000
set_option linter.unusedVariables false
set_option linter.unusedSimpArgs false
namespace Go.Proofs.YtgfaieppacabjaaGreat
open Go.RowKit
theorem flowestL_any(neg:Bool)(va vb:Value)(la lb:List Nat)(w:World)(ha:LS w (Bl w.heap.size) va la)(hb:LS w (Bl w.heap.size) vb lb)(hla:la.length<=512)(hlb:lb.length<=512)(hok:okL (nv la) (nv lb)=true) :
  Calls Tryz.prog 71 #[.bool neg,va,vb] w fun e w'=>∃un um,e=.returned (.tuple #[.agg #[.bool (neg&&decide (0<nv la)),un,um],.int .i64 0])/\LS w' (Fr w.heap.size w'.heap.size) un (limbs (nv la / Nat.gcd (nv la) (nv lb)))/\LS w' (Fr w.heap.size w'.heap.size) um (limbs (nv lb / Nat.gcd (nv la) (nv lb)))/\Below w.heap.size w w':=by
 have hok:=of_decide_eq_true hok;obtain⟨W0,hW0⟩:=zx (w.alloc (.cells #[.bool false,.slice none 0 0,.slice none 0 0] 26));obtain⟨g,hgq⟩:=zx w.heap.size
 have hb0:Below w.heap.size w W0:=by rw[hW0];exact(zB _ _).alloc (zR _) _
 have hbk:W0.heap[g]?=some (.cells #[.bool false,.slice none 0 0,.slice none 0 0] 26 (0,0)):=by rw[hW0,hgq];exact zN _ _
 have hgl:g<W0.heap.size:=(zA.1 hbk).1;have HG:=zh (ngcdL_any va vb la lb W0 (ha.below hb0) (hb.below hb0) hla hlb);obtain⟨n,hn⟩:=zx (nv la);obtain⟨m,hm⟩:=zx (nv lb);obtain⟨G,hG⟩:=zx (Nat.gcd n m);rw[<-hn,<-hm,<-hG] at HG;rw[<-hn,<-hm] at hok;rw[<-hn,<-hm,<-hG]
 have hGp:0<G:=by rw[hG];exact Nat.gcd_pos_of_pos_right _ hok.1
 obtain⟨X,hX⟩:=zx (n / G);obtain⟨Y,hY⟩:=zx (m / G);rw[<-hX,<-hY]
 have hXn:0<X↔0<n:=by
  rw[hX,Nat.div_pos_iff];refine⟨fun h=>zM h.1 h.2,fun h=>⟨hGp,Nat.le_of_dvd h (by rw[hG];exact Nat.gcd_dvd_left _ _)⟩⟩
 have HNM:=zh (show n=nv la/\m=nv lb/\0<m/\0<G/\X=n / G/\Y=m / G/\bl X<=4096/\bl Y<=4096/\(0<X↔0<n) from⟨hn,hm,hok.1,hGp,hX,hY,bl_mono (by rw[hX];exact Nat.div_le_self _ _) hok.2.2,bl_mono (by rw[hY];exact Nat.div_le_self _ _) hok.2.1,hXn⟩);have HLL:=zh (And.intro hla hlb);have HGD:=zh (show G ∣ n/\G ∣ m from⟨by rw[hG];exact Nat.gcd_dvd_left _ _,by rw[hG];exact Nat.gcd_dvd_right _ _⟩);have HA0:=zh (ha.below hb0);have HBV:=zh (hb.below hb0);have HW0:=zh hW0;have HGQ:=zh hgq;have HB0:=zh hb0;have HBK:=zh hbk;have HGL:=zh hgl;obtain⟨Aa,Na,ca,rfl⟩:=ha.frm;obtain⟨Ab,Nb,cb,rfl⟩:=hb.frm;clear ha hb hW0 hgq hb0 hbk hgl hok hn hm hG hX hY hGp hla hlb hXn;go_enter Tryz.func71,Tryz.ntmps71;go_wp2_with fail;rw[<-HW0.out,<-HGQ.out];refine HG.out.mono ?_;rintro e w1 ⟨vg,rfl,hvg,hb1⟩;have HVG:=zh (hvg.mono Fr.bl);have hlg:(limbs G).length<=512:=limbs_mono (Nat.le_of_dvd HNM.out.2.2.1 HGD.out.2) (by have h:=HNM.out;rw[h.2.1];exact Nat.le_trans (by rw[limbs_nv HBV.out.lim];exact trimL_length _) HLL.out.2);have HBB:=zh (nbitsL_b _ _ _ w1 hvg (by omega));rw[nv_limbs] at HBB;obtain⟨Ag,Ng,cg,rfl⟩:=hvg.frm;have HLG:=zh hlg;have HA1:=zh (HA0.out.below hb1);have HV1:=zh (HBV.out.below hb1);have HB1:=zh hb1;clear hvg hb1 hlg;go_wp2_with fail;refine HBB.out.mono ?_;rintro e w2 ⟨rfl,hb2⟩;have HA2:=zh (HA1.out.below hb2);have HV2:=zh (HV1.out.below hb2);have HG2:=zh (HVG.out.below hb2);have HB2:=zh (HB1.out.trans (hb2.mono HB1.out.size));obtain⟨GI,hGI⟩:∃t:Int,t=(bl G:Int):=⟨_,rfl⟩;rw[<-hGI];have HGI:=zh hGI;clear hb2 hGI
 go_upto_if 18 with fail
 go_cut [1,2] from 16 to 32 (fun v1 v2 wc=>∃(l1 l2:List Nat) (A1:Option Addr) (N1 c1:Nat) (A2:Option Addr) (N2 c2:Nat),v1=.slice A1 N1 c1/\v2=.slice A2 N2 c2/\Hid (LS wc (Bl wc.heap.size) (.slice A1 N1 c1) l1)/\Hid (LS wc (Bl wc.heap.size) (.slice A2 N2 c2) l2)/\Hid (nv l1=X/\nv l2=Y/\l1.length<=512/\l2.length<=512)/\Hid (Below W0.heap.size W0 wc))
 case first =>
  by_cases h1:1<G
  ·have q1:(1:Int)<GI:=by rw[HGI.out];have:=bl_gt1.2 h1;omega
   clear h1;go_wp2_with fail;refine(ndvL_any _ _ la (limbs G) _ HA2.out HG2.out HLL.out.1 HLG.out (by rw[nv_limbs];exact HNM.out.2.2.2.1)).mono ?_;rintro e w3 ⟨q3,r3,rfl,hq3,hb3⟩;rw[nv_limbs,<-HNM.out.1,<-HNM.out.2.2.2.2.1] at hq3;obtain⟨A3,N3,c3,rfl⟩:=hq3.frm;have HQ3:=zh (hq3.mono Fr.bl);have HV3:=zh (HV2.out.below hb3);have HG3:=zh (HG2.out.below hb3);have HB3:=zh (HB2.out.trans (hb3.mono HB2.out.size));clear hq3 hb3;go_wp2_with fail;refine(ndvL_any _ _ lb (limbs G) _ HV3.out HG3.out HLL.out.2 HLG.out (by rw[nv_limbs];exact HNM.out.2.2.2.1)).mono ?_;rintro e w4 ⟨q4,r4,rfl,hq4,hb4⟩;rw[nv_limbs,<-HNM.out.2.1,<-HNM.out.2.2.2.2.2.1] at hq4;obtain⟨A4,N4,c4,rfl⟩:=hq4.frm;have HQ4:=zh (hq4.mono Fr.bl);have HQ34:=zh (HQ3.out.below hb4);have HB4:=zh (HB3.out.trans (hb4.mono HB3.out.size));clear hq4 hb4;go_wp2_with fail;go_meet
   case rel=>exact⟨limbs X,limbs Y,A3,N3,c3,A4,N4,c4,rfl,rfl,HQ34.out,HQ4.out,zh ⟨nv_limbs _,nv_limbs _,Nat.le_trans (nv_len512 (k:=0) HNM.out.2.2.2.2.2.2.1) (by omega),Nat.le_trans (nv_len512 (k:=0) HNM.out.2.2.2.2.2.2.2.1) (by omega)⟩,HB4.out⟩
  ·have q1:¬(1:Int)<GI:=by rw[HGI.out];have:=mt bl_gt1.1 h1;omega
   have HG1:=zh (show G=1 by have:=HNM.out.2.2.2.1;omega);clear h1;go_wp2_with fail;go_meet
   case rel=>exact⟨la,lb,_,_,_,_,_,_,rfl,rfl,HA2.out,HV2.out,zh ⟨by rw[<-HNM.out.1,HNM.out.2.2.2.2.1,HG1.out,Nat.div_one],by rw[<-HNM.out.2.1,HNM.out.2.2.2.2.2.1,HG1.out,Nat.div_one],HLL.out.1,HLL.out.2⟩,HB2.out⟩
 case rest =>
  obtain⟨l1,l2,A1,N1,c1,A2,N2,c2,rfl,rfl,H1,H2,HL12,HBC⟩:=hcut;have HB1':=zh (nbitsL_b _ l1 _ wc H1.out (by have:=HL12.out.2.2.1;omega));rw[HL12.out.1] at HB1';obtain⟨bN,hbN⟩:=zx (bl X);obtain⟨bM,hbM⟩:=zx (bl Y);obtain⟨BN,hBN⟩:∃x:Int,x=(bN:Int):=⟨_,rfl⟩;obtain⟨BM,hBM⟩:∃x:Int,x=(bM:Int):=⟨_,rfl⟩;rw[<-hbN,<-hBN] at HB1'
  have q1:BN<=4096:=by rw[hBN,hbN];have:=HNM.out.2.2.2.2.2.2.1;omega
  have q2:BM<=4096:=by rw[hBM,hbM];have:=HNM.out.2.2.2.2.2.2.2.1;omega
  have HBB2:=zh (show bN=bl X/\bM=bl Y/\BN=(bN:Int)/\BM=(bM:Int) from⟨hbN,hbM,hBN,hBM⟩);clear hbN hbM hBN hBM;go_wp2_with fail;refine HB1'.out.mono ?_;rintro e w3 ⟨rfl,hb3⟩;have HA3:=zh (H1.out.below hb3);have HV3:=zh (H2.out.below hb3);have HB3:=zh (HBC.out.trans (hb3.mono HBC.out.size));clear hb3;have HB2':=zh (nbitsL_b _ l2 _ w3 HV3.out (by have:=HL12.out.2.2.2;omega));rw[HL12.out.2.1,<-HBB2.out.2.1,<-HBB2.out.2.2.2] at HB2';go_wp2_with fail;refine HB2'.out.mono ?_;rintro e w4 ⟨rfl,hb4⟩;have HA4:=zh (HA3.out.below hb4);have HV4:=zh (HV3.out.below hb4);have HB4:=zh (HB3.out.trans (hb4.mono HB3.out.size));clear hb4
  cases neg with
  | false =>
   go_wp2_with fail;refine(ntrim_any _ l1 _ _ HA4.out (fun b h=>h) (by have:=HL12.out.2.2.1;omega)).mono ?_;rintro e w5 ⟨un,rfl,hun,hb5⟩;rw[<-limbs_nv HA4.out.lim,HL12.out.1] at hun;have HU5:=zh ((hun.ls (lim_limbs _)).mono (Fr.wider HB4.out.size (zR _)));have HV5:=zh (HV4.out.below hb5);have HB5:=zh (HB4.out.trans (hb5.mono HB4.out.size));obtain⟨An,Nn,cn,rfl⟩:∃A n c,un=.slice A n c:=HU5.out.frm;clear hun hb5;go_wp2_with fail;refine(ntrim_any _ l2 _ _ HV5.out (fun b h=>h) (by have:=HL12.out.2.2.2;omega)).mono ?_;rintro e w6 ⟨um,rfl,hum,hb6⟩;rw[<-limbs_nv HV5.out.lim,HL12.out.2.1] at hum;have HM6:=zh ((hum.ls (lim_limbs _)).mono (Fr.wider HB5.out.size (zR _)));have HU6:=zh (HU5.out.bel hb6);have HB6:=zh (HB5.out.trans (hb6.mono HB5.out.size));obtain⟨Am,Nm,cm,rfl⟩:∃A n c,um=.slice A n c:=HM6.out.frm;clear hum hb6;have hk:=(HB6.out.block g HGL.out).trans HBK.out;obtain⟨k0,k1,k2,f0,f1,f2⟩:=cells3 hk;have hbw:=HB0.out.trans (HB6.out.mono HB0.out.size)
   have hgw:w.heap.size<=g:=by rw[HGQ.out];exact zR _
   have hs0:=HB0.out.size;have HX:=zh (box3 hk hbw hgw (.bool false) (.slice An Nn cn) (.slice Am Nm cm) HU6.out (fun b hb=>⟨by have:=hb.1;have:=HGL.out;omega,by have:=hb.1;omega,hb.2⟩) HM6.out (fun b hb=>⟨by have:=hb.1;have:=HGL.out;omega,by have:=hb.1;omega,hb.2⟩));clear hk hbw hgw hs0;go_wp2_with fail;obtain⟨Wf,hWf⟩:=zx (((w6.setCell ⟨g,0,none⟩ (.bool false)).setCell ⟨g,1,none⟩ (.slice An Nn cn)).setCell ⟨g,2,none⟩ (.slice Am Nm cm));obtain⟨x0,x1,x2,hl1,hl2,hbf⟩:=HX.out Wf hWf;rw[<-hWf];clear hWf k0 k1 k2 f0 f1 f2;exact bodyPost_ret (v:=.tuple #[.agg #[.bool false,.slice An Nn cn,.slice Am Nm cm],.int .i64 0]) (by simp[results,Tryz.results71,go_sem,x0,x1,x2]) rfl ⟨_,_,rfl,hl1,hl2,hbf⟩
  | true =>
   have HB5':=zh (nbitsL_b _ l1 _ w4 HA4.out (by have:=HL12.out.2.2.1;omega));rw[HL12.out.1,<-HBB2.out.1,<-HBB2.out.2.2.1] at HB5';go_wp2_with fail;refine HB5'.out.mono ?_;rintro e w7 ⟨rfl,hb7⟩;have HA7:=zh (HA4.out.below hb7);have HV7:=zh (HV4.out.below hb7);have HB7:=zh (HB4.out.trans (hb7.mono HB4.out.size));obtain⟨NG,hNG⟩:=zx (decide ((0:Int)<BN))
   have HNG:=zh (show NG=decide (0<n) from by
    rw[hNG];have h1:=HBB2.out;have h2:=HNM.out.2.2.2.2.2.2.2.2
    refine decide_eq_decide.2 ⟨fun h=>h2.1 (bl_pos.1 (by omega)),fun h=>by have:=bl_pos.2 (h2.2 h);omega⟩)
   clear hb7;go_wp2_with fail;rw[<-hNG];clear hNG;refine(ntrim_any _ l1 _ _ HA7.out (fun b h=>h) (by have:=HL12.out.2.2.1;omega)).mono ?_;rintro e w5 ⟨un,rfl,hun,hb5⟩;rw[<-limbs_nv HA7.out.lim,HL12.out.1] at hun;have HU5:=zh ((hun.ls (lim_limbs _)).mono (Fr.wider HB7.out.size (zR _)));have HV5:=zh (HV7.out.below hb5);have HB5:=zh (HB7.out.trans (hb5.mono HB7.out.size));obtain⟨An,Nn,cn,rfl⟩:∃A n c,un=.slice A n c:=HU5.out.frm;clear hun hb5;go_wp2_with fail;refine(ntrim_any _ l2 _ _ HV5.out (fun b h=>h) (by have:=HL12.out.2.2.2;omega)).mono ?_;rintro e w6 ⟨um,rfl,hum,hb6⟩;rw[<-limbs_nv HV5.out.lim,HL12.out.2.1] at hum;have HM6:=zh ((hum.ls (lim_limbs _)).mono (Fr.wider HB5.out.size (zR _)));have HU6:=zh (HU5.out.bel hb6);have HB6:=zh (HB5.out.trans (hb6.mono HB5.out.size));obtain⟨Am,Nm,cm,rfl⟩:∃A n c,um=.slice A n c:=HM6.out.frm;clear hum hb6;have hk:=(HB6.out.block g HGL.out).trans HBK.out;obtain⟨k0,k1,k2,f0,f1,f2⟩:=cells3 hk;have hbw:=HB0.out.trans (HB6.out.mono HB0.out.size)
   have hgw:w.heap.size<=g:=by rw[HGQ.out];exact zR _
   have hs0:=HB0.out.size;have HX:=zh (box3 hk hbw hgw (.bool NG) (.slice An Nn cn) (.slice Am Nm cm) HU6.out (fun b hb=>⟨by have:=hb.1;have:=HGL.out;omega,by have:=hb.1;omega,hb.2⟩) HM6.out (fun b hb=>⟨by have:=hb.1;have:=HGL.out;omega,by have:=hb.1;omega,hb.2⟩));clear hk hbw hgw hs0;go_wp2_with fail;obtain⟨Wf,hWf⟩:=zx (((w6.setCell ⟨g,0,none⟩ (.bool NG)).setCell ⟨g,1,none⟩ (.slice An Nn cn)).setCell ⟨g,2,none⟩ (.slice Am Nm cm));obtain⟨x0,x1,x2,hl1,hl2,hbf⟩:=HX.out Wf hWf;rw[<-hWf];clear hWf k0 k1 k2 f0 f1 f2;exact bodyPost_ret (v:=.tuple #[.agg #[.bool NG,.slice An Nn cn,.slice Am Nm cm],.int .i64 0]) (by simp[results,Tryz.results71,go_sem,x0,x1,x2]) rfl ⟨_,_,by rw[HNG.out];rfl,hl1,hl2,hbf⟩
theorem flowest_any(va vb:Value)(n m:Nat)(w:World)(ha:LS w (Bl w.heap.size) va (natL n))(hb:LS w (Bl w.heap.size) vb (natL m))(hm:0<m)(hg:Nat.gcd n m=1) :
  Calls Tryz.prog 71 #[.bool false,va,vb] w fun e w'=>∃un um,e=.returned (.tuple #[.agg #[.bool false,un,um],.int .i64 0])/\LS w' (Fr w.heap.size w'.heap.size) un (natL n)/\LS w' (Fr w.heap.size w'.heap.size) um (natL m)/\Below w.heap.size w w':=by
 have hk:okL n m=true:=okL_small hm ha.lt32 hb.lt32;have h:=flowestL_any false va vb _ _ w ha hb (by have:=natL_length n;omega) (by have:=natL_length m;omega) (by rw[nv_natL ha.lt32,nv_natL hb.lt32];exact hk)
 rwa [nv_natL ha.lt32,nv_natL hb.lt32,hg,Nat.div_one,Nat.div_one,limbs_small ha.lt32,limbs_small hb.lt32] at h
theorem freduceL_any(neg:Bool)(va vb:Value)(la lb:List Nat)(w:World)(ha:LS w (Bl w.heap.size) va la)(hb:LS w (Bl w.heap.size) vb lb)(hla:la.length<=512)(hlb:lb.length<=512) :
  Calls Tryz.prog 28 #[.agg #[.bool neg,va,vb]] w fun e w'=>Below w.heap.size w w'/\(okL (nv la) (nv lb)=false/\e=.returned (.tuple #[.agg #[.bool false,.slice none 0 0,.slice none 0 0],.int .i64 1])\/okL (nv la) (nv lb)=true/\∃un um,e=.returned (.tuple #[.agg #[.bool (neg&&decide (0<nv la)),un,um],.int .i64 0])/\LS w' (Fr w.heap.size w'.heap.size) un (limbs (nv la / Nat.gcd (nv la) (nv lb)))/\LS w' (Fr w.heap.size w'.heap.size) um (limbs (nv lb / Nat.gcd (nv la) (nv lb)))):=by
 obtain⟨An,Nn,cn,rfl⟩:=ha.frm;obtain⟨Ad,Nd,cd,rfl⟩:=hb.frm;obtain⟨W0,hW0⟩:=zx ((w.alloc (.cells #[.bool neg,.slice An Nn cn,.slice Ad Nd cd] 26)).alloc (.cells #[.bool false,.slice none 0 0,.slice none 0 0] 26));obtain⟨q,hq⟩:=zx w.heap.size;obtain⟨g,hgq⟩:=zx (w.heap.size+1)
 have hb0:Below w.heap.size w W0:=by rw[hW0];exact((zB _ _).alloc (zR _) _).alloc (by simp) _
 have hbk:W0.heap[g]?=some (.cells #[.bool false,.slice none 0 0,.slice none 0 0] 26 (0,0)):=by
  have h0:=zN (w.alloc (.cells #[.bool neg,.slice An Nn cn,.slice Ad Nd cd] 26)) (.cells #[.bool false,.slice none 0 0,.slice none 0 0] 26);rw[show(w.alloc (.cells #[.bool neg,.slice An Nn cn,.slice Ad Nd cd] 26)).heap.size=g by rw[hgq];simp] at h0;rw[hW0];exact h0
 have hqk:W0.heap[q]?=some (.cells #[.bool neg,.slice An Nn cn,.slice Ad Nd cd] 26 (0,0)):=by
  rw[hW0,hq];exact(zH _ _ _ (by simp)).trans (zN w _)
 have hgl:g<W0.heap.size:=(zA.1 hbk).1;have hql:q<W0.heap.size:=(zA.1 hqk).1;obtain⟨c0,c1,c2,-⟩:=cells3 hqk;have HA0:=zh (ha.below hb0);have HBV:=zh (hb.below hb0);have HV:=zh (fvalidL_any neg _ _ la lb W0 HA0.out HBV.out hla hlb);have HW0:=zh hW0;have HGQ:=zh (show q=w.heap.size/\g=w.heap.size+1 from⟨hq,hgq⟩);have HB0:=zh hb0;have HBK:=zh hbk;have HGL:=zh hgl;have HQL:=zh hql;have HLL:=zh (And.intro hla hlb);clear hla hlb ha hb hW0 hb0 hbk hgl hql hqk hgq hq;go_enter Tryz.func28,Tryz.ntmps28;go_wp2_with fail;rw[<-HW0.out,<-HGQ.out.2,<-HGQ.out.1]
 cases hok:okL (nv la) (nv lb) with
 | false =>
  rw[hok] at HV;refine HV.out.mono ?_;rintro e w1 ⟨rfl,hb1⟩;have hk:=(hb1.block g HGL.out).trans HBK.out;obtain⟨l0,l1,l2,f0,f1,f2⟩:=cells3 hk;have hbw:=HB0.out.trans (hb1.mono HB0.out.size)
  have hgw:w.heap.size<=g:=by rw[HGQ.out.2];omega
  have HX:=zh (box3 (R1:=fun b=>False) (R2:=fun b=>False) hk hbw hgw (.bool false) (.slice none 0 0) (.slice none 0 0) (LS.nil _ _) (fun b hb=>hb.elim) (LS.nil _ _) (fun b hb=>hb.elim));have HOK:=zh hok;clear hb1 hk hbw hgw c0 c1 c2 hok;go_wp2_with fail;obtain⟨Wf,hWf⟩:=zx (((w1.setCell ⟨g,0,none⟩ (.bool false)).setCell ⟨g,1,none⟩ (.slice none 0 0)).setCell ⟨g,2,none⟩ (.slice none 0 0));obtain⟨x0,x1,x2,hl1,hl2,hbf⟩:=HX.out Wf hWf;rw[<-hWf];clear hWf l0 l1 l2 f0 f1 f2;exact bodyPost_ret (v:=.tuple #[.agg #[.bool false,.slice none 0 0,.slice none 0 0],.int .i64 1]) (by simp[results,Tryz.results28,go_sem,x0,x1,x2]) rfl ⟨hbf,.inl ⟨HOK.out,rfl⟩⟩
 | true =>
  rw[hok] at HV;have HOK:=zh hok;clear hok;refine HV.out.mono ?_;rintro e w1 ⟨rfl,hb1⟩;have k0:w1.cell? ⟨q,0,none⟩=some (.bool neg):=(hb1.cell (p:=⟨q,0,none⟩) HQL.out).trans c0;have k1:w1.cell? ⟨q,1,none⟩=some (.slice An Nn cn):=(hb1.cell (p:=⟨q,1,none⟩) HQL.out).trans c1;have k2:w1.cell? ⟨q,2,none⟩=some (.slice Ad Nd cd):=(hb1.cell (p:=⟨q,2,none⟩) HQL.out).trans c2;have HL:=zh (flowestL_any neg _ _ la lb w1 (HA0.out.below hb1) (HBV.out.below hb1) HLL.out.1 HLL.out.2 HOK.out);have HB1:=zh hb1;clear hb1 c0 c1 c2;go_wp2_with fail;refine HL.out.mono ?_;rintro e w2 ⟨un,um,rfl,hun,hum,hb2⟩;obtain⟨A1,N1,c1,rfl⟩:=hun.frm;obtain⟨A2,N2,c2,rfl⟩:=hum.frm;have hb12:=HB1.out.trans (hb2.mono HB1.out.size);have hk:=(hb12.block g HGL.out).trans HBK.out;obtain⟨l0,l1,l2,f0,f1,f2⟩:=cells3 hk;have hbw:=HB0.out.trans (hb12.mono HB0.out.size)
  have hgw:w.heap.size<=g:=by rw[HGQ.out.2];omega
  have hs0:=HB0.out.size;have hs1:=HB1.out.size;have HX:=zh (box3 hk hbw hgw (.bool (neg&&decide (0<nv la))) (.slice A1 N1 c1) (.slice A2 N2 c2) hun (fun b hb=>⟨by have:=hb.1;have:=HGL.out;omega,by have:=hb.1;omega,hb.2⟩) hum (fun b hb=>⟨by have:=hb.1;have:=HGL.out;omega,by have:=hb.1;omega,hb.2⟩));obtain⟨NG,hNG⟩:=zx ((neg&&decide (0<nv la)));rw[<-hNG] at HX ⊢;have HNG:=zh hNG;clear hNG hun hum hb2 hb12 hk hbw hgw hs0 hs1 k0 k1 k2;go_wp2_with fail;obtain⟨Wf,hWf⟩:=zx (((w2.setCell ⟨g,0,none⟩ (.bool NG)).setCell ⟨g,1,none⟩ (.slice A1 N1 c1)).setCell ⟨g,2,none⟩ (.slice A2 N2 c2));obtain⟨x0,x1,x2,hl1,hl2,hbf⟩:=HX.out Wf hWf;rw[<-hWf];clear hWf l0 l1 l2 f0 f1 f2;exact bodyPost_ret (v:=.tuple #[.agg #[.bool NG,.slice A1 N1 c1,.slice A2 N2 c2],.int .i64 0]) (by simp[results,Tryz.results28,go_sem,x0,x1,x2]) rfl ⟨hbf,.inr ⟨HOK.out,_,_,by rw[HNG.out],hl1,hl2⟩⟩
theorem freduce_any(va vb:Value)(n m:Nat)(w:World)(ha:LS w (Bl w.heap.size) va (natL n))(hb:LS w (Bl w.heap.size) vb (natL m))(hm:0<m)(hg:Nat.gcd n m=1) :
  Calls Tryz.prog 28 #[.agg #[.bool false,va,vb]] w fun e w'=>∃un um,e=.returned (.tuple #[.agg #[.bool false,un,um],.int .i64 0])/\LS w' (Fr w.heap.size w'.heap.size) un (natL n)/\LS w' (Fr w.heap.size w'.heap.size) um (natL m)/\Below w.heap.size w w':=by
 have hk:okL n m=true:=okL_small hm ha.lt32 hb.lt32;have h:=freduceL_any false va vb _ _ w ha hb (by have:=natL_length n;omega) (by have:=natL_length m;omega);rw[nv_natL ha.lt32,nv_natL hb.lt32,hg,Nat.div_one,Nat.div_one,limbs_small ha.lt32,limbs_small hb.lt32,hk] at h;refine h.mono ?_;rintro e w' ⟨h1,⟨h2,-⟩ | ⟨-,un,um,rfl,h3,h4⟩⟩
 ·simp at h2
 ·exact⟨un,um,rfl,h3,h4,h1⟩
theorem flimits_any(va vb:Value)(n m:Nat)(w:World)(ha:LS w (Bl w.heap.size) va (natL n))(hb:LS w (Bl w.heap.size) vb (natL m))(hm:0<m)(hg:Nat.gcd n m=1) :
  Calls Tryz.prog 89 #[.agg #[.bool false,va,vb]] w fun e w'=>e=.returned (.bool true)/\Below w.heap.size w w':=by
 obtain⟨An,Nn,cn,rfl⟩:=ha.frm;obtain⟨Ad,Nd,cd,rfl⟩:=hb.frm;obtain⟨W0,hW0⟩:=zx (w.alloc (.cells #[.bool false,.slice An Nn cn,.slice Ad Nd cd] 26))
 have hb0:Below w.heap.size w W0:=by rw[hW0];exact(zB _ _).alloc (zR _) _
 have n32:=bl_32 ha.lt32;have m32:=bl_32 hb.lt32;have HR:=zh (freduce_any _ _ n m W0 (ha.below hb0) (hb.below hb0) hm hg);have HW0:=zh hW0;have HB0:=zh hb0;clear ha hb hW0 hb0;go_enter Tryz.func89,Tryz.ntmps89;go_wp2_with fail;rw[<-HW0.out];refine HR.out.mono ?_;rintro e w1 ⟨un,um,rfl,hun,hum,hb1⟩;obtain⟨A1,N1,c1,rfl⟩:=hun.frm;obtain⟨A2,N2,c2,rfl⟩:=hum.frm;obtain⟨W1,hW1⟩:=zx (w1.alloc (.cells #[.bool false,.slice A1 N1 c1,.slice A2 N2 c2] 26));obtain⟨g,hgq⟩:=zx w1.heap.size
 have hb2:Below w1.heap.size w1 W1:=by rw[hW1];exact(zB _ _).alloc (zR _) _
 have hbk:W1.heap[g]?=some (.cells #[.bool false,.slice A1 N1 c1,.slice A2 N2 c2] 26 (0,0)):=by rw[hW1,hgq];exact zN _ _
 have hgl:g<W1.heap.size:=(zA.1 hbk).1;obtain⟨k0,k1,k2,-⟩:=cells3 hbk;have HB1:=zh ((HB0.out.trans (hb1.mono HB0.out.size)).trans (hb2.mono (Nat.le_trans HB0.out.size hb1.size)));have HN:=zh (nbits_b _ n _ W1 ((hun.mono Fr.bl).below hb2));have HM:=zh ((hum.mono Fr.bl).below hb2);have HW1:=zh hW1;have HGQ:=zh hgq;have HGL:=zh hgl;obtain⟨BN,hBN⟩:=zx (bl n);obtain⟨BM,hBM⟩:=zx (bl m);rw[<-hBN] at HN n32;rw[<-hBM] at m32;have HBM:=zh hBM
 have q1:(BN:Int)<=32:=by omega
 have q2:(BM:Int)<=32:=by omega
 clear hun hum hb1 hb2 hW1 hgq hbk hgl hBN hBM;go_wp2_with fail;rw[<-HW1.out,<-HGQ.out];refine HN.out.mono ?_;rintro e w2 ⟨rfl,hb2⟩;have l2:w2.cell? ⟨g,2,none⟩=some (.slice A2 N2 c2):=(hb2.cell (p:=⟨g,2,none⟩) HGL.out).trans k2;have HM2:=zh (nbits_b _ m _ w2 (HM.out.below hb2));rw[<-HBM.out] at HM2;have HB2:=zh (HB1.out.trans (hb2.mono HB1.out.size));clear hb2 k0 k1 k2;go_wp2_with fail;refine HM2.out.mono ?_;rintro e w3 ⟨rfl,hb3⟩;have HB3:=zh (HB2.out.trans (hb3.mono HB2.out.size));clear hb3 l2;go_wp2_with fail;go_ret;exact⟨ret_bool (by simp[q1,q2]),HB3.out⟩
theorem fabs_any(n:Nat)(w:World)(hn:n<4294967296) :
  Calls Tryz.prog 72 #[.int .i64 (n:Int)] w fun e w'=>∃u,e=.returned u/\LS w' (Fr w.heap.size w'.heap.size) u (natL n)/\Below w.heap.size w w':=by
 have HM:=zh (nmake_any n w hn)
 have q0:¬((n:Int)<0):=by omega
 have q1:(n:Int)<4294967296:=by omega
 have q2:(0:Int)<=(n:Int):=by omega
 go_enter Tryz.func72,Tryz.ntmps72;go_wp2_with fail;refine HM.out.mono ?_;rintro e w1 ⟨u,rfl,hu,hb⟩;have HU:=zh hu;have HB:=zh hb;clear hu hb;go_wp2_with fail;go_ret;exact⟨_,rfl,HU.out,HB.out⟩
theorem fmake_any(n m:Nat)(w:World)(hn:n<4294967296)(hm32:m<4294967296)(hm:0<m)(hg:Nat.gcd n m=1) :
  Calls Tryz.prog 29 #[.int .i64 (n:Int),.int .i64 (m:Int)] w fun e w'=>∃un um,e=.returned (.tuple #[.agg #[.bool false,un,um],.int .i64 0])/\LS w' (Fr w.heap.size w'.heap.size) un (natL n)/\LS w' (Fr w.heap.size w'.heap.size) um (natL m)/\Below w.heap.size w w':=by
 obtain⟨W0,hW0⟩:=zx (w.alloc (.cells #[.bool false,.slice none 0 0,.slice none 0 0] 26));obtain⟨g,hgq⟩:=zx w.heap.size
 have hb0:Below w.heap.size w W0:=by rw[hW0];exact(zB _ _).alloc (zR _) _
 have hbk:W0.heap[g]?=some (.cells #[.bool false,.slice none 0 0,.slice none 0 0] 26 (0,0)):=by rw[hW0,hgq];exact zN _ _
 have hgl:g<W0.heap.size:=(zA.1 hbk).1;have HN:=zh (fabs_any n W0 hn);have HM:=zh (fun w=>fabs_any m w hm32);have HW0:=zh hW0;have HGQ:=zh hgq;have HB0:=zh hb0;have HBK:=zh hbk;have HGL:=zh hgl
 have q0:¬((n:Int)<0):=by omega
 have q1:¬((m:Int)<0):=by omega
 have q2:((m:Int)==0)=false:=by simp;omega
 clear hW0 hgq hb0 hbk hgl hn hm32;go_enter Tryz.func29,Tryz.ntmps29;go_wp2_with fail;rw[<-HW0.out,<-HGQ.out];refine HN.out.mono ?_;rintro e w1 ⟨u1,rfl,hu1,hb1⟩;have HU1:=zh hu1;have HB1:=zh hb1;obtain⟨A1,N1,c1,rfl⟩:=hu1.frm;clear hu1 hb1;go_wp2_with fail;refine(HM.out _).mono ?_;rintro e w2 ⟨u2,rfl,hu2,hb2⟩;have HU2:=zh hu2;have HU12:=zh (HU1.out.bel hb2);have HB2:=zh (HB1.out.trans (hb2.mono HB1.out.size));obtain⟨A2,N2,c2,rfl⟩:=hu2.frm;have HL:=zh (flowest_any _ _ n m w2 (HU12.out.mono Fr.bl) (HU2.out.mono Fr.bl) hm hg);clear hu2 hb2;go_wp2_with fail;refine HL.out.mono ?_;rintro e w3 ⟨un,um,rfl,hun,hum,hb3⟩;obtain⟨A3,N3,c3,rfl⟩:=hun.frm;obtain⟨A4,N4,c4,rfl⟩:=hum.frm;have hb13:=HB2.out.trans (hb3.mono HB2.out.size);have hk:=(hb13.block g HGL.out).trans HBK.out;obtain⟨l0,l1,l2,f0,f1,f2⟩:=cells3 hk;have hbw:=HB0.out.trans (hb13.mono HB0.out.size)
 have hgw:w.heap.size<=g:=by rw[HGQ.out];omega
 have hs0:=HB0.out.size;have hs1:=HB2.out.size;have HX:=zh (box3 hk hbw hgw (.bool false) (.slice A3 N3 c3) (.slice A4 N4 c4) hun (fun b hb=>⟨by have:=hb.1;have:=HGL.out;omega,by have:=hb.1;omega,hb.2⟩) hum (fun b hb=>⟨by have:=hb.1;have:=HGL.out;omega,by have:=hb.1;omega,hb.2⟩));clear hun hum hb3 hb13 hk hbw hgw hs0 hs1;go_wp2_with fail;obtain⟨Wf,hWf⟩:=zx (((w3.setCell ⟨g,0,none⟩ (.bool false)).setCell ⟨g,1,none⟩ (.slice A3 N3 c3)).setCell ⟨g,2,none⟩ (.slice A4 N4 c4));obtain⟨x0,x1,x2,hl1,hl2,hbf⟩:=HX.out Wf hWf;rw[<-hWf];clear hWf l0 l1 l2 f0 f1 f2;exact bodyPost_ret (v:=.tuple #[.agg #[.bool false,.slice A3 N3 c3,.slice A4 N4 c4],.int .i64 0]) (by simp[results,Tryz.results29,go_sem,x0,x1,x2]) rfl ⟨_,_,rfl,hl1,hl2,hbf⟩
theorem rvalidL_any(neg:Bool)(va vb:Value)(la lb:List Nat)(w:World)(ha:LS w (Bl w.heap.size) va la)(hb:LS w (Bl w.heap.size) vb lb)(hla:la.length<=512)(hlb:lb.length<=512) :
  Calls Tryz.prog 85 #[.agg #[.bool neg,va,vb]] w fun e w'=>e=.returned (.bool (okL (nv la) (nv lb)))/\Below w.heap.size w w':=by
 obtain⟨An,Nn,cn,rfl⟩:=ha.frm;obtain⟨Ad,Nd,cd,rfl⟩:=hb.frm;obtain⟨W0,hW0⟩:=zx (w.alloc (.cells #[.bool neg,.slice An Nn cn,.slice Ad Nd cd] 26));obtain⟨q,hq⟩:=zx w.heap.size
 have hb0:Below w.heap.size w W0:=by rw[hW0];exact(zB _ _).alloc (zR _) _
 have hqk:W0.heap[q]?=some (.cells #[.bool neg,.slice An Nn cn,.slice Ad Nd cd] 26 (0,0)):=by rw[hW0,hq];exact zN _ _
 have hql:q<W0.heap.size:=(zA.1 hqk).1;have HC:=zh (fun(w':World) (hb:Below W0.heap.size W0 w')=>cells3 ((hb.block q hql).trans hqk));have HA:=zh (fun(w':World) (hb:Below W0.heap.size W0 w')=>trim_any _ _ _ w' ((ha.below hb0).below hb) (fun _ h=>h) (Nat.le_trans hla (by omega)));have HB:=zh (fun(w':World) (hb':Below W0.heap.size W0 w')=>trim_any _ _ _ w' ((hb.below hb0).below hb') (fun _ h=>h) (Nat.le_trans hlb (by omega)));have hLA:=ha.lim;have hLB:=hb.lim;obtain⟨L1,hL1⟩:=zx ((trimL la).length);obtain⟨L2,hL2⟩:=zx ((trimL lb).length)
 have hok:okL (nv la) (nv lb)=decide (0<L2/\L2<=128/\L1<=128):=by
  unfold okL;refine decide_eq_decide.2 ?_;rw[hL1,hL2,<-limbs_nv hLA,<-limbs_nv hLB,ok128,ok128]
  have:0<nv lb↔0<(limbs (nv lb)).length:=by
   constructor
   ·intro h;obtain⟨m,t,e,-⟩:=limbs_snoc h;rw[e];simp
   ·intro h;rcases Nat.eq_zero_or_pos (nv lb) with h2 | h2
    ·rw[h2,limbs_zero] at h;simp at h
    ·exact h2
  rw[this]
 rw[hok];have HL:=zh (And.intro hL1 hL2);have HW0:=zh hW0;have HQ:=zh hq;have HB0:=zh hb0;obtain⟨c0,c1,c2,-⟩:=HC.out W0 (zB _ _);clear ha hb hW0 hq hb0 hqk hql hL1 hL2 hok hLA hLB hla hlb;go_enter Tryz.func85,Tryz.ntmps85;go_wp2_with fail;rw[<-HW0.out,<-HQ.out];refine(HB.out W0 (zB _ _)).mono ?_;rintro e w1 ⟨u1,rfl,ho1,hb1⟩
 obtain⟨A1,k1,rfl⟩:∃A c,u1=.slice A L2 c:=by obtain⟨A,c,e⟩:=own_form ho1;exact⟨A,c,by rw[e,HL.out.2]⟩
 have HB1:=zh hb1;clear c0 c1 c2 ho1 hb1;obtain⟨c0,c1,c2,-⟩:=HC.out w1 HB1.out;by_cases h0:0<L2
 ·have q0:(0:Int)<(L2:Int):=by omega
  go_wp2_with fail;refine(HB.out w1 HB1.out).mono ?_;rintro e w2 ⟨u1,rfl,ho1,hb1⟩
  obtain⟨A2,k2,rfl⟩:∃A c,u1=.slice A L2 c:=by obtain⟨A,c,e⟩:=own_form ho1;exact⟨A,c,by rw[e,HL.out.2]⟩
  have HB2:=zh (HB1.out.trans (hb1.mono HB1.out.size));clear c0 c1 c2 ho1 hb1;obtain⟨c0,c1,c2,-⟩:=HC.out w2 HB2.out;by_cases h1:L2<=128
  ·have q1:(L2:Int)<=128:=by omega
   go_wp2_with fail;refine(HA.out w2 HB2.out).mono ?_;rintro e w3 ⟨u1,rfl,ho1,hb1⟩
   obtain⟨A3,k3,rfl⟩:∃A c,u1=.slice A L1 c:=by obtain⟨A,c,e⟩:=own_form ho1;exact⟨A,c,by rw[e,HL.out.1]⟩
   have HB3:=zh (HB2.out.trans (hb1.mono HB2.out.size));have HE:=zh (show decide (0<L2/\L2<=128/\L1<=128)=decide ((L1:Int)<=128) from decide_eq_decide.2 ⟨fun h=>by omega,fun h=>⟨h0,h1,by omega⟩⟩);clear c0 c1 c2 ho1 hb1 h0 h1;go_wp2_with fail;go_ret;exact⟨ret_bool (by first | (rw[HE.out];done) | (rw[HE.out];exact decide_eq_decide.2 (by omega)) | exact decide_eq_decide.2 (by omega)),HB0.out.trans (HB3.out.mono HB0.out.size)⟩
  ·have q1:¬(L2:Int)<=128:=by omega
   have HE:=zh (show decide (0<L2/\L2<=128/\L1<=128)=false from decide_eq_false (by omega));have q2:decide (L2<=128)=false:=decide_eq_false h1;clear c0 c1 c2 h0 h1;go_wp2_with fail;go_ret;exact⟨ret_bool (by first | rfl | exact HE.out.symm),HB0.out.trans (HB2.out.mono HB0.out.size)⟩
 ·have q0:¬(0:Int)<(L2:Int):=by omega
  have q2:decide (0<L2)=false:=decide_eq_false h0;have HE:=zh (show decide (0<L2/\L2<=128/\L1<=128)=false from decide_eq_false (by omega));clear c0 c1 c2 h0;go_wp2_with fail;go_ret;exact⟨ret_bool (by first | rfl | exact HE.out.symm),HB0.out.trans (HB1.out.mono HB0.out.size)⟩
theorem rreduceL_any(neg:Bool)(va vb:Value)(la lb:List Nat)(w:World)(ha:LS w (Bl w.heap.size) va la)(hb:LS w (Bl w.heap.size) vb lb)(hla:la.length<=512)(hlb:lb.length<=512) :
  Calls Tryz.prog 83 #[.agg #[.bool neg,va,vb]] w fun e w'=>Below w.heap.size w w'/\(okL (nv la) (nv lb)=false/\e=.returned (.tuple #[.agg #[.bool false,.slice none 0 0,.slice none 0 0],.int .i64 1])\/okL (nv la) (nv lb)=true/\∃un um,e=.returned (.tuple #[.agg #[.bool (neg&&decide (0<nv la)),un,um],.int .i64 0])/\LS w' (Fr w.heap.size w'.heap.size) un (limbs (nv la / Nat.gcd (nv la) (nv lb)))/\LS w' (Fr w.heap.size w'.heap.size) um (limbs (nv lb / Nat.gcd (nv la) (nv lb)))):=by
 obtain⟨An,Nn,cn,rfl⟩:=ha.frm;obtain⟨Ad,Nd,cd,rfl⟩:=hb.frm;obtain⟨W0,hW0⟩:=zx ((w.alloc (.cells #[.bool neg,.slice An Nn cn,.slice Ad Nd cd] 26)).alloc (.cells #[.bool false,.slice none 0 0,.slice none 0 0] 26));obtain⟨q,hq⟩:=zx w.heap.size;obtain⟨g,hgq⟩:=zx (w.heap.size+1)
 have hb0:Below w.heap.size w W0:=by rw[hW0];exact((zB _ _).alloc (zR _) _).alloc (by simp) _
 have hbk:W0.heap[g]?=some (.cells #[.bool false,.slice none 0 0,.slice none 0 0] 26 (0,0)):=by
  have h0:=zN (w.alloc (.cells #[.bool neg,.slice An Nn cn,.slice Ad Nd cd] 26)) (.cells #[.bool false,.slice none 0 0,.slice none 0 0] 26);rw[show(w.alloc (.cells #[.bool neg,.slice An Nn cn,.slice Ad Nd cd] 26)).heap.size=g by rw[hgq];simp] at h0;rw[hW0];exact h0
 have hqk:W0.heap[q]?=some (.cells #[.bool neg,.slice An Nn cn,.slice Ad Nd cd] 26 (0,0)):=by
  rw[hW0,hq];exact(zH _ _ _ (by simp)).trans (zN w _)
 have hgl:g<W0.heap.size:=(zA.1 hbk).1;have hql:q<W0.heap.size:=(zA.1 hqk).1;obtain⟨c0,c1,c2,-⟩:=cells3 hqk;have HA0:=zh (ha.below hb0);have HBV:=zh (hb.below hb0);have HV:=zh (rvalidL_any neg _ _ la lb W0 HA0.out HBV.out hla hlb);have HW0:=zh hW0;have HGQ:=zh (show q=w.heap.size/\g=w.heap.size+1 from⟨hq,hgq⟩);have HB0:=zh hb0;have HBK:=zh hbk;have HGL:=zh hgl;have HQL:=zh hql;have HLL:=zh (And.intro hla hlb);clear hla hlb ha hb hW0 hb0 hbk hgl hql hqk hgq hq;go_enter Tryz.func83,Tryz.ntmps83;go_wp2_with fail;rw[<-HW0.out,<-HGQ.out.2,<-HGQ.out.1]
 cases hok:okL (nv la) (nv lb) with
 | false =>
  rw[hok] at HV;refine HV.out.mono ?_;rintro e w1 ⟨rfl,hb1⟩;have hk:=(hb1.block g HGL.out).trans HBK.out;obtain⟨l0,l1,l2,f0,f1,f2⟩:=cells3 hk;have hbw:=HB0.out.trans (hb1.mono HB0.out.size)
  have hgw:w.heap.size<=g:=by rw[HGQ.out.2];omega
  have HX:=zh (box3 (R1:=fun b=>False) (R2:=fun b=>False) hk hbw hgw (.bool false) (.slice none 0 0) (.slice none 0 0) (LS.nil _ _) (fun b hb=>hb.elim) (LS.nil _ _) (fun b hb=>hb.elim));have HOK:=zh hok;clear hb1 hk hbw hgw c0 c1 c2 hok;go_wp2_with fail;obtain⟨Wf,hWf⟩:=zx (((w1.setCell ⟨g,0,none⟩ (.bool false)).setCell ⟨g,1,none⟩ (.slice none 0 0)).setCell ⟨g,2,none⟩ (.slice none 0 0));obtain⟨x0,x1,x2,hl1,hl2,hbf⟩:=HX.out Wf hWf;rw[<-hWf];clear hWf l0 l1 l2 f0 f1 f2;exact bodyPost_ret (v:=.tuple #[.agg #[.bool false,.slice none 0 0,.slice none 0 0],.int .i64 1]) (by simp[results,Tryz.results83,go_sem,x0,x1,x2]) rfl ⟨hbf,.inl ⟨HOK.out,rfl⟩⟩
 | true =>
  rw[hok] at HV;have HOK:=zh hok;clear hok;refine HV.out.mono ?_;rintro e w1 ⟨rfl,hb1⟩;have k0:w1.cell? ⟨q,0,none⟩=some (.bool neg):=(hb1.cell (p:=⟨q,0,none⟩) HQL.out).trans c0;have k1:w1.cell? ⟨q,1,none⟩=some (.slice An Nn cn):=(hb1.cell (p:=⟨q,1,none⟩) HQL.out).trans c1;have k2:w1.cell? ⟨q,2,none⟩=some (.slice Ad Nd cd):=(hb1.cell (p:=⟨q,2,none⟩) HQL.out).trans c2;have HL:=zh (rlowestL_any neg _ _ la lb w1 (HA0.out.below hb1) (HBV.out.below hb1) HLL.out.1 HLL.out.2 (of_decide_eq_true HOK.out).1);have HB1:=zh hb1;clear hb1 c0 c1 c2;go_wp2_with fail;refine HL.out.mono ?_;rintro e w2 ⟨un,um,rfl,hun,hum,hb2⟩;obtain⟨A1,N1,c1,rfl⟩:=hun.frm;obtain⟨A2,N2,c2,rfl⟩:=hum.frm;have hb12:=HB1.out.trans (hb2.mono HB1.out.size);have hk:=(hb12.block g HGL.out).trans HBK.out;obtain⟨l0,l1,l2,f0,f1,f2⟩:=cells3 hk;have hbw:=HB0.out.trans (hb12.mono HB0.out.size)
  have hgw:w.heap.size<=g:=by rw[HGQ.out.2];omega
  have hs0:=HB0.out.size;have hs1:=HB1.out.size;have HX:=zh (box3 hk hbw hgw (.bool (neg&&decide (0<nv la))) (.slice A1 N1 c1) (.slice A2 N2 c2) hun (fun b hb=>⟨by have:=hb.1;have:=HGL.out;omega,by have:=hb.1;omega,hb.2⟩) hum (fun b hb=>⟨by have:=hb.1;have:=HGL.out;omega,by have:=hb.1;omega,hb.2⟩));obtain⟨NG,hNG⟩:=zx ((neg&&decide (0<nv la)));rw[<-hNG] at HX ⊢;have HNG:=zh hNG;clear hNG hun hum hb2 hb12 hk hbw hgw hs0 hs1 k0 k1 k2;go_wp2_with fail;obtain⟨Wf,hWf⟩:=zx (((w2.setCell ⟨g,0,none⟩ (.bool NG)).setCell ⟨g,1,none⟩ (.slice A1 N1 c1)).setCell ⟨g,2,none⟩ (.slice A2 N2 c2));obtain⟨x0,x1,x2,hl1,hl2,hbf⟩:=HX.out Wf hWf;rw[<-hWf];clear hWf l0 l1 l2 f0 f1 f2;exact bodyPost_ret (v:=.tuple #[.agg #[.bool NG,.slice A1 N1 c1,.slice A2 N2 c2],.int .i64 0]) (by simp[results,Tryz.results83,go_sem,x0,x1,x2]) rfl ⟨hbf,.inr ⟨HOK.out,_,_,by rw[HNG.out],hl1,hl2⟩⟩
theorem next_hot(w0:World)(R:Nat->Prop)(gT:Nat)(vt:Value)(xs:List Int)(hx:IntS w0 R vt xs)(hR:∀b,R b->b<w0.heap.size/\b≠gT)(wr:World)(hh:HotBy [some gT] w0 wr)(I:Nat)(hT:TapeB wr gT vt I)(hI:I<=4611686018427387904)(n:Nat)(h1:1<=n)(h2:n<=4294967296) :
  Calls Tryz.prog 61 #[.pointer (some ⟨gT,0,none⟩),.int .i64 (n:Int)] wr fun e w'=>∃r:Nat,e=.returned (.int .i64 (r:Int))/\r<n/\TapeB w' gT vt (I+1)/\wr.grownBy w' (some gT):=by
 have hx':IntS wr R vt xs:=hx.keep (fun b hb=>hh.block b (hR b hb).1 (by
  intro e;have:=(hR b hb).2;simp at e
  exact this e))
 refine(next_any gT vt xs I (n:Int) wr R hT hx' hI ⟨by omega,by omega⟩).mono ?_;rintro e w' ⟨rfl,hT',hg⟩;have hr:=within_range (tapeX xs I) (n:Int) (by omega);refine⟨(within (tapeX xs I) (n:Int)).toNat,?_,by omega,hT',hg⟩;rw[Int.toNat_of_nonneg hr.1]
structure StatA (w0:World) (R:Nat->Prop) (gT:Nat) (vt:Value) (xs:List Int) (WA:World) (gF:Nat):Prop where
 hx:IntS w0 R vt xs
 hR:∀b,R b->b<w0.heap.size/\b≠gT
 hot:HotBy [some gT] w0 WA
 gT:gT<w0.heap.size
 gF1:w0.heap.size<=gF
 gF2:gF<WA.heap.size
theorem StatA.w0{w0:World}{R:Nat->Prop}{gT:Nat}{vt:Value}{xs:List Int}{WA:World}{gF:Nat}(h:StatA w0 R gT vt xs WA gF){wr:World}(hh:HotBy [some gT,some gF] WA wr):HotBy [some gT] w0 wr:=by
 refine⟨hh.os.trans h.hot.os,hh.tape.trans h.hot.tape,hh.output.trans h.hot.output,Nat.le_trans h.hot.size hh.size,fun b hb hn=>(hh.block b (zM hb h.hot.size) (fun e=>?_)).trans (h.hot.block b hb hn)⟩;simp at e hn;have:=h.gF1;omega
def dveC(x:DveM):List Value:=[.string x.name,.int .i64 x.model,.int .i64 x.machine]
structure InvA (gT:Nat) (vt:Value) (WA:World) (gF:Nat) (ext:Int) (vl vm:Value) (wr:World) (I:Nat) (vd vv:Value) (ds:List DomM) (vs:List DveM):Prop where
 tape:TapeB wr gT vt I
 hot:HotBy [some gT,some gF] WA wr
 flt:FltB wr gF ext vl vm vd vv (.slice none 0 0) (.slice none 0 0)
 dom:OwnK 7 DomK wr WA.heap.size 100 vd ds (Cold WA.heap.size wr [vd.ownBlock,vv.ownBlock])
 dve:wr.ownsRow WA.heap.size 102 3 vv vs.length (vs.flatMap dveC)
 apart:vd.ownBlock=none\/vd.ownBlock≠vv.ownBlock
section
variable {w0 : World} {R : Nat -> Prop} {gT : Nat} {vt : Value} {xs : List Int} {WA : World} {gF : Nat} {ext : Int} {vl vm : Value} {wr : World} {I : Nat} {vd vv : Value} {ds : List DomM} {vs : List DveM}
theorem own_same{w w':World}{base:Nat}{e:TypeId}{s:Nat}{v:Value}{n:Nat}{xs:List Value}(h:w.ownsRow base e s v n xs)(hs:w.heap.size<=w'.heap.size)(hb:∀g,v.ownBlock=some g->w'.heap[g]?=w.heap[g]?):w'.ownsRow base e s v n xs:=by
 refine⟨h.1,?_⟩;rcases h.2 with h0 | ⟨g,cap,cur,rfl,h1,h2,h3,h4,h5⟩
 ·exact .inl h0
 ·exact .inr ⟨g,cap,cur,rfl,h1,(hb g rfl).trans h2,h3,h4,h5⟩
theorem own_hot{w w':World}{hot:List (Option Nat)}{base:Nat}{e:TypeId}{s:Nat}{v:Value}{n:Nat}{xs:List Value}(h:w.ownsRow base e s v n xs)(hh:HotBy hot w w')(hne:∀g,v.ownBlock=some g->some g∉hot):w'.ownsRow base e s v n xs :=
 own_same h hh.size (fun g hg=>hh.block g (h.lt g hg).2 (hne g hg))
theorem Cold.hot{B:Nat}{w w':World}{hot hot2:List (Option Nat)}(hh:HotBy hot2 w w')(hr:∀b,B<=b->b<w.heap.size->some b∈hot2->some b∈hot):Kept (Cold B w hot) w w':=fun b hb=>hh.block b hb.2.1 (fun e=>hb.2.2 (hr b hb.1 hb.2.1 e))
theorem InvA.next_any(S:StatA w0 R gT vt xs WA gF)(h:InvA gT vt WA gF ext vl vm wr I vd vv ds vs)(hI:I<=1000000000)(n:Nat)(h1:1<=n)(h2:n<=1000000) :
  Calls Tryz.prog 61 #[.pointer (some ⟨gT,0,none⟩),.int .i64 (n:Int)] wr fun e w'=>∃r:Nat,e=.returned (.int .i64 (r:Int))/\r<n/\InvA gT vt WA gF ext vl vm w' (I+1) vd vv ds vs:=by
 refine(next_hot w0 R gT vt xs S.hx S.hR wr (S.w0 h.hot) I h.tape (by omega) n h1 (by omega)).mono ?_;rintro e w' ⟨r,rfl,hr,hT,hg⟩;have hh:HotBy [some gT] wr w':=HotBy.grown hg (.inl (by simp));have hTl:gT<WA.heap.size:=zM S.gT S.hot.size
 have hFT:gF≠gT:=by have:=S.gF1;have:=S.gT;omega
 refine⟨r,rfl,hr,hT,h.hot.trans (hh.more (fun x hx _=>by simp at hx ⊢;exact .inl hx)),(hg.block gF h.flt.lt (fun e=>hFT (Option.some.inj e))).trans h.flt,?_,?_,h.apart⟩
 ·obtain⟨cs,c1,c2⟩:=h.dom;refine⟨cs,own_hot c1 hh (fun g hg2 e=>?_),fun k a ha=>?_⟩
  ·have:=(c1.lt g hg2).1;simp at e;omega
  ·obtain⟨c,d1,d2,d3⟩:=c2 k a ha;refine⟨c,d1,d2,domK.mono (fun b hb=>⟨hb.1,zM hb.2.1 hg.size,hb.2.2⟩) (domK.keep (Cold.hot hh (fun b hb _ e=>?_)) d3)⟩;simp at e;omega
 ·exact own_hot h.dve hh (fun g hg2 e=>by
   have:=(h.dve.lt g hg2).1
   simp at e;omega)
def domM(n:Nat)(level parent uplink:Int):DomM:=⟨⟨(nameL 110 n).toArray⟩,level,parent,uplink,⟨false,0,1⟩⟩
theorem InvA.domain_any(S:StatA w0 R gT vt xs WA gF)(h:InvA gT vt WA gF ext vl vm wr I vd vv ds vs)(hd:ds.length<=1000)(level parent uplink:Int) :
  Calls Tryz.prog 62 #[.pointer (some ⟨gF,0,none⟩),.int .i64 level,.int .i64 parent,.int .i64 uplink] wr fun e w'=>e=.returned (.int .i64 (ds.length:Int))/\∃vd',InvA gT vt WA gF ext vl vm w' I vd' vv (ds++[domM ds.length level parent uplink]) vs:=by
 obtain⟨cs,c1,c2⟩:=h.dom;refine(Go.Proofs.YtgfaieppacabjaaGreat.domain_any gF ext vl vm vd vv _ _ ds.length cs WA.heap.size level parent uplink wr h.flt c1 S.gF2 h.hot.size hd).mono ?_;rintro e w' ⟨rfl,vd',vn2,vd2,hF,ho,hn,hd2,hat,hh⟩;have hTl:gT<WA.heap.size:=zM S.gT S.hot.size
 have hFT:gF≠gT:=by have:=S.gF1;have:=S.gT;omega
 have hcl:cs.length=ds.length*7:=c1.1
 have hvd:∀g,vd.ownBlock=some g->WA.heap.size<=g/\g<wr.heap.size:=fun g hg=>c1.lt g hg
 have hvv:∀g,vv.ownBlock=some g->WA.heap.size<=g/\g<wr.heap.size:=fun g hg=>h.dve.lt g hg
 have hgT:some gT∉[some gF,vd.ownBlock]:=fun e=>by
  simp at e;rcases e with e | e
  ·exact hFT e.symm
  ·have:=(hvd gT e.symm).1;omega
 have hot2:HotBy [some gT,some gF] WA w':=⟨hh.os.trans h.hot.os,hh.tape.trans h.hot.tape,hh.output.trans h.hot.output,Nat.le_trans h.hot.size hh.size,fun b hb hn=>(hh.block b (zM hb h.hot.size) (fun e=>by
  simp at e hn;rcases e with e | e
  ·exact hn.2 e
  ·have:=(hvd b e.symm).1;omega)).trans (h.hot.block b hb hn)⟩
 refine⟨rfl,vd',?_,hot2,hF,?_,?_,?_⟩
 ·exact(hh.block gT (zM hTl h.hot.size) hgT).trans h.tape
 ·refine OwnK.push (v:=vd) domK (fun k x hx=>c2 k x hx) hcl ho rfl (Cold.hot hh (fun b hb hlt e=>?_)) (fun b hb=>⟨hb.1,zM hb.2.1 hh.size,fun e=>?_⟩) ⟨vn2,vd2,rfl,hn.mono (fun b hb=>⟨Nat.le_trans h.hot.size hb.1,hb.2.1,fun e=>?_⟩),hd2.mono (fun b hb=>⟨Nat.le_trans h.hot.size hb.1,hb.2.1,fun e=>?_⟩)⟩
  ·simp at e ⊢;rcases e with e | e
   ·have:=S.gF2;omega
   ·exact .inl e
  ·simp at e;rcases e with e | e
   ·rcases hat with h1 | ⟨x,h1,h2⟩
    ·exact hb.2.2 (by rw[e,h1];simp)
    ·rw[h1] at e;injection e with e;have:=hb.2.1;omega
   ·exact hb.2.2 (by rw[e];simp)
  ·simp at e;rcases e with e | e
   ·exact hb.2.2 e.symm
   ·have:=(hvv b e.symm).2;have:=hb.1;omega
  ·simp at e;rcases e with e | e
   ·exact hb.2.2 e.symm
   ·have:=(hvv b e.symm).2;have:=hb.1;omega
 ·refine own_hot h.dve hh (fun g hg e=>?_);simp at e;rcases e with e | e
  ·have:=(hvv g hg).1;have:=S.gF2;omega
  ·rcases h.apart with h1 | h1
   ·rw[h1] at e;cases e
   ·exact h1 (e▸hg.symm▸rfl)
 ·rcases hat with h1 | ⟨x,h1,h2⟩
  ·rw[h1];exact h.apart
  ·right
   rw[h1];intro e;have:=(hvv x e.symm).2;omega
theorem flatMap_snoc{α β:Type}(f:α->List β)(l:List α)(x:α):(l++[x]).flatMap f=l.flatMap f++f x:=by simp
theorem InvA.drive(S:StatA w0 R gT vt xs WA gF)(h:InvA gT vt WA gF ext vl vm wr I vd vv ds vs){w':World}{vv':Value}{x:DveM}(hh:HotBy [some gF,vv.ownBlock] wr w')(hF:FltB w' gF ext vl vm vd vv' (.slice none 0 0) (.slice none 0 0))
  (ho:w'.ownsRow WA.heap.size 102 3 vv' (vs.length+1) (vs.flatMap dveC++dveC x)) (hat:vv'.ownBlock=vv.ownBlock\/∃x,vv'.ownBlock=some x/\wr.heap.size<=x):InvA gT vt WA gF ext vl vm w' I vd vv' ds (vs++[x]):=by
 have hTl:gT<WA.heap.size:=zM S.gT S.hot.size
 have hFT:gF≠gT:=by have:=S.gF1;have:=S.gT;omega
 have hvd:∀g,vd.ownBlock=some g->WA.heap.size<=g/\g<wr.heap.size:=fun g hg=>h.dom.lt g hg
 have hvv:∀g,vv.ownBlock=some g->WA.heap.size<=g/\g<wr.heap.size:=fun g hg=>h.dve.lt g hg
 have hgT:some gT∉[some gF,vv.ownBlock]:=fun e=>by
  simp at e;rcases e with e | e
  ·exact hFT e.symm
  ·have:=(hvv gT e.symm).1;omega
 have hot2:HotBy [some gT,some gF] WA w':=⟨hh.os.trans h.hot.os,hh.tape.trans h.hot.tape,hh.output.trans h.hot.output,Nat.le_trans h.hot.size hh.size,fun b hb hn=>(hh.block b (zM hb h.hot.size) (fun e=>by
  simp at e hn;rcases e with e | e
  ·exact hn.2 e
  ·have:=(hvv b e.symm).1;omega)).trans (h.hot.block b hb hn)⟩
 obtain⟨cs,c1,c2⟩:=h.dom;refine⟨(hh.block gT (zM hTl h.hot.size) hgT).trans h.tape,hot2,hF,⟨cs,own_hot c1 hh (fun g hg e=>?_),fun k a ha=>?_⟩,?_,?_⟩
 ·simp at e;rcases e with e | e
  ·have:=(hvd g hg).1;have:=S.gF2;omega
  ·rcases h.apart with h1 | h1
   ·rw[h1] at hg;cases hg
   ·exact h1 (hg.trans e)
 ·obtain⟨c,d1,d2,d3⟩:=c2 k a ha;refine⟨c,d1,d2,domK.mono (fun b hb=>⟨hb.1,zM hb.2.1 hh.size,fun e=>?_⟩) (domK.keep (Cold.hot hh (fun b hb hlt e=>?_)) d3)⟩
  ·simp at e;rcases e with e | e
   ·exact hb.2.2 (by rw[e];simp)
   ·rcases hat with h1 | ⟨x,h1,h2⟩
    ·exact hb.2.2 (by rw[e,h1];simp)
    ·rw[h1] at e;injection e with e;have:=hb.2.1;omega
  ·simp at e ⊢;rcases e with e | e
   ·have:=S.gF2;omega
   ·exact .inr e
 ·rw[zP,flatMap_snoc];exact ho
 ·rcases hat with h1 | ⟨x,h1,h2⟩
  ·rw[h1];exact h.apart
  ·by_cases e0:vd.ownBlock=none
   ·exact .inl e0
   ·right
    rw[h1];intro e;have:=(hvd x e).2;omega
theorem info_dve:(Tryz.prog.info? 102).map (fun i=>(i.zero,i.size,i.bytes))=some (some (.agg #[.string ⟨#[]⟩,.int .i64 0,.int .i64 0]),3,32):=by kernel_rfl
end
def FrcV(w:World)(R:Nat->Prop)(v:Value)(x:Frc):Prop:=∃An Ln cn Ad Ld cd,v=.agg #[.bool x.neg,.slice An Ln cn,.slice Ad Ld cd]/\LS w R (.slice An Ln cn) (natL x.num)/\LS w R (.slice Ad Ld cd) (natL x.den)
theorem FrcS.v{w:World}{R:Nat->Prop}{v:Value}{x:Frc}(h:FrcS w R v x):FrcV w R v x:=by
 obtain⟨vn,vd,rfl,h1,h2⟩:=h;obtain⟨An,cn,rfl,-,-⟩:=h1.form;obtain⟨Ad,cd,rfl,-,-⟩:=h2.form;exact⟨An,_,cn,Ad,_,cd,rfl,h1,h2⟩
theorem fracV(n m:Nat)(w:World)(hn:n<4294967296)(hm:m<4294967296)(h0:0<m)(x:Frc)(hx:lowF false n m=x)(vn vm:Int)(e1:vn=(n:Int))(e2:vm=(m:Int)) :
  Calls Tryz.prog 9 #[.int .i64 vn,.int .i64 vm] w fun e w'=>∃v,e=.returned v/\FrcV w' (Fr w.heap.size w'.heap.size) v x/\Below w.heap.size w w':=by
 subst e1;subst e2;refine(frac_any n m w hn hm h0).mono ?_;rintro e w' ⟨v,rfl,h1,h2⟩;rw[hx] at h1;exact⟨v,rfl,h1.v,h2⟩
theorem low1(m:Nat):lowF false 1 m=⟨false,1,m⟩:=by simp[lowF]
theorem low_m1(n:Nat)(h:n≠0):lowF false n 1=⟨false,n,1⟩:=by simp[lowF,h]
theorem slS_lit{α:Type}{size:Nat}{K:World->(Nat->Prop)->List Value->α->Prop}(hK:Steady K)(w:World)(cs:List Value)(es:List α)(t:TypeId)(B:Nat)(h:∀k a,es[k]?=some a->∃c,c.length=size/\(∀i u,c[i]?=some u->cs[k*size+i]?=some u)/\K w (Fr B w.heap.size) c a)(hm:es.length<=maxLen)(hB:B<=w.heap.size) :
  SlS size K (w.alloc (.cells cs.toArray t)) (Fr B (w.alloc (.cells cs.toArray t)).heap.size) (.slice (some ⟨w.heap.size,0,none⟩) es.length es.length) es:=by
 refine⟨_,_,rfl,zR _,hm,fun _=>⟨w.heap.size,0,rfl,⟨hB,by simp⟩,fun k a ha=>?_⟩⟩;obtain⟨c,h1,h2,h3⟩:=h k a ha;refine⟨c,h1,fun i u hu=>?_,hK.mono (fun b hb=>⟨hb.1,by have:=hb.2;simp;omega⟩) (hK.keep ((kept_alloc w _).mono (fun b hb=>hb.2)) h3)⟩;rw[Nat.zero_add,cell_of_row _ _ _ _ _ _ (zN w _)]
 simpa using h2 i u hu
theorem slS_lit1{α:Type}{size:Nat}{K:World->(Nat->Prop)->List Value->α->Prop}(hK:Steady K)(w:World)(cs:List Value)(a:α)(t:TypeId)(B:Nat)(hl:cs.length=size)(h:K w (Fr B w.heap.size) cs a)(hB:B<=w.heap.size) :
  SlS size K (w.alloc (.cells cs.toArray t)) (Fr B (w.alloc (.cells cs.toArray t)).heap.size) (.slice (some ⟨w.heap.size,0,none⟩) 1 1) [a] :=
 slS_lit hK w cs [a] t B (fun k x hx=>by
  match k,hx with
  | 0,hx=>simp at hx;subst hx;exact⟨cs,hl,fun i u hu=>by simpa using hu,h⟩) (by unfold maxLen;simp) hB
theorem kept_hot{B:Nat}{hot:List (Option Nat)}{w w':World}(hh:HotBy hot w w')(hb:∀b,some b∈hot->b<B):Kept (Fr B w.heap.size) w w':=fun b hx=>hh.block b hx.2 (fun e=>by have:=hb b e;have:=hx.1;omega)
theorem SlS.hot{α:Type}{size:Nat}{K:World->(Nat->Prop)->List Value->α->Prop}(hK:Steady K){B:Nat}{hot:List (Option Nat)}{w w':World}{v:Value}{es:List α}(h:SlS size K w (Fr B w.heap.size) v es)(hh:HotBy hot w w')(hb:∀b,some b∈hot->b<B):SlS size K w' (Fr B w'.heap.size) v es :=
 SlS.mono hK (SlS.keep hK h (kept_hot hh hb)) (fun b hx=>⟨hx.1,zM hx.2 hh.size⟩)
theorem LS.hot{B:Nat}{hot:List (Option Nat)}{w w':World}{v:Value}{l:List Nat}(h:LS w (Fr B w.heap.size) v l)(hh:HotBy hot w w')(hb:∀b,some b∈hot->b<B):LS w' (Fr B w'.heap.size) v l :=
 (h.keep (kept_hot hh hb)).mono (fun b hx=>⟨hx.1,zM hx.2 hh.size⟩)
theorem LS.fr{w:World}{B B' n:Nat}{v:Value}{l:List Nat}(h:LS w (Fr B n) v l)(hB:B'<=B):LS w (Fr B' n) v l:=h.mono (fun b hx=>⟨Nat.le_trans hB hx.1,hx.2⟩)
structure StF (gT:Nat) (vt:Value) (W2:World) (gF g4:Nat) (wr:World) (I:Nat) (e:Int) (vl vm vd vv vp vo:Value):Prop where
 tape:TapeB wr gT vt I
 flt:FltB wr gF e vl vm vd vv vp vo
 f4:FltB wr g4 0 (.slice none 0 0) (.slice none 0 0) (.slice none 0 0) (.slice none 0 0) (.slice none 0 0) (.slice none 0 0)
 hot:HotBy [some gT,some gF] W2 wr
 neF:gF≠gT
 ne4:g4≠gT
 ne4F:g4≠gF
 lT:gT<W2.heap.size
 lF:gF<W2.heap.size
section
variable {gT : Nat} {vt : Value} {W2 : World} {gF g4 : Nat} {wr w' : World} {I : Nat} {e : Int} {vl vm vd vv vp vo : Value}
theorem TapeB.lt{W:World}{g:Nat}{vl:Value}{I:Nat}(h:TapeB W g vl I):g<W.heap.size:=(zA.1 h).1
theorem StF.below(h:StF gT vt W2 gF g4 wr I e vl vm vd vv vp vo)(hb:Below wr.heap.size wr w'):StF gT vt W2 gF g4 w' I e vl vm vd vv vp vo :=
 ⟨(hb.block gT h.tape.lt).trans h.tape,h.flt.below hb,h.f4.below hb,h.hot.trans (HotBy.below hb),h.neF,h.ne4,h.ne4F,h.lT,h.lF⟩
theorem StF.alloc(h:StF gT vt W2 gF g4 wr I e vl vm vd vv vp vo)(o:Obj):StF gT vt W2 gF g4 (wr.alloc o) I e vl vm vd vv vp vo:=h.below ((zB _ _).alloc (zR _) _)
theorem StF.next(h:StF gT vt W2 gF g4 wr I e vl vm vd vv vp vo)(hg:wr.grownBy w' (some gT)){J:Nat}(hT:TapeB w' gT vt J):StF gT vt W2 gF g4 w' J e vl vm vd vv vp vo :=
 ⟨hT,(hg.block gF h.flt.lt (fun x=>h.neF (Option.some.inj x))).trans h.flt,(hg.block g4 h.f4.lt (fun x=>h.ne4 (Option.some.inj x))).trans h.f4,h.hot.trans (HotBy.grown hg (.inl (by simp))),h.neF,h.ne4,h.ne4F,h.lT,h.lF⟩
theorem StF.set_(h:StF gT vt W2 gF g4 wr I e vl vm vd vv vp vo)(i:Nat)(u:Value){vl' vm' vd' vv' vp' vo':Value}(hF:FltB (wr.setCell ⟨gF,i,none⟩ u) gF e vl' vm' vd' vv' vp' vo'):StF gT vt W2 gF g4 (wr.setCell ⟨gF,i,none⟩ u) I e vl' vm' vd' vv' vp' vo' :=
 ⟨(Below.heap_setCell wr ⟨gF,i,none⟩ u gT (fun x=>h.neF x.symm)).trans h.tape,hF,(Below.heap_setCell wr ⟨gF,i,none⟩ u g4 (fun x=>h.ne4F x)).trans h.f4,h.hot.trans (HotBy.setCell _ _ _ _ (by simp)),h.neF,h.ne4,h.ne4F,h.lT,h.lF⟩
theorem StF.set1(h:StF gT vt W2 gF g4 wr I e vl vm vd vv vp vo)(u:Value):StF gT vt W2 gF g4 (wr.setCell ⟨gF,1,none⟩ u) I e u vm vd vv vp vo:=h.set_ 1 u (heap_setCell_same wr gF 1 _ _ u h.flt)
theorem StF.set2(h:StF gT vt W2 gF g4 wr I e vl vm vd vv vp vo)(u:Value):StF gT vt W2 gF g4 (wr.setCell ⟨gF,2,none⟩ u) I e vl u vd vv vp vo:=h.set_ 2 u (heap_setCell_same wr gF 2 _ _ u h.flt)
theorem StF.set3(h:StF gT vt W2 gF g4 wr I e vl vm vd vv vp vo)(u:Value):StF gT vt W2 gF g4 (wr.setCell ⟨gF,3,none⟩ u) I e vl vm u vv vp vo:=h.set_ 3 u (heap_setCell_same wr gF 3 _ _ u h.flt)
theorem StF.cold(h:StF gT vt W2 gF g4 wr I e vl vm vd vv vp vo):∀b,some b∈[some gT,some gF]->b<W2.heap.size:=fun b x=>by
 simp at x;rcases x with rfl | rfl
 ·exact h.lT
 ·exact h.lF
theorem StF.sl{α:Type}{size:Nat}{K:World->(Nat->Prop)->List Value->α->Prop}(hK:Steady K)(h:StF gT vt W2 gF g4 wr I e vl vm vd vv vp vo){hot:List (Option Nat)}(hh:HotBy hot wr w')(hb:∀b,some b∈hot->some b∈[some gT,some gF]){v:Value}{es:List α}(hs:SlS size K wr (Fr W2.heap.size wr.heap.size) v es):SlS size K w' (Fr W2.heap.size w'.heap.size) v es :=
 SlS.hot hK hs hh (fun b x=>h.cold b (hb b x))
theorem StF.w0(h:StF gT vt W2 gF g4 wr I e vl vm vd vv vp vo){w:World}(h0:HotBy [some gT] w W2)(hF:w.heap.size<=gF):HotBy [some gT] w wr :=
 ⟨h.hot.os.trans h0.os,h.hot.tape.trans h0.tape,h.hot.output.trans h0.output,Nat.le_trans h0.size h.hot.size,fun b hb hn=>(h.hot.block b (zM hb h0.size) (fun x=>by
  simp at x hn
  omega)).trans (h0.block b hb hn)⟩
theorem StF.next_any(h:StF gT vt W2 gF g4 wr I e vl vm vd vv vp vo){w:World}{R:Nat->Prop}{xs:List Int}(h0:HotBy [some gT] w W2)(hF:w.heap.size<=gF)(hx:IntS w R vt xs)(hR:∀b,R b->b<w.heap.size/\b≠gT)(hI:I<=1000000000)(n:Nat)(h1:1<=n)(h2:n<=1000000)(nv:Int)(hn:nv=(n:Int)) :
  Calls Tryz.prog 61 #[.pointer (some ⟨gT,0,none⟩),.int .i64 nv] wr fun r w'=>∃k:Nat,r=.returned (.int .i64 (k:Int))/\k<n/\StF gT vt W2 gF g4 w' (I+1) e vl vm vd vv vp vo/\HotBy [some gT] wr w':=by
 subst hn;refine(next_hot w R gT vt xs hx hR wr (h.w0 h0 hF) I h.tape (by omega) n h1 (by omega)).mono ?_;rintro r w' ⟨k,rfl,hk,hT,hg⟩;exact⟨k,rfl,hk,h.next hg hT,HotBy.grown hg (.inl (by simp))⟩
end
def LevAt(ds:List DomM)(x:Nat)(lv:Int):Prop:=∃d,ds[x]?=some d/\d.level=lv
theorem LevAt.more{ds:List DomM}{x:Nat}{lv:Int}(h:LevAt ds x lv)(d:DomM):LevAt (ds++[d]) x lv:=by
 obtain⟨e,h1,h2⟩:=h;exact⟨e,by rw[List.getElem?_append_left (zL.1 h1).1];exact h1,h2⟩
theorem LevAt.lt{ds:List DomM}{x:Nat}{lv:Int}(h:LevAt ds x lv):x<ds.length:=by
 obtain⟨e,h1,h2⟩:=h;exact(zL.1 h1).1
def rootM:DomM:=⟨{ data:=#[] },0,-1,0,⟨false,0,1⟩⟩
structure DomOk (ds:List DomM):Prop where
 root:ds[0]?=some rootM
 rest:∀i d,ds[i]?=some d->1<=i->d.name=⟨(nameL 110 i).toArray⟩/\1<=d.level/\d.level<=4/\(∃p:Nat,d.parent=(p:Int)/\p<i/\LevAt ds p (d.level-1))/\1<=d.uplink/\d.uplink<=64/\d.shock=⟨false,0,1⟩
theorem DomOk.start:DomOk [rootM]:=⟨rfl,fun i d h h1=>by
 match i,h with
 | 0,h=>omega
 | i+1,h=>simp at h⟩
theorem DomOk.pos{ds:List DomM}(h:DomOk ds):0<ds.length:=(zL.1 h.root).1
theorem DomOk.root0{ds:List DomM}(h:DomOk ds):LevAt ds 0 0:=⟨_,h.root,rfl⟩
theorem DomOk.push{ds:List DomM}(h:DomOk ds){level:Int}{p:Nat}{uplink:Int}(h1:1<=level)(h2:level<=4)(hp:LevAt ds p (level-1))(h3:1<=uplink)(h4:uplink<=64):DomOk (ds++[domM ds.length level (p:Int) uplink]):=by
 refine⟨by rw[List.getElem?_append_left h.pos];exact h.root,fun i d hd hi=>?_⟩;rcases Nat.lt_or_ge i ds.length with hlt | hge
 ·rw[List.getElem?_append_left hlt] at hd;obtain⟨g1,g2,g3,⟨q,g4,g5,g6⟩,g7⟩:=h.rest i d hd hi;exact⟨g1,g2,g3,⟨q,g4,g5,g6.more _⟩,g7⟩
 ·have he:i=ds.length:=by
   have:=(zL.1 hd).1;rw[zP] at this;simp at this;omega
  subst he;rw[List.getElem?_append_right (zR _),Nat.sub_self] at hd;simp at hd;subst hd;exact⟨rfl,h1,h2,⟨p,rfl,hp.lt,hp.more _⟩,h3,h4,rfl⟩
theorem LevAt.last(ds:List DomM)(level parent uplink:Int):LevAt (ds++[domM ds.length level parent uplink]) ds.length level:=⟨domM ds.length level parent uplink,by simp,rfl⟩
def dveM(n:Nat)(model machine:Int):DveM:=⟨⟨(nameL 100 n).toArray⟩,model,machine⟩
def DveOk(vs:List DveM)(ds:List DomM):Prop:=∀(j:Nat) (x:DveM),vs[j]?=some x->x.name=⟨(nameL 100 j).toArray⟩/\(x.model=0\/x.model=1)/\∃m:Nat,x.machine=(m:Int)/\LevAt ds m 4
theorem DveOk.nil(ds:List DomM):DveOk [] ds:=fun j x h=>by simp at h
theorem DveOk.more{vs:List DveM}{ds:List DomM}(h:DveOk vs ds)(d:DomM):DveOk vs (ds++[d]):=fun j x hx=>by
 obtain⟨h1,h2,m,h3,h4⟩:=h j x hx;exact⟨h1,h2,m,h3,h4.more d⟩
theorem DveOk.push{vs:List DveM}{ds:List DomM}(h:DveOk vs ds){model:Int}(hm:model=0\/model=1){m:Nat}(hl:LevAt ds m 4):DveOk (vs++[dveM vs.length model (m:Int)]) ds:=by
 intro j x hx;rcases Nat.lt_or_ge j vs.length with hlt | hge
 ·rw[List.getElem?_append_left hlt] at hx;exact h j x hx
 ·have he:j=vs.length:=by
   have:=(zL.1 hx).1;rw[zP] at this;simp at this;omega
  subst he;rw[List.getElem?_append_right (zR _),Nat.sub_self] at hx;simp at hx;subst hx;exact⟨rfl,hm,m,rfl,hl⟩
end Go.Proofs.YtgfaieppacabjaaGreat
