/- Parts. -/
import Derived.Test.YtgfaieppacabjaaGreatMq07
set_option linter.unusedSectionVars false
set_option maxRecDepth 100000
set_option maxHeartbeats 12800000
set_option linter.unusedVariables false
set_option linter.unusedSimpArgs false
namespace Go.Proofs.YtgfaieppacabjaaGreat
open Go.RowKit
theorem rlowestL_any(neg:Bool)(va vb:Value)(la lb:List Nat)(w:World)(ha:LS w (Bl w.heap.size) va la)(hb:LS w (Bl w.heap.size) vb lb)(hla:la.length<=512)(hlb:lb.length<=512)(hm0:0<nv lb) :
  Calls Tryz.prog 67 #[.bool neg,va,vb] w fun e w'=>∃un um,e=.returned (.agg #[.bool (neg&&decide (0<nv la)),un,um])/\LS w' (Fr w.heap.size w'.heap.size) un (limbs (nv la / Nat.gcd (nv la) (nv lb)))/\LS w' (Fr w.heap.size w'.heap.size) um (limbs (nv lb / Nat.gcd (nv la) (nv lb)))/\Below w.heap.size w w':=by
 obtain⟨W0,hW0⟩:=zx (w.alloc (.cells #[.bool false,.slice none 0 0,.slice none 0 0] 26));obtain⟨g,hgq⟩:=zx w.heap.size
 have hbk:W0.heap[g]?=some (.cells #[.bool false,.slice none 0 0,.slice none 0 0] 26 (0,0)):=by rw[hW0,hgq];exact zN _ _
 have hb0:Below w.heap.size w W0:=by rw[hW0];exact(zB _ _).alloc (zR _) _
 have hgl:g<W0.heap.size:=(zA.1 hbk).1;obtain⟨n,hn⟩:=zx (nv la);obtain⟨m,hm⟩:=zx (nv lb);obtain⟨G,hG⟩:=zx (Nat.gcd n m);rw[<-hm] at hm0;rw[<-hn,<-hm,<-hG];obtain⟨NB,hNB⟩:=zx ((neg&&decide (0<n)));rw[<-hNB];have HNB:=zh hNB;obtain⟨X,hX⟩:=zx (n / G);obtain⟨Y,hY⟩:=zx (m / G);rw[<-hX,<-hY];have HXY:=zh (And.intro hX hY);clear hNB hX hY
 have hGp:0<G:=by rw[hG];exact Nat.gcd_pos_of_pos_right _ hm0
 have hna:limbs n=trimL la:=by rw[hn,limbs_nv ha.lim]
 have hmb:limbs m=trimL lb:=by rw[hm,limbs_nv hb.lim]
 have hnl:(limbs n).length<=512:=by rw[hna];exact Nat.le_trans (trimL_length _) hla
 have hml:(limbs m).length<=512:=by rw[hmb];exact Nat.le_trans (trimL_length _) hlb
 have HNM:=zh (show limbs n=trimL la/\limbs m=trimL lb/\0<m/\0<G/\G ∣ n/\G ∣ m/\(limbs n).length<=512/\(limbs m).length<=512/\G=Nat.gcd n m from⟨hna,hmb,hm0,hGp,by rw[hG];exact Nat.gcd_dvd_left _ _,by rw[hG];exact Nat.gcd_dvd_right _ _,hnl,hml,hG⟩);have HLL:=zh (And.intro hla hlb);have HA0:=zh (ha.below hb0);have HBV:=zh (hb.below hb0);have HW0:=zh hW0;have HGQ:=zh hgq;have HB0:=zh hb0;have HBK:=zh hbk;have HGL:=zh hgl;clear ha hb hW0 hgq hb0 hbk hn hm hG hGp hla hlb hna hmb hnl hml hm0;go_enter Tryz.func67,Tryz.ntmps67;go_wp2_with fail;rw[<-HW0.out,<-HGQ.out];refine(trim_any va _ _ _ HA0.out (fun b h=>h) (Nat.le_trans HLL.out.1 (by omega))).mono ?_;rintro e w1 ⟨u1,rfl,hO1,hb1⟩;rw[<-HNM.out.1] at hO1;have HO1:=zh hO1;have HB1:=zh hb1;have HV1:=zh (HBV.out.below hb1);obtain⟨A1,c1,rfl⟩:=own_form hO1;obtain⟨N1,hN1⟩:=zx ((limbs n).length);rw[<-hN1] at HO1 ⊢;have HN1:=zh hN1;clear hO1 hb1 hN1;go_wp2_with fail;refine(trim_any vb _ _ _ HV1.out (fun b h=>h) (Nat.le_trans HLL.out.2 (by omega))).mono ?_;rintro e w2 ⟨u2,rfl,hO2,hb2⟩;rw[<-HNM.out.2.1] at hO2;have HO12:=zh (HO1.out.below hb2);have HO2:=zh (hO2.base (B':=W0.heap.size) HB1.out.size);have HB2:=zh (HB1.out.trans (hb2.mono HB1.out.size));obtain⟨A2,c2,rfl⟩:=own_form hO2;obtain⟨N2,hN2⟩:=zx ((limbs m).length);rw[<-hN2] at HO2 ⊢;clear hO2 hb2 hN2;by_cases h0:n=0
 ·have hl0:N1=0:=by rw[HN1.out,h0,limbs_zero];rfl
  subst hl0;have hk:=(HB2.out.block g hgl).trans HBK.out;obtain⟨k0,k1,k2,f0,f1,f2⟩:=cells3 hk;have hgl2:g<w2.heap.size:=zM hgl HB2.out.size
  have hgn:g≠w2.heap.size:=by omega
  have hgn':w2.heap.size≠g:=by omega
  have HE:=zh (show limbs X=[]/\limbs Y=[1]/\NB=false from by
   have hg:G=m:=by rw[HNM.out.2.2.2.2.2.2.2.2,h0,Nat.gcd_zero_left]
   refine⟨by rw[HXY.out.1,h0,Nat.zero_div,limbs_zero],by rw[HXY.out.2,hg,Nat.div_self HNM.out.2.2.1,limbs_small (by omega),natL_pos (by omega)],by rw[HNB.out,h0];simp⟩)
  clear h0;go_wp2_with fail;have h1:=HB0.out.trans (HB2.out.mono HB0.out.size);have h2:=h1.size
  have hgw:w.heap.size<=g:=by rw[HGQ.out];exact zR _
  have hbf:=(below_set3 h1 hgw (.bool false) (.slice none 0 0) (.slice (some ⟨w2.heap.size,0,none⟩) 1 1)).alloc (by simpa using h2) (.cells #[.int .u32 1] 107);have hfin:=(zH _ (.cells #[.int .u32 1] 107) g (by simpa using hgl2)).trans (store3 (x:=.bool false) (y:=.slice none 0 0) (z:=.slice (some ⟨w2.heap.size,0,none⟩) 1 1) hk);have hnew:=heap_alloc_at (((w2.setCell ⟨g,0,none⟩ (.bool false)).setCell ⟨g,1,none⟩ (.slice none 0 0)).setCell ⟨g,2,none⟩ (.slice (some ⟨w2.heap.size,0,none⟩) 1 1)) (.cells #[.int .u32 1] 107) w2.heap.size (by simp)
  have hsz:w2.heap.size<((((w2.setCell ⟨g,0,none⟩ (.bool false)).setCell ⟨g,1,none⟩ (.slice none 0 0)).setCell ⟨g,2,none⟩ (.slice (some ⟨w2.heap.size,0,none⟩) 1 1)).alloc (.cells #[.int .u32 1] 107)).heap.size:=by simp
  obtain⟨Wf,hWf⟩:=zx ((((w2.setCell ⟨g,0,none⟩ (.bool false)).setCell ⟨g,1,none⟩ (.slice none 0 0)).setCell ⟨g,2,none⟩ (.slice (some ⟨w2.heap.size,0,none⟩) 1 1)).alloc (.cells #[.int .u32 1] 107));rw[<-hWf] at hbf hfin hnew hsz ⊢;obtain⟨x0,x1,x2,-,-,-⟩:=cells3 hfin;clear k0 k1 k2 f0 f1 f2;exact bodyPost_ret (v:=.agg #[.bool false,.slice none 0 0,.slice (some ⟨w2.heap.size,0,none⟩) 1 1]) (by simp[results,Tryz.results67,go_sem,x0,x1,x2]) rfl ⟨_,_,by rw[HE.out.2.2],by rw[HE.out.1];exact LS.nil _ _,by rw[HE.out.2.1];exact LS.cell1 _ w2.heap.size 1 (by omega) hnew _ ⟨h2,hsz⟩,hbf⟩
 ·have hn1:((N1:Int)==0)=false:=by
   obtain⟨m,t,e,-⟩:=limbs_snoc (y:=n) (by omega);have hN1:=HN1.out;rw[e] at hN1;exact beq_eq_false_iff_ne.2 (by simp at hN1;omega)
  have HNE:=zh (show NB=neg from by rw[HNB.out,decide_eq_true (show 0<n by omega),Bool.and_true]);have LX:=zh (HO12.out.lsBl (lim_limbs _));have LY:=zh (HO2.out.lsBl (lim_limbs _));clear h0;go_wp2_with fail;refine(rgcdL_any _ _ n m _ LX.out LY.out HNM.out.2.2.2.2.2.2.1 HNM.out.2.2.2.2.2.2.2.1).mono ?_;rintro e w3 ⟨vg,rfl,hog,hb3⟩;rw[<-HNM.out.2.2.2.2.2.2.2.2] at hog;have hlsg:=hog.lsBl (lim_limbs _)
  have hGl0:0<(limbs G).length:=by obtain⟨m,t,e,-⟩:=limbs_snoc HNM.out.2.2.2.1;rw[e];simp
  obtain⟨Ag,cg,rfl⟩:=own_form hog;obtain⟨bg,og,rfl,hRg,hcg⟩:=hlsg.reads hGl0;obtain⟨NG,hNG⟩:=zx ((limbs G).length)
  have hg0:(limbs G)[0]?=some (G % 4294967296):=by rw[limbs_pos HNM.out.2.2.2.1];rfl
  have kg:=hcg 0 _ hg0 w3 rfl;rw[Nat.add_zero] at kg;obtain⟨g0,hg0d⟩:=zx (G % 4294967296);rw[<-hg0d] at kg
  have HTS:=zh (show(1<NG\/1<g0)↔1<G from by
   rw[hNG,hg0d];have h1:=limbs_len1 (n:=G);have h2:=HNM.out.2.2.2.1
   constructor
   ·intro h;rcases h with h | h
    ·have:=mt h1.2 (by omega);omega
    ·have:=Nat.mod_le G 4294967296;omega
   ·intro h;rcases Nat.lt_or_ge 1 (limbs G).length with h3 | h3
    ·exact .inl h3
    ·have:=h1.1 h3
     exact .inr (by rw[Nat.mod_eq_of_lt this];exact h))
  have HGI:=zh (show 0<NG by rw[hNG];exact hGl0)
  have hng:(0:Int)<(NG:Int):=by omega
  rw[<-hNG] at hlsg ⊢;have LG:=zh hlsg;have HO13:=zh (HO12.out.below hb3);have HO23:=zh (HO2.out.below hb3);have HB3:=zh (HB2.out.trans (hb3.mono HB2.out.size));have HGLN:=zh (limbs_mono (Nat.le_of_dvd HNM.out.2.2.1 HNM.out.2.2.2.2.2.1) HNM.out.2.2.2.2.2.2.2.1);clear hog hb3 hlsg hGl0 hRg hcg hNG hg0 hg0d;go_upto_region 5 with fail;go_cut [32] from 24 to 46 (fun v32 wc=>v32=.bool (decide (1<G))/\wc=w3)
  case first =>
   by_cases h1:1<NG
   ·have q1:(1:Int)<(NG:Int):=by omega
    have HE:=zh (show decide (1<G)=true from decide_eq_true (HTS.out.1 (.inl h1)));clear h1;go_wp2_with fail;go_meet
    case rel=>exact⟨by rw[HE.out],rfl⟩
   ·have q1:¬(1:Int)<(NG:Int):=by omega
    by_cases h2:1<g0
    ·have q2:(1:Int)<(g0:Int):=by omega
     have HE:=zh (show decide (1<G)=true from decide_eq_true (HTS.out.1 (.inr h2)));have q3:decide (1<g0)=true:=decide_eq_true h2;clear h1 h2;go_wp2_with fail;go_meet
     case rel=>exact⟨by rw[HE.out],rfl⟩
    ·have q2:¬(1:Int)<(g0:Int):=by omega
     have HE:=zh (show decide (1<G)=false from decide_eq_false (fun h=>(HTS.out.2 h).elim h1 h2));have q3:decide (1<g0)=false:=decide_eq_false h2;clear h1 h2;go_wp2_with fail;go_meet
     case rel=>exact⟨by rw[HE.out],rfl⟩
  case rest =>
   obtain⟨rfl,hwc⟩:=hcut;subst hwc;go_step;go_cut [1,2] from 24 to 46 (fun v1 v2 wy=>∃(A1:Option Addr) (N1 c1:Nat) (A2:Option Addr) (N2 c2:Nat),v1=.slice A1 N1 c1/\v2=.slice A2 N2 c2/\Hid (OwnL wy W0.heap.size (.slice A1 N1 c1) (limbs X))/\Hid (OwnL wy W0.heap.size (.slice A2 N2 c2) (limbs Y))/\Hid (Below W0.heap.size W0 wy))
   case first =>
    by_cases h1:1<G
    ·have q1:decide (1<G)=true:=decide_eq_true h1;rw[q1];clear h1;go_wp2_with fail;refine(rdvL_any _ _ n G _ (HO13.out.lsBl (lim_limbs _)) LG.out HNM.out.2.2.2.1 HNM.out.2.2.2.2.2.2.1 HGLN.out).mono ?_;rintro e w4 ⟨vn,r4,rfl,hn4,-,hb4⟩;rw[<-HXY.out.1] at hn4
     obtain⟨An,Ln,cn,rfl⟩:∃A l c,vn=.slice A l c:=by obtain⟨A,c,e⟩:=own_form hn4;exact⟨A,_,c,e⟩
     have HN4:=zh hn4;have HO24:=zh (HO23.out.below hb4);have LG4:=zh (LG.out.below hb4);have HC4:=zh (HB3.out.trans (hb4.mono HB3.out.size));clear hn4 hb4;go_wp2_with fail;refine(rdvL_any _ _ m G _ (HO24.out.lsBl (lim_limbs _)) LG4.out HNM.out.2.2.2.1 HNM.out.2.2.2.2.2.2.2.1 HGLN.out).mono ?_;rintro e wf ⟨vd,r5,rfl,hd5,-,hb5⟩;rw[<-HXY.out.2] at hd5
     obtain⟨Ad,Ld,cd,rfl⟩:∃A l c,vd=.slice A l c:=by obtain⟨A,c,e⟩:=own_form hd5;exact⟨A,_,c,e⟩
     have HLN:=zh ((HN4.out.below hb5).base (B':=W0.heap.size) HB3.out.size);have HLD:=zh (hd5.base (B':=W0.heap.size) HC4.out.size);have HCF:=zh (HC4.out.trans (hb5.mono HC4.out.size));clear hd5 hb5;go_wp2_with fail;go_meet
     case rel=>exact⟨_,_,_,_,_,_,rfl,rfl,HLN.out,HLD.out,HCF.out⟩
    ·have q1:decide (1<G)=false:=decide_eq_false h1;rw[q1]
     have HX1:=zh (show X=n/\Y=m from by
      have hg:G=1:=by have:=HNM.out.2.2.2.1;omega
      exact⟨by rw[HXY.out.1,hg,Nat.div_one],by rw[HXY.out.2,hg,Nat.div_one]⟩)
     clear h1;go_wp2_with fail;go_meet
     case rel=>exact⟨_,_,_,_,_,_,rfl,rfl,by rw[HX1.out.1];exact HO13.out,by rw[HX1.out.2];exact HO23.out,HB3.out⟩
   case rest =>
    obtain⟨An,Ln,cn,Ad,Ld,cd,rfl,rfl,HN5,HD5,HB5⟩:=hcut;have hk:=(HB5.out.block g hgl).trans HBK.out;obtain⟨k0,k1,k2,f0,f1,f2⟩:=cells3 hk
    have hgw:w.heap.size<=g:=by rw[HGQ.out];exact zR _
    have hbw:=HB0.out.trans (HB5.out.mono HB0.out.size);have hs0:=HB0.out.size;have HX:=zh (box3 hk hbw hgw (.bool neg) (.slice An Ln cn) (.slice Ad Ld cd) (HN5.out.ls (lim_limbs _)) (fun b hb=>⟨by have:=hb.1;have:=HGL.out;omega,by have:=hb.1;omega,hb.2⟩) (HD5.out.ls (lim_limbs _)) (fun b hb=>⟨by have:=hb.1;have:=HGL.out;omega,by have:=hb.1;omega,hb.2⟩));clear hk hbw hgw hs0;go_wp2_with fail;obtain⟨Wf,hWf⟩:=zx (((wc.setCell ⟨g,0,none⟩ (.bool neg)).setCell ⟨g,1,none⟩ (.slice An Ln cn)).setCell ⟨g,2,none⟩ (.slice Ad Ld cd));obtain⟨x0,x1,x2,hl1,hl2,hbf⟩:=HX.out Wf hWf;rw[<-hWf];clear hWf k0 k1 k2 f0 f1 f2;exact bodyPost_ret (v:=.agg #[.bool neg,.slice An Ln cn,.slice Ad Ld cd]) (by simp[results,Tryz.results67,go_sem,x0,x1,x2]) rfl ⟨_,_,by rw[HNE.out],hl1,hl2,hbf⟩
theorem rlowest_any(neg:Bool)(va vb:Value)(n m:Nat)(w:World)(ha:LS w (Bl w.heap.size) va (natL n))(hb:LS w (Bl w.heap.size) vb (natL m))(hm:0<m) :
  Calls Tryz.prog 67 #[.bool neg,va,vb] w fun e w'=>∃v,e=.returned v/\FrcS w' (Fr w.heap.size w'.heap.size) v (lowF neg n m)/\Below w.heap.size w w':=by
 have h:=rlowestL_any neg va vb _ _ w ha hb (by have:=natL_length n;omega) (by have:=natL_length m;omega) (by rw[nv_natL hb.lt32];exact hm);rw[nv_natL ha.lt32,nv_natL hb.lt32,limbs_small (Nat.lt_of_le_of_lt (Nat.div_le_self n _) ha.lt32),limbs_small (Nat.lt_of_le_of_lt (Nat.div_le_self m _) hb.lt32)] at h;refine h.mono ?_;rintro e w' ⟨un,um,rfl,h1,h2,h3⟩;refine⟨_,rfl,⟨un,um,?_,?_,?_⟩,h3⟩
 ·unfold lowF;rcases Nat.eq_zero_or_pos n with h | h
  ·rw[if_pos h,h];simp
  ·rw[if_neg (by omega),decide_eq_true h,Bool.and_true]
 ·unfold lowF;rcases Nat.eq_zero_or_pos n with h | h
  ·rw[if_pos h];rw[h,Nat.zero_div] at h1;exact h1
  ·rw[if_neg (by omega)];exact h1
 ·unfold lowF;rcases Nat.eq_zero_or_pos n with h | h
  ·rw[if_pos h];rw[h,Nat.gcd_zero_left,Nat.div_self hm] at h2;exact h2
  ·rw[if_neg (by omega)];exact h2
theorem rsize_any(n:Nat)(w:World)(hn:n<4294967296) :
  Calls Tryz.prog 69 #[.int .i64 (n:Int)] w fun e w'=>e=.returned (.int .u64 (n:Int))/\w=w':=by
 have q:¬(n:Int)<0:=by omega
 have hw:IntKind.u64.wrap (n:Int)=(n:Int):=IntWalk.u64_in _ (by omega);have HW:=zh hw;clear hn hw;go_enter Tryz.func69,Tryz.ntmps69;go_wp2;go_ret;exact⟨ret_int HW.out,rfl⟩
theorem rfrac_any(n m:Nat)(w:World)(hn:n<4294967296)(hm:m<4294967296)(h0:0<m) :
  Calls Tryz.prog 27 #[.int .i64 (n:Int),.int .i64 (m:Int)] w fun e w'=>∃v,e=.returned (.tuple #[v,.int .i64 0])/\FrcS w' (Fr w.heap.size w'.heap.size) v (lowF false n m)/\Below w.heap.size w w':=by
 obtain⟨W0,hW0⟩:=zx (w.alloc (.cells #[.bool false,.slice none 0 0,.slice none 0 0] 26));obtain⟨g,hg⟩:=zx w.heap.size
 have hbk:W0.heap[g]?=some (.cells #[.bool false,.slice none 0 0,.slice none 0 0] 26 (0,0)):=by rw[hW0,hg];exact zN _ _
 have hb0:Below w.heap.size w W0:=by rw[hW0];exact(zB _ _).alloc (zR _) _
 have hgl:g<W0.heap.size:=by rw[hW0,hg];simp
 have HW0:=zh hW0;have HG:=zh hg;have HBK:=zh hbk;have HB0:=zh hb0
 have q0:((m:Int)==0)=false:=by rw[beq_eq_false_iff_ne];omega
 have q1:¬(n:Int)<0:=by omega
 have q2:¬(m:Int)<0:=by omega
 have HN:=zh hn;have HM:=zh hm;have H0:=zh h0;clear hW0 hg hbk hb0 hn hm h0;go_enter Tryz.func27,Tryz.ntmps27;go_wp2_with fail;rw[<-HW0.out,<-HG.out];refine(rsize_any n _ HN.out).mono ?_;rintro e w1 ⟨rfl,rfl⟩;go_wp2_with fail;refine(rmake_any n _ HN.out).mono ?_;rintro e w1 ⟨u1,rfl,ho1,hb1⟩;have HO1:=zh ho1;have HB1:=zh hb1;clear ho1 hb1;go_wp2_with fail;refine(rsize_any m _ HM.out).mono ?_;rintro e w2 ⟨rfl,rfl⟩;go_wp2_with fail;refine(rmake_any m _ HM.out).mono ?_;rintro e w2 ⟨u2,rfl,ho2,hb2⟩;have HO1:=zh (HO1.out.below hb2);have HO2:=zh ho2;have HB2:=zh (HB1.out.trans (hb2.mono HB1.out.size));clear ho2 hb2;go_wp2_with fail;refine(rlowest_any false u1 u2 n m _ (HO1.out.lsBl (natL_mem HN.out)) (HO2.out.lsBl (natL_mem HM.out)) H0.out).mono ?_;rintro e wf ⟨v,rfl,hf,hb3⟩;obtain⟨vn,vd,rfl,hn,hd⟩:=hf
 obtain⟨An,Ln,cn,rfl⟩:∃A l c,vn=.slice A l c:=by obtain⟨A,c,e,-,-⟩:=hn.form;exact⟨A,_,c,e⟩
 obtain⟨Ad,Ld,cd,rfl⟩:∃A l c,vd=.slice A l c:=by obtain⟨A,c,e,-,-⟩:=hd.form;exact⟨A,_,c,e⟩
 have hcf:=HB2.out.trans (hb3.mono HB2.out.size);have hk:=(hcf.block g hgl).trans HBK.out;obtain⟨k0,k1,k2,f0,f1,f2⟩:=cells3 hk
 have hgw:w.heap.size<=g:=by rw[HG.out];exact zR _
 have hg2:g<w2.heap.size:=zM hgl HB2.out.size;have HCF:=zh (HB0.out.trans (hcf.mono HB0.out.size));have HSW:=zh (Nat.le_trans HB0.out.size HB2.out.size);have HLN:=zh hn;have HLD:=zh hd;clear hn hd hb3 hcf;obtain⟨ng,hng⟩:=zx ((lowF false n m).neg);rw[<-hng];have HNG:=zh hng;clear hng;go_wp2_with fail;have hbf:=below_set3 HCF.out hgw (.bool ng) (.slice An Ln cn) (.slice Ad Ld cd);have hfin:=store3 (x:=.bool ng) (y:=.slice An Ln cn) (z:=.slice Ad Ld cd) hk;have hln:=(HLN.out.keep (kept_set3 wf g (.bool ng) (.slice An Ln cn) (.slice Ad Ld cd) (Fr w2.heap.size wf.heap.size) (fun b hb e=>by have:=hb.1;omega))).mono (R':=Fr w.heap.size wf.heap.size) (fun b hb=>⟨Nat.le_trans HSW.out hb.1,hb.2⟩);have hld:=(HLD.out.keep (kept_set3 wf g (.bool ng) (.slice An Ln cn) (.slice Ad Ld cd) (Fr w2.heap.size wf.heap.size) (fun b hb e=>by have:=hb.1;omega))).mono (R':=Fr w.heap.size wf.heap.size) (fun b hb=>⟨Nat.le_trans HSW.out hb.1,hb.2⟩)
 have hsz:wf.heap.size=(((wf.setCell ⟨g,0,none⟩ (.bool ng)).setCell ⟨g,1,none⟩ (.slice An Ln cn)).setCell ⟨g,2,none⟩ (.slice Ad Ld cd)).heap.size:=by simp
 rw[hsz] at hln hld;obtain⟨Wf,hWf⟩:=zx (((wf.setCell ⟨g,0,none⟩ (.bool ng)).setCell ⟨g,1,none⟩ (.slice An Ln cn)).setCell ⟨g,2,none⟩ (.slice Ad Ld cd));rw[<-hWf] at hbf hfin hln hld ⊢;obtain⟨x0,x1,x2,-,-,-⟩:=cells3 hfin;clear k0 k1 k2 f0 f1 f2;exact bodyPost_ret (v:=.tuple #[.agg #[.bool ng,.slice An Ln cn,.slice Ad Ld cd],.int .i64 0]) (by simp[results,Tryz.results27,go_sem,x0,x1,x2]) rfl ⟨_,rfl,⟨_,_,by rw[<-HNG.out],hln,hld⟩,hbf⟩
theorem frac_any(n m:Nat)(w:World)(hn:n<4294967296)(hm:m<4294967296)(h0:0<m) :
  Calls Tryz.prog 9 #[.int .i64 (n:Int),.int .i64 (m:Int)] w fun e w'=>∃v,e=.returned v/\FrcS w' (Fr w.heap.size w'.heap.size) v (lowF false n m)/\Below w.heap.size w w':=by
 obtain⟨W0,hW0⟩:=zx (w.alloc (.cells #[.bool false,.slice none 0 0,.slice none 0 0] 26));obtain⟨g,hg⟩:=zx w.heap.size
 have hbk:W0.heap[g]?=some (.cells #[.bool false,.slice none 0 0,.slice none 0 0] 26 (0,0)):=by rw[hW0,hg];exact zN _ _
 have hb0:Below w.heap.size w W0:=by rw[hW0];exact(zB _ _).alloc (zR _) _
 have hgl:g<W0.heap.size:=by rw[hW0,hg];simp
 have HW0:=zh hW0;have HG:=zh hg;have HBK:=zh hbk;have HB0:=zh hb0;have HM:=zh (rfrac_any n m W0 hn hm h0);clear hW0 hg hbk hb0 hn hm h0;go_enter Tryz.func9,Tryz.ntmps9;go_wp2_with fail;rw[<-HW0.out,<-HG.out];refine HM.out.mono ?_;rintro e w1 ⟨v,rfl,hf,hb1⟩;obtain⟨vn,vd,rfl,hn,hd⟩:=hf
 obtain⟨An,Ln,cn,rfl⟩:∃A l c,vn=.slice A l c:=by obtain⟨A,c,e,-,-⟩:=hn.form;exact⟨A,_,c,e⟩
 obtain⟨Ad,Ld,cd,rfl⟩:∃A l c,vd=.slice A l c:=by obtain⟨A,c,e,-,-⟩:=hd.form;exact⟨A,_,c,e⟩
 obtain⟨ng,hng⟩:=zx ((lowF false n m).neg);rw[<-hng];have HNG:=zh hng;clear hng;have hk:=(hb1.block g hgl).trans HBK.out;obtain⟨k0,k1,k2,f0,f1,f2⟩:=cells3 hk;have HLN:=zh hn;have HLD:=zh hd;have HB1:=zh hb1;have hgl1:g<w1.heap.size:=zM hgl hb1.size
 have hgn:g≠w1.heap.size:=by omega
 have hgn':w1.heap.size≠g:=by omega
 clear hn hd hb1;go_wp2_with fail
 have hgw:w.heap.size<=g:=by rw[HG.out];exact zR _
 have hcw:=HB0.out.trans (HB1.out.mono HB0.out.size);have hbf:=(below_set3 hcw hgw (.bool ng) (.slice An Ln cn) (.slice Ad Ld cd)).alloc (by simpa using hcw.size) (.cells #[.bool ng,.slice An Ln cn,.slice Ad Ld cd] 26);have hfin:=(zH _ (.cells #[.bool ng,.slice An Ln cn,.slice Ad Ld cd] 26) g (by simpa using hgl1)).trans (store3 (x:=.bool ng) (y:=.slice An Ln cn) (z:=.slice Ad Ld cd) hk)
 have kk:Kept (Fr W0.heap.size w1.heap.size) w1 ((((w1.setCell ⟨g,0,none⟩ (.bool ng)).setCell ⟨g,1,none⟩ (.slice An Ln cn)).setCell ⟨g,2,none⟩ (.slice Ad Ld cd)).alloc (.cells #[.bool ng,.slice An Ln cn,.slice Ad Ld cd] 26)) :=
  (kept_set3 w1 g (.bool ng) (.slice An Ln cn) (.slice Ad Ld cd) _ (fun b hb e=>by have:=hb.1;omega)).trans ((kept_alloc _ _).mono (fun b hb=>by have:=hb.2;simpa[Bl] using this))
 have hln:=(HLN.out.keep kk).mono (R':=Fr w.heap.size w1.heap.size) (fun b hb=>⟨Nat.le_trans HB0.out.size hb.1,hb.2⟩);have hld:=(HLD.out.keep kk).mono (R':=Fr w.heap.size w1.heap.size) (fun b hb=>⟨Nat.le_trans HB0.out.size hb.1,hb.2⟩)
 have hsz:w1.heap.size<=((((w1.setCell ⟨g,0,none⟩ (.bool ng)).setCell ⟨g,1,none⟩ (.slice An Ln cn)).setCell ⟨g,2,none⟩ (.slice Ad Ld cd)).alloc (.cells #[.bool ng,.slice An Ln cn,.slice Ad Ld cd] 26)).heap.size:=by simp
 obtain⟨Wf,hWf⟩:=zx ((((w1.setCell ⟨g,0,none⟩ (.bool ng)).setCell ⟨g,1,none⟩ (.slice An Ln cn)).setCell ⟨g,2,none⟩ (.slice Ad Ld cd)).alloc (.cells #[.bool ng,.slice An Ln cn,.slice Ad Ld cd] 26));rw[<-hWf] at hbf hfin hln hld hsz ⊢;obtain⟨x0,x1,x2,-,-,-⟩:=cells3 hfin;clear k0 k1 k2 f0 f1 f2 kk;exact bodyPost_ret (v:=.agg #[.bool ng,.slice An Ln cn,.slice Ad Ld cd]) (by simp[results,Tryz.results9,go_sem,x0,x1,x2]) rfl ⟨_,rfl,⟨_,_,by rw[<-HNG.out],hln.mono (fun b hb=>⟨hb.1,zM hb.2 hsz⟩),hld.mono (fun b hb=>⟨hb.1,zM hb.2 hsz⟩)⟩,hbf⟩
theorem nlength_any(v:Value)(l:List Nat)(R:Nat->Prop)(w:World)(h:LS w R v l)(hl:l.length<=1048576) :
  Calls Tryz.prog 159 #[v] w fun e w'=>e=.returned (.int .i64 ((trimL l).length:Int))/\w=w':=by
 rcases h.1 with ⟨rfl,rfl⟩ | ⟨b,off,c,rfl,hlc,hcm,hRb,hcs⟩
 ·clear h;go_enter Tryz.func159,Tryz.ntmps159;go_wp2_with fail;go_loopg [3] 0 (fun z v3 wr=>w=wr/\v3=.int .i64 0)
  case atStart=>exact⟨rfl,rfl⟩
  case round =>
   obtain⟨rfl,rfl⟩:=hrel;go_wp2_with fail;go_ret;exact⟨rfl,rfl⟩
 ·clear h;unfold maxLen at hcm;have HCS:=zh hcs;clear hcs;go_enter Tryz.func159,Tryz.ntmps159;go_wp2_with fail;go_loopg [3] l.length (fun z v3 wr=>w=wr/\∃j:Nat,j<=l.length/\z=0+j/\v3=.int .i64 (j:Int)/\Hid (∀i (h:i<l.length),j<=i->l[i]=0))
  case atStart=>exact⟨rfl,l.length,zR _,(Nat.zero_add _).symm,rfl,fun i h h2=>by omega⟩
  case round =>
   obtain⟨rfl,j,hj,rfl,rfl,HZ⟩:=hrel;by_cases h0:j=0
   ·subst h0;have HT:=zh (show(trimL l).length=0 by rw[trim_at l 0 hj HZ.out (fun k _ e=>by omega)];rfl);go_wp2_with fail;go_ret;exact⟨by rw[HT.out];rfl,rfl⟩
   ·obtain⟨k,rfl⟩:∃k,j=k+1:=⟨j-1,by omega⟩
    have hkl:k<l.length:=by omega
    have hck:=HCS.out k l[k] (zG hkl);unfold u32V at hck
    have hpos:(0:Int)<((k+1:Nat):Int):=by omega
    have hsub:IntKind.i64.wrap (((k+1:Nat):Int)-1)=(k:Int):=by rw[show((k+1:Nat):Int)-1=(k:Int) by omega];exact zI _ (by omega)
    have hi0':(0:Int)<=(k:Int):=by omega
    have hi1':(k:Int)<(l.length:Int):=by omega
    have hz2':l[k]=0->∀i (h:i<l.length),k<=i->l[i]=0:=fun e i h1 h2=>by
     by_cases e2:i=k
     ·subst e2;exact e
     ·exact HZ.out i h1 (by omega)
    have hnz:l[k]≠0->(trimL l).length=k+1:=fun e=>by
     rw[trim_at l (k+1) hj HZ.out (fun k2 h2 e2=>by
      have e3:k2=k:=by omega
      subst e3;exact e),List.length_take]
     omega
    have HZ2:=zh hz2';have HNZ:=zh hnz;obtain⟨x,hx⟩:=zx (l[k]);rw[<-hx] at hck HZ2 HNZ;obtain⟨K1,hK1⟩:=zx (k+1);rw[<-hK1] at hpos hsub HNZ hj ⊢;have HK1:=zh hK1;clear hz2' hnz hx HZ hK1;by_cases hx0:x=0
    ·have HZ3:=zh (HZ2.out hx0)
     have q1:((x:Int)==0)=true:=by simpa using hx0
     clear hx0;go_wp2_with fail;go_roundg k
     case measure=>omega
     case rel=>exact⟨rfl,k,by omega,(Nat.zero_add _).symm,rfl,HZ3⟩
    ·have q1:((x:Int)==0)=false:=by simpa using hx0
     have HT:=zh (HNZ.out hx0);clear hx0;go_wp2_with fail;go_ret;exact⟨by rw[HT.out];rfl,rfl⟩
theorem LS.take{w:World}{R:Nat->Prop}{A:Option Addr}{n c:Nat}{l:List Nat}(h:LS w R (.slice A n c) l)(j c':Nat)(hj:j<=l.length)(hc:j<=c')(hc':c'<=maxLen)(hA:0<l.length):LS w R (.slice A j c') (l.take j):=by
 rcases h.1 with ⟨h1,h2⟩ | ⟨b,off,c2,h1,hlc,hcm,hRb,hcs⟩
 ·rw[h2] at hA;simp at hA
 ·injection h1 with h1 h2 h3;refine⟨.inr ⟨b,off,c',by rw[h1,List.length_take,Nat.min_eq_left hj],by rw[List.length_take];omega,by omega,hRb,fun k x hk=>hcs k x ?_⟩,fun x hx=>h.2 x (List.mem_of_mem_take hx)⟩;rw[List.getElem?_take] at hk;split at hk
  ·exact hk
  ·cases hk
theorem trimL_take(l:List Nat):trimL l=l.take (trimL l).length:=by
 have h:trimL l <+: l:=by
  unfold trimL;have h1:l.reverse.dropWhile (·==0) <:+ l.reverse:=List.dropWhile_suffix _;have h2:=List.reverse_prefix.2 h1
  simpa using h2
 exact(List.prefix_iff_eq_take.1 h)
theorem LS.only{w:World}{R R':Nat->Prop}{A:Option Addr}{n c:Nat}{l:List Nat}(h:LS w R (.slice A n c) l)(hr:∀b o,A=some ⟨b,o,none⟩->R' b):LS w R' (.slice A n c) l:=by
 refine⟨?_,h.2⟩;rcases h.1 with h1 | ⟨b,off,c2,h1,h2,h3,h4,h5⟩
 ·exact .inl h1
 ·have hA:A=some ⟨b,off,none⟩:=by injection h1
  exact .inr ⟨b,off,c2,h1,h2,h3,hr b off hA,h5⟩
theorem LS.cap{w:World}{R:Nat->Prop}{A:Option Addr}{n c:Nat}{l:List Nat}(h:LS w R (.slice A n c) l)(hA:0<l.length):∃b off,A=some ⟨b,off,none⟩/\n=l.length/\n<=c/\c<=maxLen:=by
 rcases h.1 with ⟨h1,h2⟩ | ⟨b,off,c2,h1,h2,h3,-⟩
 ·rw[h2] at hA;simp at hA
 ·injection h1 with h5 h6 h4;subst h4;subst h6;exact⟨b,off,h5,rfl,h2,h3⟩
theorem LS.trim{w:World}{R:Nat->Prop}{A:Option Addr}{n c:Nat}{l:List Nat}(h:LS w R (.slice A n c) l)(hA:0<l.length):LS w R (.slice A (trimL l).length c) (trimL l):=by
 have hc:l.length<=c/\c<=maxLen:=by
  rcases h.1 with ⟨h1,h2⟩ | ⟨b,off,c2,h1,h2,h3,-⟩
  ·rw[h2] at hA;simp at hA
  ·injection h1 with _ _ h4;subst h4;exact⟨h2,h3⟩
 have hl:=trimL_length l;have ht:trimL l=l.take (trimL l).length:=trimL_take l;have h3:=h.take (trimL l).length c hl (by omega) hc.2 hA;rw[<-ht] at h3;exact h3
theorem Fr.wider{a b c d:Nat}(h:c<=a)(k:b<=d):∀x,Fr a b x->Fr c d x:=fun x hx=>⟨Nat.le_trans h hx.1,zM hx.2 k⟩
theorem nlarge_any(v:Value)(l:List Nat)(R:Nat->Prop)(w:World)(h:LS w R v l)(hl:l.length<=512) :
  Calls Tryz.prog 160 #[v] w fun e w'=>e=.returned (.bool false)/\w=w':=by
 have HL:=zh (nlength_any v l R w h (by omega));have hlen:=trimL_length l;go_enter Tryz.func160,Tryz.ntmps160;go_wp2_with fail;refine HL.out.mono ?_;rintro e w2 ⟨rfl,rfl⟩
 have q:¬((512:Int)<((trimL l).length:Int)):=by omega
 generalize (trimL l).length=n at *;go_wp2_with fail;go_ret;exact⟨ret_bool (decide_eq_false (by omega)),rfl⟩
theorem nbits_any(v:Value)(n:Nat)(R:Nat->Prop)(w:World)(h:LS w R v (natL n)) :
  Calls Tryz.prog 123 #[v] w fun e w'=>e=.returned (.int .i64 (bl n:Int))/\∃k,w'=w.drewN k:=by
 have HL:=zh (nlength_any v _ R w h (by have:=natL_length n;omega));rw[trim_natL] at HL;rcases Nat.eq_zero_or_pos n with h0 | h0
 ·subst h0;go_enter Tryz.func123,Tryz.ntmps123;go_wp2_with fail;refine HL.out.mono ?_;rintro e w2 ⟨rfl,rfl⟩;go_wp2_with fail;go_ret;exact⟨rfl,0,rfl⟩
 ·obtain⟨A,c,rfl,-,-⟩:=h.form;obtain⟨b,off,rfl,-,hc⟩:=h.one h0;have h32:n<4294967296:=h.2 n (by rw[natL_pos h0];simp)
  have l1:(natL n).length=1:=by rw[natL_pos h0];rfl
  rw[l1] at HL ⊢
  have n0:(0:Int)<=(n:Int):=by omega
  have n1:(n:Int)<4294967296:=by omega
  have e0:IntKind.i64.wrap (((1:Nat):Int)-1)=0:=zI _ (by omega);clear h l1;go_enter Tryz.func123,Tryz.ntmps123;go_wp2_with fail;refine HL.out.mono ?_;rintro e w2 ⟨rfl,rfl⟩
  have q0:¬((1:Int)==0)=true:=by decide
  go_wp2_with fail;have hbn:=bl_32 h32;have HBN:=zh hbn;clear hbn q0;go_loopg [4,5] n (fun z v4 v5 wr=>w=wr/\∃k:Nat,v4=.int .i64 (k:Int)/\v5=.int .u32 (z:Int)/\Hid (k+bl z=bl n)/\z<4294967296)
  case atStart=>exact⟨rfl,0,rfl,rfl,Nat.zero_add _,h32⟩
  case round =>
   obtain⟨rfl,k,rfl,rfl,HK,hz⟩:=hrel;rcases Nat.eq_zero_or_pos gk with hg | hg
   ·subst hg;have HE:=zh (show bl n=k by have:=HK.out;rw[bl_zero] at this;omega);go_wp2_with fail;go_ret;exact⟨by rw[HE.out];rfl,0,rfl⟩
   ·have hk:(k:Int)<=32:=by have:=HK.out;have:=HBN.out;omega
    have HH:=zh (show k+1+bl (gk / 2)=bl n by have h1:=HK.out;have h2:=bl_half hg;omega)
    have g0:(0:Int)<(gk:Int):=by omega
    have g1:(gk:Int)<4294967296:=by omega
    go_wp2_with fail;go_roundg (gk / 2)
    case measure=>omega
    case rel=>exact⟨rfl,k+1,by go_num,by go_num,HH,by omega⟩
theorem nmake_any(v:Nat)(w:World)(hv:v<4294967296) :
  Calls Tryz.prog 127 #[.int .u64 (v:Int)] w fun e w'=>∃u,e=.returned u/\LS w' (Fr w.heap.size w'.heap.size) u (natL v)/\Below w.heap.size w w':=by
 have hv0:(0:Int)<=(v:Int):=by omega
 have hv1:(v:Int)<4294967296:=by omega
 obtain⟨W,hW⟩:=zx (w.alloc (.cells #[.int .u32 (v:Int),.int .u32 0] 107));have hls:=LS.two w v 0 hv (by omega);rw[show((0:Nat):Int)=0 from rfl,<-hW] at hls
 have hb:Below w.heap.size w W:=by rw[hW];exact(zB _ _).alloc (zR _) _
 have hsz:W.heap.size=w.heap.size+1:=by rw[hW];simp
 have HL:=zh (nlength_any _ _ _ W hls (by simp))
 have hr:=(hls.trim (by simp)).only (R':=Fr w.heap.size W.heap.size) (fun b o hb=>by
  injection hb with hb;injection hb with hb
  exact⟨by omega,by omega⟩)
 rw[trim_two] at HL hr;have hn1:=natL_length v;have HLS:=zh hls;have HR:=zh hr;have HB:=zh hb;have HW:=zh hW;have HSZ:=zh hsz;obtain⟨N,hN⟩:=zx ((natL v).length);rw[<-hN] at HL HR hn1;clear hls hr hb hW hN hsz;go_enter Tryz.func127,Tryz.ntmps127;go_wp2_with fail
 have e0:((v:Int) / 4294967296)=0:=by omega
 rw[e0];rw[<-HW.out];refine HL.out.mono ?_;rintro e w2 ⟨rfl,rfl⟩;go_wp2_with fail;go_ret;exact⟨_,rfl,HR.out,HB.out⟩
theorem ntrim_any(v:Value)(l:List Nat)(R:Nat->Prop)(w:World)(h:LS w R v l)(hR:∀b,R b->b<w.heap.size)(hl:l.length<=1048576) :
  Calls Tryz.prog 126 #[v] w fun e w'=>∃u,e=.returned u/\OwnL w' w.heap.size u (trimL l)/\Below w.heap.size w w':=by
 obtain⟨i0,hi0,hz0,hz1,hz2⟩:=info_parts info_u32;have HL:=zh (nlength_any v l R w h (by omega));rcases h.1 with ⟨rfl,rfl⟩ | ⟨b,off,c,rfl,hlc,hcm,hRb,hcs⟩
 ·clear h;go_enter Tryz.func126,Tryz.ntmps126;go_wp2_with fail;refine HL.out.mono ?_;rintro e w2 ⟨rfl,rfl⟩;go_wp2_with (at_builtin;refine wpList_append_own_none rfl _ _ _ rfl w.heap.size 107 i0 1 Tryz.underlying24 hi0 (.slice none 0 0) 0 [] (by rfl) (World.ownsRow_nil _ _ _ _) (by rfl) ?_);go_ret;exact⟨_,rfl,OwnL.nil _ _,zB _ _⟩
 ·clear h;unfold maxLen at hcm;have hRl:=hR b hRb;have hll:=trimL_length l;have htt:=trimL_take l;obtain⟨K1,hK1⟩:=zx ((trimL l).length);rw[<-hK1] at HL hll htt
  have hnews:∀j2 u,((l.take K1).map u32V)[j2]?=some u->w.cell? ((⟨b,off,none⟩:Addr).add j2)=some u:=by
   intro j2 u hu;have e1:(⟨b,off,none⟩:Addr).add j2=⟨b,off+j2,none⟩:=addr_add0 b off j2;rw[e1];rw[List.getElem?_map] at hu
   cases hx:(l.take K1)[j2]? with
   | none=>rw[hx] at hu;cases hu
   | some x =>
    rw[hx] at hu;injection hu with hu;rw[<-hu];refine hcs j2 x ?_;rw[List.getElem?_take] at hx;split at hx
    ·exact hx
    ·cases hx
  have hlt:((l.take K1).map u32V).length=K1*1:=by rw[List.length_map,List.length_take];omega
  have HNW:=zh hnews;have HLT:=zh hlt;have HT:=zh htt;clear htt hnews hlt hcs hK1;go_enter Tryz.func126,Tryz.ntmps126;go_wp2_with fail;refine HL.out.mono ?_;rintro e w2 ⟨rfl,rfl⟩;go_wp2_with (at_builtin;refine wpList_append_own_at (P:=Tryz.prog) _ rfl _ _ _ rfl w.heap.size 107 i0 _ 1 4 Tryz.underlying24 hi0 hz0 hz1 hz2 rfl (by decide) (.slice none 0 0) 0 [] (by rfl) (World.ownsRow_nil _ _ _ _) ⟨b,off,none⟩ K1 c ((l.take K1).map u32V) (by rfl) HLT.out HNW.out (fun u hu=>by obtain⟨x,-,rfl⟩:=List.mem_map.1 hu;rfl) (by unfold maxLen;omega) (by omega) (zR _) ?_;intro v' w' hown' hg' _ hat');go_ret;refine⟨_,rfl,?_,below_none hg'⟩;have h2:=hown';rw[Nat.zero_add,List.nil_append] at h2;unfold OwnL;rw[HT.out,show(l.take K1).length=K1 by rw[List.length_take];omega];exact h2
theorem nsized_any(A:Option Addr)(n c:Nat)(l:List Nat)(R:Nat->Prop)(w:World)(h:LS w R (.slice A n c) l)(h0:0<l.length)(hl:l.length<=512) :
  Calls Tryz.prog 182 #[.slice A n c] w fun e w'=>e=.returned (.tuple #[.slice A (trimL l).length (trimL l).length,.int .i64 0])/\w=w':=by
 have HL:=zh (nlength_any _ l R w h (by omega));have hlen:=trimL_length l;obtain⟨b,off,rfl,rfl,hc1,hcm⟩:=h.cap h0;unfold maxLen at hcm;clear h;obtain⟨T,hT⟩:=zx ((trimL l).length);obtain⟨N,hN⟩:=zx l.length;rw[<-hT] at HL hlen ⊢;rw[<-hN] at HL hlen hl hc1 h0 ⊢;clear hT hN;go_enter Tryz.func182,Tryz.ntmps182;go_wp2_with fail;refine HL.out.mono ?_;rintro e w2 ⟨rfl,rfl⟩
 have q:¬((512:Int)<(T:Int)):=by omega
 have q0:(0:Int)<=(T:Int):=by omega
 have q1:(T:Int)<=(c:Int):=by omega
 go_wp2_with fail;go_ret2;exact⟨rfl,rfl⟩
theorem mk_u32s2:∀w:World,(Instr.makeSlice 24 (.int .i64 2) (.int .i64 2)).run Tryz.prog w=.ok (.slice (some ⟨w.heap.size,0,none⟩) 2 2) (w.alloc (.cells #[.int .u32 0,.int .u32 0] 107)):=fun w=>mk_u32n 2 (by omega) w
theorem trim_get(l:List Nat){i:Nat}(h:i<(trimL l).length):(trimL l)[i]?=l[i]?:=by
 have:=trimL_take l;generalize (trimL l).length=n at *;rw[this,List.getElem?_take,if_pos h]
theorem ncmpL_any(va vb:Value)(la lb:List Nat)(R R':Nat->Prop)(w:World)(ha:LS w R va la)(hb:LS w R' vb lb)(h1:la.length<=1000)(h2:lb.length<=1000) :
  Calls Tryz.prog 128 #[va,vb] w fun e w'=>e=.returned (.int .i64 (cmpI (nv la) (nv lb)))/\∃k,w'=w.drewN k:=by
 have HA:=zh (nlength_any va _ R w ha (by omega));have HB:=zh (nlength_any vb _ R' w hb (by omega));obtain⟨A,c,rfl,-,-⟩:=ha.form;obtain⟨B,d,rfl,-,-⟩:=hb.form;have hN1:=trimL_length la;have hM1:=trimL_length lb;obtain⟨N,hN⟩:=zx ((trimL la).length);obtain⟨M,hM⟩:=zx ((trimL lb).length);obtain⟨LA,hLA⟩:=zx la.length;obtain⟨LB,hLB⟩:=zx lb.length;have HNM:=zh (show N=(trimL la).length/\M=(trimL lb).length from⟨hN,hM⟩);rw[<-hN] at hN1 HA;rw[<-hM] at hM1 HB;rw[<-hLA] at ha hN1 h1 HA ⊢;rw[<-hLB] at hb hM1 h2 HB ⊢;have HLL:=zh (show LA=la.length/\LB=lb.length from⟨hLA,hLB⟩);have H1:=zh ha;have H2:=zh hb;obtain⟨C,hC⟩:=zx (cmpI (nv la) (nv lb));have HCC:=zh hC;rw[<-hC];clear ha hb hN hM hLA hLB hC;go_enter Tryz.func128,Tryz.ntmps128;go_wp2_with fail;refine HA.out.mono ?_;rintro e w2 ⟨rfl,rfl⟩;go_wp2_with fail;refine HB.out.mono ?_;rintro e w2 ⟨rfl,rfl⟩;by_cases hlt:N<M
 ·have HE:=zh (show C = -1 by
   rw[HCC.out];have:=nv_len_lt H1.out.lim H2.out.lim (by rw[<-HNM.out.1,<-HNM.out.2];exact hlt)
   unfold cmpI;rw[if_pos this])
  have q1:(N:Int)<(M:Int):=by omega
  clear hlt;go_wp2_with fail;go_ret;exact⟨by rw[HE.out];rfl,0,rfl⟩
 ·have q1:¬(N:Int)<(M:Int):=by omega
  by_cases hgt:M<N
  ·have HE:=zh (show C=1 by
    rw[HCC.out];have:=nv_len_lt H2.out.lim H1.out.lim (by rw[<-HNM.out.1,<-HNM.out.2];exact hgt)
    unfold cmpI;rw[if_neg (by omega),if_pos this])
   have q2:(M:Int)<(N:Int):=by omega
   clear hlt hgt;go_wp2_with fail;go_ret;exact⟨by rw[HE.out];rfl,0,rfl⟩
  ·have q2:¬(M:Int)<(N:Int):=by omega
   have hNM:N=M:=by omega
   subst hNM;have hsub:IntKind.i64.wrap ((N:Int)-1)=(N:Int)-1:=zI _ (by omega);go_wp2_with fail;go_loopg [7] N (fun z v7 wr=>Hid (∃k,wr=w.drewN k)/\z<=N/\v7=.int .i64 ((z:Int)-1)/\Hid (∀k,z<=k->(trimL la)[k]?=(trimL lb)[k]?))
   case atStart =>
    refine⟨⟨0,rfl⟩,zR _,rfl,zh (fun k hk=>?_)⟩;rw[List.getElem?_eq_none (by rw[<-HNM.out.1];exact hk),List.getElem?_eq_none (by rw[<-HNM.out.2];exact hk)]
   case round =>
    obtain⟨hbr,hz,rfl,HS⟩:=hrel;obtain⟨k,rfl⟩:=hbr.out;rcases Nat.eq_zero_or_pos gk with h0 | h0
    ·subst h0
     have HE:=zh (show nv la=nv lb by
      rw[<-nv_trim la,<-nv_trim lb,List.ext_getElem? (fun k=>HS.out k (Nat.zero_le _))])
     clear hbr hsub q1 q2 hlt hgt hz;go_wp2_with fail;go_ret;exact⟨ret_int (by rw[HCC.out];unfold cmpI;rw[HE.out];simp),k,rfl⟩
    ·obtain⟨i,rfl⟩:∃i,gk=i+1:=⟨gk-1,by omega⟩
     have e0:(((i+1:Nat):Int)-1)=(i:Int):=by omega
     rw[e0]
     have hiA:i<(trimL la).length:=by rw[<-HNM.out.1];omega
     have hiB:i<(trimL lb).length:=by rw[<-HNM.out.2];omega
     obtain⟨b1,o1,rfl,hR1,hc1⟩:=H1.out.reads (by rw[<-HLL.out.1];omega);obtain⟨b2,o2,rfl,hR2,hc2⟩:=H2.out.reads (by rw[<-HLL.out.2];omega);have xa:=zG hiA;have xb:=zG hiB;have k1:=hc1 i _ ((trim_get la hiA).symm.trans xa) (w.drewN k) rfl;have k2:=hc2 i _ ((trim_get lb hiB).symm.trans xb) (w.drewN k) rfl;obtain⟨X,hX⟩:=zx ((trimL la)[i]);obtain⟨Y,hY⟩:=zx ((trimL lb)[i]);rw[<-hX] at k1 xa;rw[<-hY] at k2 xb;have HXY:=zh (And.intro xa xb);obtain⟨W,hW⟩:=zx (w.drewN k);rw[<-hW] at k1 k2 ⊢;have HW:=zh hW
     have n0:(0:Int)<=(i:Int):=by omega
     have n1:(i:Int)<(LA:Int):=by omega
     have n2:(i:Int)<(LB:Int):=by omega
     have n3:IntKind.i64.wrap ((i:Int)-1)=(i:Int)-1:=zI _ (by omega);have HZ:=zh hz;have HLen:=zh (show(trimL la).length=(trimL lb).length by rw[<-HNM.out.1,<-HNM.out.2]);clear hc1 hc2 hR1 hR2 hsub h0 hbr hW q1 q2 hlt hgt hX hY xa xb hiA hiB e0 hz;by_cases hlt:X<Y
     ·have q1:(X:Int)<(Y:Int):=by omega
      have HE:=zh (show C = -1 by
       rw[HCC.out];have:=nv_at_lt (Lim.trim H1.out.lim) (Lim.trim H2.out.lim) HLen.out HXY.out.1 HXY.out.2 (fun k hk=>HS.out k hk) hlt;rw[nv_trim,nv_trim] at this
       unfold cmpI;rw[if_pos this])
      clear hlt;go_wp2_with fail
      go_quiet (fail)
      go_wp2_with fail;go_ret;exact⟨ret_int HE.out.symm,by rw[HW.out];simp only[World.drewN_drewN];exact⟨_,rfl⟩⟩
     ·have q1:¬(X:Int)<(Y:Int):=by omega
      by_cases hgt:Y<X
      ·have q2:(Y:Int)<(X:Int):=by omega
       have HE:=zh (show C=1 by
        rw[HCC.out];have:=nv_at_lt (Lim.trim H2.out.lim) (Lim.trim H1.out.lim) HLen.out.symm HXY.out.2 HXY.out.1 (fun k hk=>(HS.out k hk).symm) hgt;rw[nv_trim,nv_trim] at this
        unfold cmpI;rw[if_neg (by omega),if_pos this])
       clear hlt hgt;go_wp2_with fail
       go_quiet (fail)
       go_wp2_with fail
       go_quiet (fail)
       go_wp2_with fail;go_ret;exact⟨ret_int HE.out.symm,by rw[HW.out];simp only[World.drewN_drewN];exact⟨_,rfl⟩⟩
      ·have q2:¬(Y:Int)<(X:Int):=by omega
       have he:X=Y:=by omega
       have HE:=zh he;clear hlt hgt he;go_wp2_with fail
       go_quiet (fail)
       go_wp2_with fail
       go_quiet (fail)
       go_wp2_with fail;go_roundg i
       case measure=>omega
       case rel=>exact⟨by rw[HW.out];simp only[World.drewN_drewN];exact⟨_,rfl⟩,by have:=HZ.out;omega,rfl,zh (fun k hk=>by
        rcases Nat.eq_or_lt_of_le hk with rfl | hk
        ·rw[HXY.out.1,HXY.out.2,HE.out]
        ·exact HS.out k hk)⟩
theorem bl_gt1{n:Nat}:1<bl n↔1<n:=by
 have:=bl_le_iff (n:=n) (k:=1);omega
theorem nbitsL_any(v:Value)(l:List Nat)(R:Nat->Prop)(w:World)(h:LS w R v l)(hl:l.length<=1000) :
  Calls Tryz.prog 123 #[v] w fun e w'=>e=.returned (.int .i64 (bl (nv l):Int))/\∃k,w'=w.drewN k:=by
 have HL:=zh (nlength_any v l R w h (by omega));have hN1:=trimL_length l;obtain⟨A,c,rfl,-,-⟩:=h.form;obtain⟨N,hN⟩:=zx ((trimL l).length);obtain⟨LN,hLN⟩:=zx l.length;rw[<-hN] at HL hN1;rw[<-hLN] at h hl HL hN1 ⊢;obtain⟨C,hC⟩:=zx (bl (nv l));rw[<-hC];rcases Nat.eq_zero_or_pos N with h0 | h0
 ·have HE:=zh (show C=0 by
   rw[hC,<-nv_trim l,List.eq_nil_of_length_eq_zero (l:=trimL l) (by rw[<-hN];exact h0)];rfl)
  subst h0;clear h hN hLN hC hN1;go_enter Tryz.func123,Tryz.ntmps123;go_wp2_with fail;refine HL.out.mono ?_;rintro e w2 ⟨rfl,rfl⟩;go_wp2_with fail;go_ret;exact⟨by rw[HE.out];rfl,0,rfl⟩
 ·obtain⟨b,off,rfl,-,hc⟩:=h.reads (by rw[<-hLN];omega);obtain⟨m,t,hmt,ht,hml⟩:=trim_snoc (l:=l) (by rw[<-hN];exact h0);have htl:t<4294967296:=Lim.trim h.lim t (by rw[hmt];simp)
  have hg:l[N-1]?=some t:=by
   rw[<-trim_get l (by rw[<-hN];omega),hmt,show N-1=m.length by omega];simp
  have hcell:=hc (N-1) t hg w rfl
  have hml2:Lim m:=fun x hx=>Lim.trim h.lim x (by rw[hmt];exact List.mem_append.2 (.inl hx))
  have hbl:C=(N-1)*32+bl t:=by rw[hC,<-nv_trim l,hmt,bl_limbs hml2 ht,show m.length=N-1 by omega]
  obtain⟨K,hK⟩:=zx (N-1);rw[<-hK] at hcell hbl;have hbn:=bl_32 htl;have HBN:=zh hbn;have HB:=zh hbl
  have n0:(0:Int)<=(K:Int):=by omega
  have n1:(K:Int)<(LN:Int):=by omega
  have n2:(N:Int)≠0:=by omega
  have q0:((N:Int)==0)=false:=beq_eq_false_iff_ne.2 n2;have e0:=zh (show(N:Int)-1=(K:Int) by omega);have e1:=zh (show IntKind.i64.wrap (K:Int)=(K:Int) from zI _ (by omega));have e2:=zh (show IntKind.i64.wrap ((K:Int)*32)=(K:Int)*32 from zI _ (by omega));have u0:=(congrArg IntKind.i64.wrap e0.out).trans e1.out;have u2:=e2.out
  have k1000:(K:Int)<=1000:=by omega
  clear h hN hLN hC hN1 hc hmt hml hg hml2 hbl hK hbn e0 e1 e2 h0 n2 ht hl;go_enter Tryz.func123,Tryz.ntmps123;go_wp2_with fail;refine HL.out.mono ?_;rintro e w2 ⟨rfl,rfl⟩;go_wp2_with fail;go_loopg [4,5] t (fun z v4 v5 wr=>w=wr/\∃k:Nat,v4=.int .i64 ((K:Int)*32+(k:Int))/\v5=.int .u32 (z:Int)/\Hid (k+bl z=bl t)/\z<4294967296)
  case atStart=>exact⟨rfl,0,by simp,rfl,Nat.zero_add _,htl⟩
  case round =>
   obtain⟨rfl,k,rfl,rfl,HK,hz⟩:=hrel;rcases Nat.eq_zero_or_pos gk with hg | hg
   ·subst hg;have HE:=zh (show((C:Nat):Int)=(K:Int)*32+(k:Int) by have:=HK.out;rw[bl_zero] at this;have:=HB.out;omega);go_wp2_with fail;go_ret;exact⟨by rw[HE.out];rfl,0,rfl⟩
   ·have hk:(k:Int)<=32:=by have:=HK.out;have:=HBN.out;omega
    have HH:=zh (show k+1+bl (gk / 2)=bl t by have h1:=HK.out;have h2:=bl_half hg;omega)
    have g0:(0:Int)<(gk:Int):=by omega
    have g1:(gk:Int)<4294967296:=by omega
    go_wp2_with fail;go_roundg (gk / 2)
    case measure=>omega
    case rel=>exact⟨rfl,k+1,by go_num,by go_num,HH,by omega⟩
theorem RowU.other{w:World}{g:Nat}{l:List Nat}(h:RowU w g l){a:Nat}(ha:g≠a)(k:Nat)(y:Value):RowU (w.setCell ⟨a,k,none⟩ y) g l:=h.of (Below.heap_setCell w ⟨a,k,none⟩ y g ha)
theorem nshortL_any(va:Value)(l:List Nat)(d:Nat)(R:Nat->Prop)(w:World)(ha:LS w R va l)(hR:∀b,R b->b<w.heap.size)(hl:l.length<=1000)(hl0:0<l.length)(hd:0<d)(hd32:d<4294967296) :
  Calls Tryz.prog 178 #[va,.int .u32 (d:Int)] w fun e w'=>∃u,e=.returned (.tuple #[u,.int .u32 ((nv l % d:Nat):Int)])/\LS w' (Fr w.heap.size w'.heap.size) u (limbs (nv l / d))/\Below w.heap.size w w':=by
 obtain⟨A,c,rfl,-,-⟩:=ha.form;obtain⟨b1,o1,rfl,hR1,hc1⟩:=ha.reads hl0;have hb1l:b1<w.heap.size:=hR _ hR1;have hlim:=ha.lim;obtain⟨LN,hLN⟩:=zx l.length;rw[<-hLN] at hl hl0 ⊢;have hmk:=mk_u32n LN (by omega);obtain⟨W3,hW3⟩:=zx (w.alloc (.cells (Array.replicate LN (.int .u32 0)) 107));obtain⟨g,hg⟩:=zx w.heap.size
 have hru:RowU W3 g (List.replicate LN 0):=by rw[hW3,hg];exact RowU.new w LN
 have hb3:Below w.heap.size w W3:=by rw[hW3];exact(zB _ _).alloc (zR _) _
 have HRD:=zh (show ∀w',(∀b,b<w.heap.size->w'.heap[b]?=w.heap[b]?)->∀i x,l[i]?=some x->w'.cell? ⟨b1,o1+i,none⟩=some (.int .u32 (x:Int)) from fun w' hk i x hx=>hc1 i x hx w' (hk b1 hb1l));have HW3:=zh (And.intro hW3 hg);have HB3:=zh hb3;have HRU:=zh hru;have HL:=zh (And.intro hLN hlim)
 have m0:(0:Int)<(d:Int):=by omega
 have m1:(d:Int)<=4294967295:=by omega
 have l1000:(LN:Int)<=1000:=by omega
 have HD:=zh (And.intro hd hd32);have hsub:IntKind.i64.wrap ((LN:Int)-1)=(LN:Int)-1:=zI _ (by omega);clear ha hc1 hW3 hg hb3 hR1 hru hlim hLN hd hd32 hb1l hl;go_enter Tryz.func178,Tryz.ntmps178;go_upto_region 2 with fail;rw[<-HW3.out.1,<-HW3.out.2];clear hmk;go_wp2_with fail;go_loopg [7,8] LN (fun z v7 v8 wr=>∃(r:Nat) (Q:List Nat),z<=LN/\r<d/\v7=.int .u64 (r:Int)/\v8=.int .i64 ((z:Int)-1)/\Hid (Below w.heap.size w wr)/\Hid (RowU wr g Q/\Q.length=LN/\Lim Q/\nv (l.drop z)=nv (Q.drop z)*d+r))
 case atStart=>exact⟨0,List.replicate LN 0,zR _,HD.out.1,rfl,rfl,HB3,zh ⟨HRU.out,List.length_replicate,fun x hx=>by rw[(List.mem_replicate.1 hx).2];omega,by rw[HL.out.1,List.drop_length,List.drop_of_length_le (by rw[List.length_replicate];exact zR _)];simp[nv]⟩⟩
 case round =>
  obtain⟨r,Q,hz,hr,rfl,rfl,HB,HQ⟩:=hrel;obtain⟨W4,hW4⟩:=zx wr;rw[<-hW4] at HB HQ ⊢;clear hW4;rcases Nat.eq_zero_or_pos gk with h0 | h0
  ·subst h0;have h1:=HQ.out.2.2.2;rw[List.drop_zero,List.drop_zero] at h1
   have hdq:nv l / d=nv Q:=by rw[h1,Nat.mul_comm,Nat.mul_add_div HD.out.1,Nat.div_eq_of_lt hr,Nat.add_zero]
   have hdr:nv l % d=r:=by rw[h1,Nat.mul_comm,Nat.mul_add_mod,Nat.mod_eq_of_lt hr]
   have hls:=HQ.out.1.ls (R:=Fr w.heap.size W4.heap.size) ⟨by rw[HW3.out.2];exact zR _,HQ.out.1.lt⟩ HQ.out.2.2.1 (by rw[HQ.out.2.1];unfold maxLen;omega);have HLQ:=zh (nlength_any _ _ _ W4 hls (by rw[HQ.out.2.1];omega));have htr:=hls.trim (by rw[HQ.out.2.1];omega);rw[<-limbs_nv HQ.out.2.2.1,<-hdq] at htr;have hlt:=trimL_length Q;rw[HQ.out.2.1] at HLQ htr hlt;rw[<-limbs_nv HQ.out.2.2.1,<-hdq] at HLQ hlt;obtain⟨T,hT⟩:=zx ((limbs (nv l / d)).length);rw[<-hT] at HLQ htr hlt;have HTR:=zh htr
   have r0:(0:Int)<=(r:Int):=by omega
   have r1:(r:Int)<4294967296:=by have:=HD.out.2;omega
   have HDR:=zh hdr;clear h1 hdq hdr hls htr hT hr hsub;go_wp2_with fail;refine HLQ.out.mono ?_;rintro e w2 ⟨rfl,rfl⟩;go_wp2_with fail;go_ret2;exact⟨_,by rw[HDR.out];rfl,HTR.out,HB.out⟩
  ·obtain⟨i,rfl⟩:∃i,gk=i+1:=⟨gk-1,by omega⟩
   have e0:(((i+1:Nat):Int)-1)=(i:Int):=by omega
   rw[e0]
   have hil:i<l.length:=by rw[<-HL.out.1];omega
   have xa:=zG hil;obtain⟨X,hX⟩:=zx (l[i]);rw[<-hX] at xa;have hX32:X<4294967296:=HL.out.2 X (List.mem_of_getElem? xa);have k1:=HRD.out W4 (fun b hb=>HB.out.block b hb) i X xa;have hor:=or_limb r X (by have:=HD.out.2;omega) hX32
   have hst:=fun hl=>short_step (l:=l) (Q:=Q) (i:=i) (x:=X) (r:=r) HD.out.1 xa hl HQ.out.2.2.2
   obtain⟨N,hN⟩:=zx (r*4294967296+X);rw[<-hN] at hor hst
   have hq32:N / d<4294967296:=by rw[Nat.div_lt_iff_lt_mul HD.out.1,hN];have:=Nat.mul_le_mul_right 4294967296 (show r+1<=d from hr);omega
   have hquo:IntKind.u64.wrap ((N:Int) / (d:Int)) % 4294967296=((N / d:Nat):Int):=by
    have:=quo_big N d hq32;rw[Int.tdiv_eq_ediv_of_nonneg (by omega)] at this;exact this
   have hrem:=rem_nat N d;have hrlt:=Nat.mod_lt N HD.out.1;have hmle:=Nat.mod_le N d;obtain⟨kg,kf⟩:=HQ.out.1.at_ (k:=i) (by rw[HQ.out.2.1];omega);obtain⟨W5,hW5⟩:=zx (W4.setCell ⟨g,i,none⟩ (.int .u32 ((N / d:Nat):Int)))
   have hb5:Below w.heap.size w W5:=by rw[hW5];exact HB.out.setCell (by show w.heap.size<=g;rw[HW3.out.2];exact zR _) _
   have hr5:RowU W5 g (Q.set i (N / d)):=by rw[hW5];exact HQ.out.1.set i _
   have HB5:=zh hb5
   have HR5:=zh (show RowU W5 g (Q.set i (N / d))/\(Q.set i (N / d)).length=LN/\Lim (Q.set i (N / d))/\nv (l.drop i)=nv ((Q.set i (N / d)).drop i)*d+N % d from⟨hr5,by rw[List.length_set];exact HQ.out.2.1,fun x hx=>by
    rcases List.mem_or_eq_of_mem_set hx with h | h
    ·exact HQ.out.2.2.1 x h
    ·rw[h];exact hq32,hst (by rw[HQ.out.2.1,HL.out.1])⟩)
   obtain⟨ND,hND⟩:=zx (N / d);obtain⟨NR,hNR⟩:=zx (N % d);rw[<-hND] at hq32 hquo hW5 HR5;rw[<-hNR] at hrem hrlt hmle HR5;have HRL:=zh hrlt;have HQU:=zh hquo;clear hquo;have HW5:=zh hW5;have HZ:=zh hz
   have n0:(0:Int)<=(i:Int):=by omega
   have n1:(i:Int)<(LN:Int):=by omega
   have n3:IntKind.i64.wrap ((i:Int)-1)=(i:Int)-1:=zI _ (by omega)
   have r0:(0:Int)<=(r:Int):=by omega
   have r1:(r:Int)<4294967296:=by have:=HD.out.2;omega
   have x0:(0:Int)<=(X:Int):=by omega
   have x1:(X:Int)<4294967296:=by omega
   clear hst hN hX xa hil hND hNR hW5 hb5 hr5 hr h0 e0 hrlt hsub hz;go_wp2_with fail;rw[HQU.out,<-HW5.out];go_roundg i
   case measure=>omega
   case rel=>exact⟨NR,Q.set i ND,by have:=HZ.out;omega,HRL.out,rfl,rfl,HB5,HR5⟩
theorem or_up(c x s:Nat)(hs:s<32)(hc:c<2 ^ s)(hx:x<4294967296):bits .or .u64 (c:Int) ((x*2 ^ s:Nat):Int)=((c+x*2 ^ s:Nat):Int):=by
 have h2:(2:Nat) ^ s<=2 ^ 31:=Nat.pow_le_pow_right (by omega) (by omega);have h3:x*2 ^ s<=4294967295*2 ^ 31:=Nat.mul_le_mul (by omega) h2;show IntKind.u64.wrap ((BitVec.ofInt 64 (c:Int) ||| BitVec.ofInt 64 ((x*2 ^ s:Nat):Int)).toNat:Int)=_;rw[BitVec.ofInt_natCast,BitVec.ofInt_natCast,BitVec.toNat_or,BitVec.toNat_ofNat,BitVec.toNat_ofNat,Nat.mod_eq_of_lt (by omega),Nat.mod_eq_of_lt (by omega)]
 have h1:c ||| x*2 ^ s=c+x*2 ^ s:=by
  rw[Nat.or_comm,Nat.mul_comm,Nat.add_comm];exact(Nat.two_pow_add_eq_or_of_lt hc x).symm
 rw[h1];exact IntWalk.u64_in _ (by omega)
theorem up_step{l O:List Nat}{i x c s:Nat}(hx:l[i]?=some x)(hO:i<O.length)(h:nv (O.take i)+4294967296 ^ i*c=nv (l.take i)*2 ^ s):nv ((O.set i ((c+x*2 ^ s) % 4294967296)).take (i+1))+4294967296 ^ (i+1)*((c+x*2 ^ s) / 4294967296)=nv (l.take (i+1))*2 ^ s:=by
 have hi:=(zL.1 hx).1
 have e1:l.take (i+1)=l.take i++[x]:=by rw[List.take_add_one,hx];rfl
 have e2:(O.set i ((c+x*2 ^ s) % 4294967296)).take (i+1)=O.take i++[(c+x*2 ^ s) % 4294967296]:=by
  rw[List.take_add_one,List.getElem?_set_self hO,List.take_set_of_le (zR i)];rfl
 have l1:(l.take i).length=i:=by rw[List.length_take];omega
 have l2:(O.take i).length=i:=by rw[List.length_take];omega
 rw[e1,e2,nv_snoc,nv_snoc,l1,l2,Nat.pow_succ,Nat.add_mul,<-h];have:=Nat.div_add_mod (c+x * 2 ^ s) 4294967296;generalize (c+x * 2 ^ s) / 4294967296=q at *;generalize (c+x * 2 ^ s) % 4294967296=r at *;have e3:4294967296 ^ i * x * 2 ^ s=4294967296 ^ i * (x * 2 ^ s):=Nat.mul_assoc _ _ _;rw[e3];generalize x * 2 ^ s=y at *;generalize 4294967296 ^ i=P at *
 have e4:P*(4294967296*q+r)=P*(c+y):=by rw[this]
 rw[Nat.mul_add,Nat.mul_add,<-Nat.mul_assoc] at e4;omega
theorem nup_any(va:Value)(l:List Nat)(s:Nat)(R:Nat->Prop)(w:World)(ha:LS w R va l)(hR:∀b,R b->b<w.heap.size)(hl:l.length<=1000)(hl0:0<l.length)(hs:s<32) :
  Calls Tryz.prog 179 #[va,.int .u64 (s:Int)] w fun e w'=>∃g O,e=.returned (.slice (some ⟨g,0,none⟩) (l.length+1) (l.length+1))/\RowU w' g O/\w.heap.size<=g/\O.length=l.length+1/\Lim O/\nv O=nv l*2 ^ s/\Below w.heap.size w w':=by
 obtain⟨A,c,rfl,-,-⟩:=ha.form;obtain⟨b1,o1,rfl,hR1,hc1⟩:=ha.reads hl0;have hb1l:b1<w.heap.size:=hR _ hR1;have hlim:=ha.lim;obtain⟨LN,hLN⟩:=zx l.length;rw[<-hLN] at hl hl0 ⊢;obtain⟨L1,hL1⟩:=zx (LN+1);have hmk:=mk_u32n L1 (by omega);obtain⟨W3,hW3⟩:=zx (w.alloc (.cells (Array.replicate L1 (.int .u32 0)) 107));obtain⟨g,hg⟩:=zx w.heap.size
 have hru:RowU W3 g (List.replicate L1 0):=by rw[hW3,hg];exact RowU.new w L1
 have hb3:Below w.heap.size w W3:=by rw[hW3];exact(zB _ _).alloc (zR _) _
 have HRD:=zh (show ∀w',(∀b,b<w.heap.size->w'.heap[b]?=w.heap[b]?)->∀i x,l[i]?=some x->w'.cell? ⟨b1,o1+i,none⟩=some (.int .u32 (x:Int)) from fun w' hk i x hx=>hc1 i x hx w' (hk b1 hb1l));have HW3:=zh (And.intro hW3 hg);have HB3:=zh hb3;have HRU:=zh hru;have HL:=zh (show LN=l.length/\Lim l/\L1=LN+1 from⟨hLN,hlim,hL1⟩)
 have l1000:(LN:Int)<=1000:=by omega
 have HS:=zh hs
 have s0:(0:Int)<=(s:Int):=by omega
 have s1:(s:Int)<32:=by omega
 have e1:=zh (show(LN:Int)+1=(L1:Int) by omega);have e2:=zh (show IntKind.i64.wrap (L1:Int)=(L1:Int) from zI _ (by omega));have u1:=(congrArg IntKind.i64.wrap e1.out).trans e2.out
 have hll:(LN:Int)<(L1:Int):=by omega
 rw[<-hL1];clear ha hc1 hW3 hg hb3 hR1 hru hlim hLN hs hb1l hl e1 e2 hL1;go_enter Tryz.func179,Tryz.ntmps179;go_upto_region 2 with fail;rw[<-HW3.out.1,<-HW3.out.2];clear hmk u1;go_wp2_with fail;go_loopg [6,15] LN (fun z v6 v15 wr=>∃(i k:Nat) (O:List Nat),i<=LN/\z=LN-i/\k<2 ^ s/\v6=.int .u64 (k:Int)/\v15=.int .i64 (i:Int)/\Hid (Below w.heap.size w wr)/\Hid (RowU wr g O/\O.length=L1/\Lim (O.take i)/\nv (O.take i)+4294967296 ^ i*k=nv (l.take i)*2 ^ s))
 case atStart=>exact⟨0,0,List.replicate L1 0,Nat.zero_le _,rfl,Nat.pow_pos (by omega),rfl,rfl,HB3,zh ⟨HRU.out,List.length_replicate,by simp[Lim],by simp[nv]⟩⟩
 case round =>
  obtain⟨i,k,O,hi,rfl,hk,rfl,rfl,HB,HO⟩:=hrel;obtain⟨W4,hW4⟩:=zx wr;rw[<-hW4] at HB HO ⊢;clear hW4;by_cases hlt:i<LN
  ·have hil:i<l.length:=by rw[<-HL.out.1];exact hlt
   have xa:=zG hil;obtain⟨X,hX⟩:=zx (l[i]);rw[<-hX] at xa;have hX32:X<4294967296:=HL.out.2.1 X (List.mem_of_getElem? xa);have k1:=HRD.out W4 (fun b hb=>HB.out.block b hb) i X xa;have hor:=or_up k X s HS.out hk hX32;have hst:=up_step (s:=s) (c:=k) xa (by rw[HO.out.2.1,HL.out.2.2];omega) HO.out.2.2.2
   have i1:(i:Int)<(LN:Int):=by omega
   have i2:(i:Int)<(L1:Int):=by omega
   obtain⟨kg,kf⟩:=HO.out.1.at_ (k:=i) (by rw[HO.out.2.1,HL.out.2.2];omega)
   have x0:(0:Int)<=(X:Int):=by omega
   have x1:(X:Int)<4294967296:=by omega
   have hp31:(2:Nat) ^ s<=2 ^ 31:=Nat.pow_le_pow_right (by omega) (by have:=HS.out;omega);have hy:X*2 ^ s<=4294967295*2 ^ 31:=Nat.mul_le_mul (by omega) hp31
   have hsh:IntKind.u64.wrap ((X:Int)*2 ^ s)=((X*2 ^ s:Nat):Int):=by
    have e:(X:Int)*2 ^ s=((X*2 ^ s:Nat):Int):=by rw[Int.natCast_mul,Int.natCast_pow];rfl
    rw[e];exact IntWalk.u64_in _ (by omega)
   have hq:(k+X*2 ^ s) / 4294967296<2 ^ s:=by
    rw[Nat.div_lt_iff_lt_mul (by omega)];have:X*2 ^ s<=4294967295*2 ^ s:=Nat.mul_le_mul_right _ (by omega);omega
   obtain⟨Y,hY⟩:=zx (X*2 ^ s);rw[<-hY] at hor hst hsh hq hy;obtain⟨T,hT⟩:=zx (k+Y);rw[<-hT] at hor hst hq
   have ht64:T<18446744073709551616:=by omega
   obtain⟨LO,hLO⟩:=zx (T % 4294967296);obtain⟨HI,hHI⟩:=zx (T / 4294967296);rw[<-hLO,<-hHI] at hst;rw[<-hHI] at hq
   have hlo:(T:Int) % 4294967296=(LO:Int):=by omega
   have hhi:(T:Int) / 4294967296=(HI:Int):=by omega
   have hlo32:LO<4294967296:=by omega
   have HB5:=zh (HB.out.setCell (p:=⟨g,i,none⟩) (by show w.heap.size<=g;rw[HW3.out.2];exact zR _) (.int .u32 (LO:Int)))
   have HO5:=zh (show RowU (W4.setCell ⟨g,i,none⟩ (.int .u32 (LO:Int))) g (O.set i LO)/\(O.set i LO).length=L1/\Lim ((O.set i LO).take (i+1))/\nv ((O.set i LO).take (i+1))+4294967296 ^ (i+1)*HI=nv (l.take (i+1))*2 ^ s from⟨HO.out.1.set i LO,by rw[List.length_set];exact HO.out.2.1,by
    rw[List.take_add_one,List.getElem?_set_self (by rw[HO.out.2.1,HL.out.2.2];omega),List.take_set_of_le (zR i)]
    exact HO.out.2.2.1.app (fun x hx=>by rw[List.mem_singleton.1 hx];exact hlo32),hst⟩)
   obtain⟨W5,hW5⟩:=zx (W4.setCell ⟨g,i,none⟩ (.int .u32 (LO:Int)));rw[<-hW5] at HB5 HO5;have HW5:=zh hW5;have HQ:=zh (And.intro hq hlt);clear hX xa hil hst hY hT hLO hHI hW5 hp31 hy hq hlt hk;go_wp2_with fail;rw[<-HW5.out];go_roundg (LN-(i+1))
   case measure=>have:=HQ.out.2;omega
   case rel=>exact⟨i+1,HI,O.set i LO,by have:=HQ.out.2;omega,rfl,HQ.out.1,rfl,by go_num,HB5,HO5⟩
  ·have hie:i=LN:=by omega
   subst hie;have hp31:(2:Nat) ^ s<=2 ^ 31:=Nat.pow_le_pow_right (by omega) (by have:=HS.out;omega)
   have hk32:k<4294967296:=by omega
   have hlo:(k:Int) % 4294967296=(k:Int):=by omega
   obtain⟨kg,kf⟩:=HO.out.1.at_ (k:=i) (by rw[HO.out.2.1,HL.out.2.2];omega);have HB5:=zh (HB.out.setCell (p:=⟨g,i,none⟩) (by show w.heap.size<=g;rw[HW3.out.2];exact zR _) (.int .u32 (k:Int)))
   have hO5:(O.set i k).length=L1:=by rw[List.length_set];exact HO.out.2.1
   have e5:O.set i k=O.take i++[k]:=by
    have h1:(O.set i k).take (i+1)=O.take i++[k]:=by rw[List.take_add_one,List.getElem?_set_self (by rw[HO.out.2.1,HL.out.2.2];omega),List.take_set_of_le (zR i)];rfl
    rw[<-h1,List.take_of_length_le (by rw[hO5,HL.out.2.2];exact zR _)]
   have HO5:=zh (show RowU (W4.setCell ⟨g,i,none⟩ (.int .u32 (k:Int))) g (O.set i k)/\(O.set i k).length=L1/\Lim (O.set i k)/\nv (O.set i k)=nv l*2 ^ s from⟨HO.out.1.set i k,hO5,by
    rw[e5];exact HO.out.2.2.1.app (fun x hx=>by rw[List.mem_singleton.1 hx];exact hk32),by
    have h1:=HO.out.2.2.2;rw[List.take_of_length_le (l:=l) (by rw[HL.out.1];exact zR _)] at h1;rw[e5,nv_snoc,List.length_take,Nat.min_eq_left (by rw[HO.out.2.1,HL.out.2.2];omega)]
    exact h1⟩)
   obtain⟨W5,hW5⟩:=zx (W4.setCell ⟨g,i,none⟩ (.int .u32 (k:Int)));rw[<-hW5] at HB5 HO5;have HW5:=zh hW5;clear hW5 e5 hO5 hp31 hk hlt hi hk32;go_wp2_with fail;go_ret;rw[<-HW5.out];exact⟨_,_,rfl,HO5.out.1,by rw[HW3.out.2];exact zR _,HO5.out.2.1,HO5.out.2.2.1,HO5.out.2.2.2,HB5.out⟩
theorem below_drewL{w w2:World}(h:Below w.drew.heap.size w.drew w2):Below w.heap.size w w2:=⟨h.os,h.tape,h.output,h.size,h.block⟩
def SlAt{α:Type}(size:Nat)(K:World->(Nat->Prop)->List Value->α->Prop)(w:World)(R:Nat->Prop)(es:List α)(b off:Nat):Prop :=
 ∀k a,es[k]?=some a->∃cs,cs.length=size/\(∀i c,cs[i]?=some c->w.cell? ⟨b,off+k*size+i,none⟩=some c)/\K w R cs a
def SlS{α:Type}(size:Nat)(K:World->(Nat->Prop)->List Value->α->Prop)(w:World)(R:Nat->Prop)(v:Value)(es:List α):Prop:=Row R v es.length (SlAt size K w R es)
structure Steady {α:Type} (K:World->(Nat->Prop)->List Value->α->Prop):Prop where
 keep:∀{w w':World} {R:Nat->Prop} {cs:List Value} {a:α},Kept R w w'->K w R cs a->K w' R cs a
 mono:∀{w:World} {R R':Nat->Prop} {cs:List Value} {a:α},(∀b,R b->R' b)->K w R cs a->K w R' cs a
theorem SlS.keep{α:Type}{size:Nat}{K:World->(Nat->Prop)->List Value->α->Prop}(hK:Steady K){w w':World}{R:Nat->Prop}{v:Value}{es:List α}(h:SlS size K w R v es)(hk:Kept R w w'):SlS size K w' R v es :=
 Row.imp h (fun _ hb=>hb) fun b off hb hc k a ha=>by
  obtain⟨cs,h1,h2,h3⟩:=hc k a ha;exact⟨cs,h1,fun i c hi=>(hk.cell hb).trans (h2 i c hi),hK.keep hk h3⟩
theorem SlS.mono{α:Type}{size:Nat}{K:World->(Nat->Prop)->List Value->α->Prop}(hK:Steady K){w:World}{R R':Nat->Prop}{v:Value}{es:List α}(h:SlS size K w R v es)(hr:∀b,R b->R' b):SlS size K w R' v es :=
 Row.imp h hr fun b off _ hc k a ha=>by
  obtain⟨cs,h1,h2,h3⟩:=hc k a ha;exact⟨cs,h1,h2,hK.mono hr h3⟩
theorem SlS.below{α:Type}{size:Nat}{K:World->(Nat->Prop)->List Value->α->Prop}(hK:Steady K){w w':World}{v:Value}{es:List α}(h:SlS size K w (Bl w.heap.size) v es)(hb:Below w.heap.size w w'):SlS size K w' (Bl w'.heap.size) v es :=
 SlS.mono hK (SlS.keep hK h (kept_below hb)) (Bl.mono hb.size)
theorem SlS.form{α:Type}{size:Nat}{K:World->(Nat->Prop)->List Value->α->Prop}{w:World}{R:Nat->Prop}{v:Value}{es:List α}(h:SlS size K w R v es):∃A c,v=.slice A es.length c/\es.length<=c/\es.length<=maxLen:=by
 obtain⟨A',c',e,h1,h2,h3⟩:=h;exact⟨A',c',e,h1,h2⟩
theorem SlS.at_{α:Type}{size:Nat}{K:World->(Nat->Prop)->List Value->α->Prop}{w:World}{R:Nat->Prop}{A:Option Addr}{n c:Nat}{es:List α}(h:SlS size K w R (.slice A n c) es){k:Nat}(hk:k<es.length) :
  ∃b off cs,A=some ⟨b,off,none⟩/\R b/\cs.length=size/\(∀i c,cs[i]?=some c->w.cell? ⟨b,off+k*size+i,none⟩=some c)/\K w R cs es[k]:=by
 obtain⟨A',c',e,_,_,h3⟩:=h;obtain⟨b,off,e2,hb,hc⟩:=h3 (by omega);obtain⟨cs,g1,g2,g3⟩:=hc k es[k] (zG hk);injection e with e;exact⟨b,off,cs,e.trans e2,hb,g1,g2,g3⟩
def StrK(w:World)(R:Nat->Prop)(cs:List Value)(s:ByteArray):Prop:=cs=[.string s]/\s.size<=maxLen
theorem strK:Steady StrK:=⟨fun _ h=>h,fun _ h=>h⟩
theorem four{cs:List Value}{a b c d:Value}{w:World}{p o:Nat}(h:∀i c,cs[i]?=some c->w.cell? ⟨p,o+i,none⟩=some c)(e:cs=[a,b,c,d]) :
  w.cell? ⟨p,o,none⟩=some a/\w.cell? ⟨p,o+1,none⟩=some b/\w.cell? ⟨p,o+2,none⟩=some c/\w.cell? ⟨p,o+3,none⟩=some d:=by
 subst e;exact⟨h 0 _ rfl,h 1 _ rfl,h 2 _ rfl,h 3 _ rfl⟩
theorem IntS.form7{w:World}{R:Nat->Prop}{v:Value}{xs:List Int}(h:IntS w R v xs):∃A c,v=.slice A xs.length c/\xs.length<=c/\xs.length<=maxLen:=by
 obtain⟨⟨A,c,h1,h2,h3,-⟩,-⟩:=h;exact⟨A,c,h1,h2,h3⟩
theorem IntS.at7{w:World}{R:Nat->Prop}{A:Option Addr}{n c:Nat}{xs:List Int}(h:IntS w R (.slice A n c) xs){k:Nat}(hk:k<xs.length):∃b off,A=some ⟨b,off,none⟩/\R b/\w.cell? ⟨b,off+k,none⟩=some (.int .i64 xs[k])/\I64 xs[k]:=by
 obtain⟨⟨A',c',e,_,_,h3⟩,h4⟩:=h;obtain⟨b,off,e2,hb,hc⟩:=h3 (by omega);injection e with e;exact⟨b,off,e.trans e2,hb,hc k _ (zG hk),h4 _ (List.getElem_mem hk)⟩
def OwnI(w:World)(base:Nat)(v:Value)(xs:List Int):Prop:=w.ownsRow base 3 1 v xs.length (xs.map (Value.int .i64))
end Go.Proofs.YtgfaieppacabjaaGreat
