/- Parts. -/
import Derived.Test.YtgfaieppacabjaaGreatMq06
set_option linter.unusedSectionVars false
set_option maxRecDepth 100000
set_option maxHeartbeats 12800000
set_option linter.unusedVariables false
set_option linter.unusedSimpArgs false
namespace Go.Proofs.YtgfaieppacabjaaGreat
open Go.RowKit
theorem rdivL_any(va vb:Value)(x y:Nat)(w:World)(ha:LS w (Bl w.heap.size) va (limbs x))(hb:LS w (Bl w.heap.size) vb (limbs y))(hy:0<y)(hx1:(limbs x).length<=600)(hy1:(limbs y).length<=600) :
  Calls Tryz.prog 158 #[va,vb] w fun e w'=>∃q r,e=.returned (.tuple #[q,r])/\OwnL w' w.heap.size q (limbs (x / y))/\OwnL w' w.heap.size r (limbs (x % y))/\Below w.heap.size w w':=by
 have HC:=zh (rcmpL_any va vb (limbs x) (limbs y) w ha hb (by omega) (by omega));rw[nv_limbs,nv_limbs] at HC;have HA:=zh ha;have HB:=zh hb;have HX1:=zh (And.intro hx1 hy1);clear hx1 hy1;go_enter Tryz.func158,Tryz.ntmps158;go_wp2_with fail;refine HC.out.mono ?_;rintro e W2 ⟨rfl,hb2⟩;have HB2:=zh hb2;have HA2:=zh (HA.out.below hb2);have HBB2:=zh (HB.out.below hb2);clear hb2 ha hb;by_cases hlt:x<y
 ·have q1:cmpI x y = -1:=if_pos hlt;rw[q1];have HD:=zh (show x / y=0/\x % y=x from⟨Nat.div_eq_of_lt hlt,Nat.mod_eq_of_lt hlt⟩);clear hlt q1;go_wp2_with fail;refine(trim_any va _ _ _ HA2.out (fun b h=>h) (by have:=HX1.out.1;omega)).mono ?_;rintro e w3 ⟨u,rfl,hO,hb2⟩;rw[trim_of_top (top_limbs x)] at hO;have HO:=zh (hO.base HB2.out.size);have hbz:=HB2.out.trans (hb2.mono HB2.out.size);clear hO hb2;go_wp2_with fail;go_ret2;exact⟨_,_,rfl,by rw[HD.out.1,limbs_zero];exact OwnL.nil _ _,by rw[HD.out.2];exact HO.out,hbz⟩
 ·have hxp:0<x:=by omega
  have q1:¬cmpI x y<0:=by unfold cmpI;rw[if_neg hlt];split <;> omega
  obtain⟨C,hC⟩:=zx (cmpI x y);rw[<-hC] at q1 ⊢;have HXY:=zh hlt
  have hl0:0<(limbs y).length:=by obtain⟨m,t,e,-⟩:=limbs_snoc hy;rw[e];simp
  have hlx0:0<(limbs x).length:=by obtain⟨m,t,e,-⟩:=limbs_snoc hxp;rw[e];simp
  obtain⟨B,d,rfl,-,-⟩:=HBB2.out.form;obtain⟨b2,o2,rfl,hR2,hc2⟩:=HBB2.out.reads hl0;clear hC hlt;by_cases h1:(limbs y).length=1
  ·have hy32:y<4294967296:=limbs_len1.1 (by omega)
   have ey:limbs y=[y]:=by rw[limbs_small hy32,natL_pos hy]
   have k0:=hc2 0 y (by rw[ey];rfl);rw[Nat.add_zero] at k0;have HK0:=zh (show ∀w',Below W2.heap.size W2 w'->w'.cell? ⟨b2,o2,none⟩=some (.int .u32 (y:Int)) from fun w' hk=>k0 w' (hk.block b2 hR2));obtain⟨A,c,rfl,-,-⟩:=HA2.out.form;obtain⟨b1,o1,rfl,hR1,hc1⟩:=HA2.out.reads hlx0;obtain⟨l,hll⟩:=zx (limbs x)
   have hnv:nv l=x:=by rw[hll,nv_limbs]
   have hlim:Lim l:=by rw[hll];exact lim_limbs x
   have hl6:l.length<=600:=by rw[hll];exact HX1.out.1
   rw[<-hll] at hlx0 hc1 ⊢;rw[h1];obtain⟨LN,hLN⟩:=zx l.length;rw[<-hLN] at hlx0 hl6 ⊢;have hmk:=mk_u32n LN (by omega);obtain⟨W3,hW3⟩:=zx (W2.alloc (.cells (Array.replicate LN (.int .u32 0)) 107));obtain⟨g,hg⟩:=zx W2.heap.size
   have hru:RowU W3 g (List.replicate LN 0):=by rw[hW3,hg];exact RowU.new W2 LN
   have hb3:Below W2.heap.size W2 W3:=by rw[hW3];exact(zB _ _).alloc (zR _) _
   have HRD:=zh (show ∀w',Below W2.heap.size W2 w'->∀(i x:Nat),l[i]?=some x->w'.cell? ⟨b1,o1+i,none⟩=some (.int .u32 (x:Int)) from fun w' hk i x hx=>hc1 i x hx w' (hk.block b1 hR1));have HW3:=zh (And.intro hW3 hg);have HB3:=zh hb3;have HRU:=zh hru;have HL:=zh (show LN=l.length/\Lim l/\nv l=x/\LN<=600 from⟨hLN,hlim,hnv,hl6⟩)
   have m0:(0:Int)<(y:Int):=by omega
   have m1:(y:Int)<=4294967295:=by omega
   have l1000:(LN:Int)<=600:=by omega
   have HD:=zh (And.intro hy hy32);have hsub:IntKind.i64.wrap ((LN:Int)-1)=(LN:Int)-1:=zI _ (by omega);clear hc1 hc2 hl0 h1 ey hW3 hg hb3 hR1 hR2 hru hlim hLN hl6 hlx0 hll hnv k0 hxp;go_upto_region 5 with fail;rw[<-HW3.out.1,<-HW3.out.2];clear hmk;go_wp2_with fail;go_loopg [7,8] LN (fun z v7 v8 wr=>∃(r:Nat) (Q:List Nat),z<=LN/\r<y/\v7=.int .u64 (r:Int)/\v8=.int .i64 ((z:Int)-1)/\Hid (Below W2.heap.size W2 wr)/\Hid (RowU wr g Q/\Q.length=LN/\Lim Q/\nv (l.drop z)=nv (Q.drop z)*y+r))
   case atStart=>exact⟨0,List.replicate LN 0,zR _,HD.out.1,rfl,rfl,HB3,zh ⟨HRU.out,List.length_replicate,fun x hx=>by rw[(List.mem_replicate.1 hx).2];omega,by rw[HL.out.1,List.drop_length,List.drop_of_length_le (by rw[List.length_replicate];exact zR _)];simp[nv]⟩⟩
   case round =>
    obtain⟨r,Q,hz,hr,rfl,rfl,HB,HQ⟩:=hrel;obtain⟨W4,hW4⟩:=zx wr;rw[<-hW4] at HB HQ ⊢;clear hW4;rcases Nat.eq_zero_or_pos gk with h0 | h0
    ·subst h0;have h1:=HQ.out.2.2.2;rw[List.drop_zero,List.drop_zero,HL.out.2.2.1] at h1
     have hdq:x / y=nv Q:=by rw[h1,Nat.mul_comm,Nat.mul_add_div HD.out.1,Nat.div_eq_of_lt hr,Nat.add_zero]
     have hdr:x % y=r:=by rw[h1,Nat.mul_comm,Nat.mul_add_mod,Nat.mod_eq_of_lt hr]
     have hls:=HQ.out.1.ls (R:=Bl W4.heap.size) HQ.out.1.lt HQ.out.2.2.1 (by rw[HQ.out.2.1];have:=HL.out;unfold maxLen;omega);have HT:=zh (trim_any _ _ _ W4 hls (fun b h=>h) (by rw[HQ.out.2.1];have:=HL.out;omega));rw[<-limbs_nv HQ.out.2.2.1,<-hdq,HQ.out.2.1] at HT;have HDR:=zh hdr;have HR32:=zh (show r<4294967296 from Nat.lt_trans hr HD.out.2);clear h1 hdq hdr hls hr hsub hz;go_wp2_with fail;refine HT.out.mono ?_;rintro e w5 ⟨u5,rfl,ho5,hb5⟩;have HO5:=zh ho5;have HB5:=zh (HB.out.trans (hb5.mono HB.out.size));clear ho5 hb5;go_wp2_with fail;refine(rmake_any r w5 HR32.out).mono ?_;rintro e w6 ⟨u6,rfl,ho6,hb6⟩;have HO56:=zh ((HO5.out.below hb6).base (B':=w.heap.size) (Nat.le_trans HB2.out.size HB.out.size));have HO6:=zh (ho6.base (B':=w.heap.size) (Nat.le_trans HB2.out.size HB5.out.size));have HB6:=zh (HB2.out.trans ((HB5.out.trans (hb6.mono HB5.out.size)).mono HB2.out.size));clear ho6 hb6;go_wp2_with fail;go_ret2;exact⟨_,_,rfl,HO56.out,by rw[HDR.out,limbs_small HR32.out];exact HO6.out,HB6.out⟩
    ·obtain⟨i,rfl⟩:∃i,gk=i+1:=⟨gk-1,by omega⟩
     have e0:(((i+1:Nat):Int)-1)=(i:Int):=by omega
     rw[e0]
     have hil:i<l.length:=by rw[<-HL.out.1];omega
     have xa:=zG hil;obtain⟨X,hX⟩:=zx (l[i]);rw[<-hX] at xa;have hX32:X<4294967296:=HL.out.2.1 X (List.mem_of_getElem? xa);have k1:=HRD.out W4 HB.out i X xa;have ky:=HK0.out W4 HB.out;have hor:=or_limb r X (by have:=HD.out.2;omega) hX32
     have hst:=fun hl=>short_step (l:=l) (Q:=Q) (i:=i) (x:=X) (r:=r) HD.out.1 xa hl HQ.out.2.2.2
     obtain⟨N,hN⟩:=zx (r*4294967296+X);rw[<-hN] at hor hst
     have hq32:N / y<4294967296:=by rw[Nat.div_lt_iff_lt_mul HD.out.1,hN];have:=Nat.mul_le_mul_right 4294967296 (show r+1<=y from hr);omega
     have hquo:IntKind.u64.wrap ((N:Int) / (y:Int)) % 4294967296=((N / y:Nat):Int):=by
      have:=quo_big N y hq32;rw[Int.tdiv_eq_ediv_of_nonneg (by omega)] at this;exact this
     have hquo2:=quo_big N y hq32;have hrem:=rem_nat N y;have t0:IntKind.u64.wrap (X:Int)=(X:Int):=IntWalk.u64_in _ (by omega);have hrlt:=Nat.mod_lt N HD.out.1;obtain⟨kg,kf⟩:=HQ.out.1.at_ (k:=i) (by rw[HQ.out.2.1];omega);obtain⟨W5,hW5⟩:=zx (W4.setCell ⟨g,i,none⟩ (.int .u32 ((N / y:Nat):Int)))
     have hb5:Below W2.heap.size W2 W5:=by rw[hW5];exact HB.out.setCell (by show W2.heap.size<=g;rw[HW3.out.2];exact zR _) _
     have hr5:RowU W5 g (Q.set i (N / y)):=by rw[hW5];exact HQ.out.1.set i _
     have HB5:=zh hb5
     have HR5:=zh (show RowU W5 g (Q.set i (N / y))/\(Q.set i (N / y)).length=LN/\Lim (Q.set i (N / y))/\nv (l.drop i)=nv ((Q.set i (N / y)).drop i)*y+N % y from⟨hr5,by rw[List.length_set];exact HQ.out.2.1,fun x hx=>by
      rcases List.mem_or_eq_of_mem_set hx with h | h
      ·exact HQ.out.2.2.1 x h
      ·rw[h];exact hq32,hst (by rw[HQ.out.2.1,HL.out.1])⟩)
     have kyy:=HK0.out W5 hb5;obtain⟨ND,hND⟩:=zx (N / y);obtain⟨NR,hNR⟩:=zx (N % y);rw[<-hND] at hq32 hquo hquo2 hW5 HR5;rw[<-hNR] at hrem hrlt HR5;have hrm:IntKind.u64.wrap (NR:Int)=(NR:Int):=IntWalk.u64_in _ (by have:=HD.out.2;omega);have HRL:=zh hrlt;have HW5:=zh hW5;have HZ:=zh hz
     have n0:(0:Int)<=(i:Int):=by omega
     have n1:(i:Int)<(LN:Int):=by omega
     have n3:IntKind.i64.wrap ((i:Int)-1)=(i:Int)-1:=zI _ (by omega)
     have r0:(0:Int)<=(r:Int):=by omega
     have r1:(r:Int)<4294967296:=by have:=HD.out.2;omega
     have hQ2:IntKind.u32.wrap (IntKind.u64.wrap ((N:Int) / (y:Int)))=(ND:Int):=by rw[IntKind.wrap_u32];exact hquo
     clear hst hN hX xa hil hND hNR hb5 hr5 h0 e0 hrlt hsub hz hr hX32 hq32;go_upto_region 11 with fail;clear hquo hquo2;rw[<-hW5];clear hW5 kg kf ky k1;go_wp2_with fail;go_roundg i
     case measure=>omega
     case rel=>exact⟨NR,Q.set i ND,by have:=HZ.out;omega,HRL.out,rfl,rfl,HB5,HR5⟩
  ·obtain⟨n,hn⟩:∃n,(limbs y).length=n+2:=⟨(limbs y).length-2,by omega⟩;obtain⟨NN,hNN⟩:=zx (n+2);obtain⟨bt,hbt⟩:=zx ((limbs y)[n+1]'(by omega))
   have hb1:(limbs y)[n+1]?=some bt:=by rw[hbt];exact zG _
   obtain⟨s,hs,hs1,hs2,hbs⟩:=norm_s hn hb1;obtain⟨hYL,vl,next,top,eY,hvl,hnx,htp1,htp2⟩:=norm_y hn hb1 hs hs1 hs2;obtain⟨XS,hXS⟩:=zx (x*2 ^ s);obtain⟨YS,hYS⟩:=zx (y*2 ^ s);rw[<-hYS] at hYL eY;have hs0:0<2 ^ s:=Nat.pow_pos (by omega)
   have hYS0:0<YS:=by rw[hYS];exact Nat.mul_pos hy hs0
   have hXS0:0<XS:=by rw[hXS];exact Nat.mul_pos hxp hs0
   have hle:YS<=XS:=by rw[hXS,hYS];exact Nat.mul_le_mul_right _ (by have:=HXY.out;omega)
   have hLUX:=limbs_le hle;rw[hYL] at hLUX;obtain⟨LU,hLU⟩:=zx ((limbs XS).length)
   have hLU7:LU<=601:=by
    rw[hLU];refine Nat.le_trans (limbs_len XS ((limbs x).length+1) ?_) (by have:=HX1.out.1;omega);have h1:=nv_lt (lim_limbs x);rw[nv_limbs] at h1;have h2:2 ^ s<=2 ^ 32:=Nat.pow_le_pow_right (by omega) (by omega);rw[hXS,Nat.pow_succ];exact zM (Nat.mul_lt_mul_of_pos_right h1 hs0) (Nat.mul_le_mul_left _ h2)
   obtain⟨m,hm⟩:∃m,LU+1=NN+m:=⟨LU+1-NN,by omega⟩;obtain⟨L,hL⟩:=zx (LU+1)
   have hXM:XS<YS*4294967296 ^ m:=by
    have h1:=nv_lt (lim_limbs XS);rw[nv_limbs,<-hLU] at h1;have h2:=nv_ge (top_limbs YS) (by intro e;rw[e] at hYL;simp at hYL);rw[nv_limbs,hYL] at h2;refine zM h1 (Nat.le_trans (Nat.le_of_eq ?_) (Nat.mul_le_mul_right _ h2));rw[<-Nat.pow_add];congr 1;omega
   have HN:=zh (show NN=n+2/\LU+1=NN+m/\L=LU+1/\LU<=601/\NN<=600/\s<32/\1<=m/\LU=(limbs XS).length/\(limbs YS).length=NN from⟨hNN,hm,hL,hLU7,by have:=HX1.out.2;omega,hs,by omega,hLU,by rw[hYL,hNN]⟩);have HV:=zh (show limbs YS=vl++[next,top]/\vl.length=n/\next<4294967296/\2147483648<=top/\top<4294967296 from⟨eY,hvl,hnx,htp1,htp2⟩);have HXS:=zh (show XS=x*2 ^ s/\YS=y*2 ^ s/\0<YS/\0<XS/\XS<YS*4294967296 ^ m/\0<y/\0<x from⟨hXS,hYS,hYS0,hXS0,hXM,hy,hxp⟩);have HBI:=zh (rbitsL_any _ (limbs y) W2 HBB2.out (by have:=HX1.out.2;omega));rw[nv_limbs,hn,<-hNN] at HBI;rw[hn,<-hNN] at HBB2 HB ⊢
   have hbls:bl y+s=32*NN:=by rw[hNN];exact hbs
   have q2:((NN:Int)==1)=false:=beq_eq_false_iff_ne.2 (by omega);have q3:IntKind.i64.wrap (32*(NN:Int))=32*(NN:Int):=zI _ (by have:=HN.out;omega);obtain⟨BY,hBY⟩:=zx (bl y);rw[<-hBY] at HBI hbls
   have q4:IntKind.i64.wrap (32*(NN:Int)-(BY:Int))=(s:Int):=by rw[show 32*(NN:Int)-(BY:Int)=(s:Int) by omega];exact zI _ (by omega)
   clear hc2 hR2 hl0 hlx0 h1 hn hNN hbt hb1 hs hs1 hs2 hbs hYL eY hvl hnx htp1 htp2 hXS hYS hs0 hYS0 hXS0 hle hLUX hLU hLU7 hm hL hXM hbls hBY hy hxp;go_wp2_with fail;refine HBI.out.mono ?_;rintro e w3 ⟨rfl,hb3⟩;have HB3:=zh (HB2.out.trans (hb3.mono HB2.out.size));clear hb3;go_wp2_with fail;refine(rup_any va x s w3 (HA.out.below HB3.out) (by have:=HX1.out.1;omega) HXS.out.2.2.2.2.2.2 HN.out.2.2.2.2.2.1).mono ?_;rintro e w4 ⟨u4,rfl,ho4,hb4⟩;rw[<-HXS.out.1] at ho4;have HO4:=zh (ho4.base (B':=w.heap.size) HB3.out.size);have HB4:=zh (HB3.out.trans (hb4.mono HB3.out.size));obtain⟨A4,c4,rfl⟩:=own_form ho4;rw[<-HN.out.2.2.2.2.2.2.2.1] at HO4 ⊢;clear ho4 hb4;obtain⟨P0,hP0⟩:=zx (limbs XS++[0,0]);have HP0:=zh hP0;have HPL:=zh (show P0.length=LU+2 by rw[hP0,zP,<-HN.out.2.2.2.2.2.2.2.1];rfl);clear hP0;go_wp2_with (at_builtin;refine app_u2 (.tmp 75) (.tmp 76) rfl rfl w.heap.size (.slice A4 LU c4) LU (limbs XS) HN.out.2.2.2.2.2.2.2.1.symm (by rfl) HO4.out (by rfl) (by have:=HN.out;omega) HB4.out.size ?_;intro v5 w5 hown5 hg5;have HB5:=zh (below_own HB4.out HO4.out hg5);rw[<-HP0.out] at hown5;obtain⟨gX,cX,hv5,hrx5,hgx1,hgx2,hcx1,hcx2⟩:=RowX.of hown5 (by rw[HPL.out];omega);rw[HPL.out] at hv5;subst hv5;have HRX5:=zh hrx5;have HGX:=zh (show w.heap.size<=gX/\gX<w5.heap.size/\LU+2<=cX/\cX<=maxLen from⟨hgx1,hgx2,by rw[<-HPL.out];exact hcx1,hcx2⟩);clear hown5 hg5 hrx5 hgx1 hgx2 hcx1 hcx2);refine(rup_any _ y s w5 (HB.out.below HB5.out) (by have:=HX1.out.2;omega) HXS.out.2.2.2.2.2.1 HN.out.2.2.2.2.2.1).mono ?_;rintro e w6 ⟨u6,rfl,ho6,hb6⟩;rw[<-HXS.out.2.1] at ho6;obtain⟨gY,cY,rfl,hry,hgy1,hgy2,hcy1,hcy2⟩:=RowX.of ho6 (by rw[HN.out.2.2.2.2.2.2.2.2];have:=HN.out;omega);have HRY6:=zh hry;have HGY:=zh (show w5.heap.size<=gY/\gY<w6.heap.size/\gX<gY from⟨hgy1,hgy2,by have:=HGX.out;omega⟩);have HRX6:=zh (HRX5.out.kept (hb6.block gX HGX.out.2.1));have HB6:=zh (HB5.out.trans (hb6.mono HB5.out.size));rw[HN.out.2.2.2.2.2.2.2.2] at hcy1 ⊢;clear ho6 hb6 hry hgy1 hgy2 hcy2;go_wp2_with fail;refine(rup_any va x s w6 (HA.out.below HB6.out) (by have:=HX1.out.1;omega) HXS.out.2.2.2.2.2.2 HN.out.2.2.2.2.2.1).mono ?_;rintro e w7 ⟨u7,rfl,ho7,hb7⟩;rw[<-HXS.out.1] at ho7;obtain⟨A7,c7,rfl⟩:=own_form ho7;rw[<-HN.out.2.2.2.2.2.2.2.1];have HRX7:=zh (HRX6.out.kept (hb7.block gX HRX6.out.lt));have HRY7:=zh (HRY6.out.kept (hb7.block gY HGY.out.2.1));have HB7:=zh (HB6.out.trans (hb7.mono HB6.out.size));have HS7:=zh (show gY<w7.heap.size from HRY7.out.lt)
   have s1:IntKind.i64.wrap ((LU:Int)+1)=(L:Int):=by rw[show(LU:Int)+1=(L:Int) by have:=HN.out;omega];exact zI _ (by have:=HN.out;omega)
   have s2:(L:Int)<=(cX:Int):=by have:=HN.out;have:=HGX.out;omega
   obtain⟨N1,hN1⟩:=zx (n+1)
   have s3:IntKind.i64.wrap ((NN:Int)-1)=(N1:Int):=by rw[show(NN:Int)-1=(N1:Int) by have:=HN.out;omega];exact zI _ (by have:=HN.out;omega)
   have s4:(N1:Int)<(NN:Int):=by have:=HN.out;omega
   have s5:IntKind.i64.wrap ((L:Int)-(NN:Int))=(m:Int):=by rw[show(L:Int)-(NN:Int)=(m:Int) by have:=HN.out;omega];exact zI _ (by have:=HN.out;omega)
   have s6:IntKind.i64.wrap ((m:Int)-1)=(m:Int)-1:=zI _ (by have:=HN.out;omega);have kt:=HRY7.out.cell (k:=N1) (x:=top) (by rw[HV.out.1,hN1,<-HV.out.2.1];simp);have t1:IntKind.u64.wrap (top:Int)=(top:Int):=IntWalk.u64_in _ (by have:=HV.out;omega);have HN1:=zh hN1;have hmk:=mk_u32n m (by have:=HN.out;omega);obtain⟨W8,hW8⟩:=zx (w7.alloc (.cells (Array.replicate m (.int .u32 0)) 107));obtain⟨gQ,hgQ⟩:=zx w7.heap.size
   have hb8:Below w7.heap.size w7 W8:=by rw[hW8];exact(zB _ _).alloc (zR _) _
   have HRQ:=zh (show RowU W8 gQ (List.replicate m 0) from by rw[hW8,hgQ];exact RowU.new w7 m);obtain⟨U0,hU0⟩:=zx (limbs XS++[0])
   have hrx8:RowX W8 w.heap.size gX cX U0:=by
    have h:=(HRX7.out.kept (hb8.block gX HRX7.out.lt)).take L
    have e:P0.take L=U0:=by
     rw[HP0.out,hU0,show limbs XS++[0,0]=(limbs XS++[0])++[0] by simp];exact List.take_left' (by rw[zP,<-HN.out.2.2.2.2.2.2.2.1,HN.out.2.2.1];rfl)
    rw[e] at h;exact h
   have HU0:=zh (show RowX W8 w.heap.size gX cX U0/\U0.length=L/\Lim U0/\nv U0=XS from⟨hrx8,by rw[hU0,zP,<-HN.out.2.2.2.2.2.2.2.1,HN.out.2.2.1];rfl,by rw[hU0];exact(lim_limbs XS).app (fun x hx=>by rw[List.mem_singleton.1 hx];omega),by rw[hU0,nv_snoc,nv_limbs,Nat.mul_zero,Nat.add_zero]⟩);have HRY8:=zh (HRY7.out.kept (hb8.block gY HS7.out));have HB8:=zh (HB7.out.trans (hb8.mono HB7.out.size));have HGG:=zh (show w.heap.size<=gX/\gX<gY/\gY<gQ/\gQ<W8.heap.size from⟨HGX.out.1,HGY.out.2.2,by rw[hgQ];exact HS7.out,HRQ.out.lt⟩);have HW8:=zh (And.intro hW8 hgQ);have HGB:=zh (show w5.heap.size<=gY from HGY.out.1);clear ho7 hb7 hb8 hrx8 hU0 hW8 hgQ hN1 hcy1;go_upto_region 18 with fail;rw[<-HW8.out.1,<-HW8.out.2];clear hmk kt;go_wp2_with fail
   have HYB:=zh (show YS<=4294967296 ^ NN from by
    have h:=nv_lt (lim_limbs YS);rw[nv_limbs,HN.out.2.2.2.2.2.2.2.2] at h
    omega)
   go_loopg [15] m (fun z v15 wk=>v15=.int .i64 ((z:Int)-1)/\z<=m/\Hid (HotBy [some gX,some gQ] W8 wk)/\Hid (∃U Q,RowX wk w.heap.size gX cX U/\U.length=L/\Lim U/\RowU wk gQ Q/\Q.length=m/\Lim Q/\XS=nv (Q.drop z)*4294967296 ^ z*YS+nv U/\nv U<YS*4294967296 ^ z))
   case atStart=>exact⟨rfl,zR _,HotBy.refl _ _,zh ⟨U0,List.replicate m 0,HU0.out.1,HU0.out.2.1,HU0.out.2.2.1,HRQ.out,List.length_replicate,fun x hx=>by rw[(List.mem_replicate.1 hx).2];omega,by rw[List.drop_of_length_le (by rw[List.length_replicate];exact zR _),HU0.out.2.2.2];simp[nv],by rw[HU0.out.2.2.2];exact HXS.out.2.2.2.2.1⟩⟩
   case round =>
    obtain⟨rfl,hz,HH,HI⟩:=hrel;obtain⟨U,Q,hrU,hUl,hUm,hrQ,hQl,hQm,hI,hJ⟩:=HI.out;have HR:=zh (show RowX wr w.heap.size gX cX U/\U.length=L/\Lim U/\RowU wr gQ Q/\Q.length=m/\Lim Q from⟨hrU,hUl,hUm,hrQ,hQl,hQm⟩);have HIJ:=zh (And.intro hI hJ);clear hrU hUl hUm hrQ hQl hQm hI hJ HI;rcases Nat.eq_zero_or_pos gk with h0 | h0
    ·subst h0;rw[show(((0:Nat):Int)-1) = -1 from rfl];have hI:=HIJ.out.1;have hJ:=HIJ.out.2;rw[Nat.pow_zero,Nat.mul_one,List.drop_zero,HXS.out.1,HXS.out.2.1] at hI;rw[Nat.pow_zero,Nat.mul_one,HXS.out.2.1] at hJ;have hend:=div_end HXS.out.2.2.2.2.2.1 hI hJ;have HEND:=zh hend;have hlsQ:=HR.out.2.2.2.1.ls (R:=Bl wr.heap.size) HR.out.2.2.2.1.lt HR.out.2.2.2.2.2 (by rw[HR.out.2.2.2.2.1];have:=HN.out;unfold maxLen;omega);rw[HR.out.2.2.2.2.1] at hlsQ;have HQT:=zh (trim_any _ Q _ wr hlsQ (fun b h=>h) (by rw[HR.out.2.2.2.2.1];have:=HN.out;omega));rw[<-limbs_nv HR.out.2.2.2.2.2,hend.1] at HQT
     have HXL:=zh (fun(w':World) (hk:Below wr.heap.size wr w')=>show LS w' (Bl w'.heap.size) (.slice (some ⟨gX,0,none⟩) L cX) U from by
      have h:=((HR.out.1.kept (hk.block gX HR.out.1.lt)).ls HR.out.2.2.1).mono Fr.bl;rw[HR.out.2.1] at h
      exact h)
     have HBWR:=zh (show Below w.heap.size w wr from by
      have h1:=HB8.out;have h2:=HH.out
      exact⟨h2.os.trans h1.os,h2.tape.trans h1.tape,h2.output.trans h1.output,Nat.le_trans h1.size h2.size,fun b hb=>by
       rw[h2.block b (zM hb h1.size) (by simp;have:=HGG.out;omega)]
       exact h1.block b hb⟩)
     clear hI hJ hend hlsQ hz s6;go_wp2_with fail;refine HQT.out.mono ?_;rintro e w11 ⟨u11,rfl,ho11,hb11⟩;have HO11:=zh ho11;have HB11:=zh hb11;obtain⟨A11,c11,rfl⟩:=own_form ho11;clear ho11 hb11;go_wp2_with fail;refine(trim_any _ U _ w11 (HXL.out _ HB11.out) (fun b h=>h) (by rw[HR.out.2.1];have:=HN.out;omega)).mono ?_;rintro e w12 ⟨u12,rfl,ho12,hb12⟩;rw[<-limbs_nv HR.out.2.2.1] at ho12;have HO12:=zh ho12;have HO112:=zh (HO11.out.below hb12);have HB12:=zh (HB11.out.trans (hb12.mono HB11.out.size));obtain⟨T12,hT12⟩:=zx ((limbs (nv U)).length);obtain⟨A12,c12,rfl⟩:=own_form ho12;rw[<-hT12] at HO12 ⊢
     have HT12:=zh (show(limbs (nv U)).length<=700 from by
      rw[limbs_nv HR.out.2.2.1];refine Nat.le_trans (trimL_length U) ?_;rw[HR.out.2.1];have:=HN.out;omega)
     clear ho12 hb12 hT12;go_wp2_with fail;refine(rdown_any _ (nv U) s w12 (HO12.out.lsBl (lim_limbs _)) HT12.out HN.out.2.2.2.2.2.1).mono ?_;rintro e w13 ⟨u13,rfl,ho13,hb13⟩;rw[HEND.out.2] at ho13;have HO13:=zh (ho13.base (B':=w.heap.size) (Nat.le_trans HBWR.out.size HB12.out.size));have HO113:=zh ((HO112.out.below hb13).base (B':=w.heap.size) HBWR.out.size);have HBZ:=zh (HBWR.out.trans ((HB12.out.trans (hb13.mono HB12.out.size)).mono HBWR.out.size));obtain⟨A13,c13,rfl⟩:=own_form ho13;clear ho13 hb13;go_wp2_with fail;go_ret2;exact⟨_,_,rfl,HO113.out,HO13.out,HBZ.out⟩
    ·obtain⟨j,rfl⟩:∃i,gk=i+1:=⟨gk-1,by omega⟩
     have e0:(((j+1:Nat):Int)-1)=(j:Int):=by omega
     rw[e0]
     have hjL:j+NN+1<=L:=by have:=HN.out;omega
     have hwin:=div_win (by rw[HR.out.2.1];exact hjL) HYB.out HIJ.out.2;obtain⟨u0,hu0⟩:=zx (U[j+NN]'(by rw[HR.out.2.1];omega));obtain⟨u1,hu1⟩:=zx (U[j+N1]'(by rw[HR.out.2.1];have:=HN.out;have:=HN1.out;omega));obtain⟨u2,hu2⟩:=zx (U[j+n]'(by rw[HR.out.2.1];have:=HN.out;omega))
     have g0:U[j+NN]?=some u0:=by rw[hu0];exact zG _
     have g1:U[j+N1]?=some u1:=by rw[hu1];exact zG _
     have g2:U[j+n]?=some u2:=by rw[hu2];exact zG _
     have b0:=HR.out.2.2.1 u0 (List.mem_of_getElem? g0);have b1:=HR.out.2.2.1 u1 (List.mem_of_getElem? g1);have bb2:=HR.out.2.2.1 u2 (List.mem_of_getElem? g2)
     have ew:win U j (NN+1)=win U j n++[u2,u1,u0]:=by
      rw[win_succ g0,HN.out.1,show n+2=n+1+1 from rfl,win_succ (by rw[<-HN1.out];exact g1),win_succ g2];simp
     have hwl:Lim (win U j n):=(HR.out.2.2.1.drop j).take n;have hwln:(win U j n).length=n:=win_len (by rw[HR.out.2.1];have:=HN.out;omega);have hdig:=dig_of (ul:=win U j n) (vl:=vl) (u2:=u2) (u1:=u1) (u0:=u0) (next:=next) (top:=top) hwl (fun x hx=>lim_limbs YS x (by rw[HV.out.1];exact List.mem_append.2 (.inl hx))) (by rw[hwln,HV.out.2.1]) HV.out.2.2.1 (by have:=HV.out;omega);rw[<-ew,<-HV.out.1,nv_limbs] at hdig;obtain⟨DD,hDD⟩:=zx (nv (win U j (NN+1)));rw[<-hDD] at hdig hwin;obtain⟨hd,hhd⟩:=zx (u0*4294967296+u1);rw[<-hhd] at hdig
     have hc:DD / YS<4294967296:=by rw[Nat.div_lt_iff_lt_mul HXS.out.2.2.1,Nat.mul_comm];exact hwin.1
     have hfst:=hdig.first bb2 (by have:=HV.out;omega)
     have HDC:=zh (show DD / YS<4294967296/\DD=nv (win U j (NN+1))/\DD / YS<=hd / top/\hd<18446744073709551616 from⟨hc,hDD,hfst,by rw[hhd];omega⟩);have k0:=HR.out.1.cell g0;have k1:=HR.out.1.cell g1;have hor:=or_limb u0 u1 b0 b1;rw[<-hhd] at hor
     have a0:IntKind.i64.wrap ((j:Int)+(NN:Int))=((j+NN:Nat):Int):=by rw[<-Int.natCast_add];exact zI _ (by have:=HN.out;omega)
     have a1:IntKind.i64.wrap (((j+NN:Nat):Int)-1)=((j+N1:Nat):Int):=by rw[show((j+NN:Nat):Int)-1=((j+N1:Nat):Int) by have:=HN.out;have:=HN1.out;omega];exact zI _ (by have:=HN.out;have:=HN1.out;omega)
     have a3:IntKind.i64.wrap (((j+NN:Nat):Int)+1)=((j+NN+1:Nat):Int):=by rw[show((j+NN:Nat):Int)+1=((j+NN+1:Nat):Int) by omega];exact zI _ (by have:=HN.out;omega)
     obtain⟨j0,hj0⟩:=zx (j+NN);obtain⟨j1,hj1⟩:=zx (j+N1);obtain⟨j3,hj3⟩:=zx (j+NN+1);rw[<-hj3,<-hj0] at a3;rw[<-hj0] at a0 a1 k0;rw[<-hj1] at a1 k1;have HJS:=zh (show j0=j+NN/\j1=j+N1/\j3=j+NN+1/\j+NN+1<=L/\j<m from⟨hj0,hj1,hj3,hjL,by omega⟩)
     have i0:(j0:Int)<(L:Int):=by omega
     have i1:(j1:Int)<(L:Int):=by have:=HN.out;have:=HN1.out;omega
     have i3:(j3:Int)<=(L:Int):=by omega
     have i4:(j:Int)<=(j3:Int):=by omega
     have i5:(j:Int)<(m:Int):=by omega
     have i6:(j3:Int)<=(cX:Int):=by have:=HN.out;have:=HGX.out;omega
     have p0:(0:Int)<=(j:Int):=by omega
     have t3:(0:Int)<(top:Int):=by have:=HV.out;omega
     have t4:IntKind.u64.wrap (u0:Int)=(u0:Int):=IntWalk.u64_in _ (by omega);have t5:IntKind.u64.wrap (u1:Int)=(u1:Int):=IntWalk.u64_in _ (by omega);have t7:IntKind.u64.wrap ((u0:Int)*4294967296)=(u0:Int)*4294967296:=IntWalk.u64_in _ (by omega);obtain⟨GG,hGG⟩:=zx (hd / top)
     have r1:IntKind.u64.wrap ((hd:Int) / (top:Int))=(GG:Int):=by rw[hGG,<-Int.natCast_ediv];exact IntWalk.u64_in _ (by have:=HDC.out.2.2.2;have:=Nat.div_le_self hd top;omega)
     have r2:IntKind.u64.wrap ((hd:Int).tdiv (top:Int))=(GG:Int):=by rw[Int.tdiv_eq_ediv_of_nonneg (by omega)];exact r1
     have HGG0:=zh (show DD / YS<=GG by rw[hGG];exact hfst);obtain⟨GI,hGI⟩:∃t:Int,t=(GG:Int):=⟨_,rfl⟩;rw[<-hGI] at r1 r2;have HGI:=zh hGI;obtain⟨W9,hW9⟩:=zx wr;rw[<-hW9] at HH HR k0 k1 ⊢;clear hu0 hu1 hu2 g0 g1 g2 b0 b1 bb2 ew hwl hwln hdig hDD hhd hc hfst hwin hj0 hj1 hj3 hjL h0 hz e0 hW9 s6 hGG hGI;go_upto_region 21 with fail
     go_quiet (fail)
     obtain⟨W10,hW10⟩:=zx (W9.drewN nq);rw[<-hW10];have HR10:=zh (show RowX W10 w.heap.size gX cX U/\U.length=L/\Lim U/\RowU W10 gQ Q/\Q.length=m/\Lim Q from⟨HR.out.1.kept (by rw[hW10];rfl),HR.out.2.1,HR.out.2.2.1,HR.out.2.2.2.1.of (by rw[hW10];rfl),HR.out.2.2.2.2⟩);have HH10:=zh (show HotBy [some gX,some gQ] W8 W10 from by rw[hW10];exact HH.out.trans ⟨rfl,rfl,rfl,zR _,fun _ _ _=>rfl⟩);clear k0 k1 hW10 hor t4 t5 t7 HR HH
     go_upto_if 131 with fail
     go_cut [17] from 104 to 191 (fun v17 wc=>∃g:Nat,v17=.int .u64 (g:Int)/\wc=W10/\Hid (g<4294967296/\DD / YS<=g))
     case first =>
      by_cases hbig:4294967295<GG
      ·have q7:(4294967295:Int)<GI:=by have:=HGI.out;omega
       have d1:decide ((4294967295:Int)<GI)=true:=decide_eq_true q7;rw[d1];have HE:=zh (show(4294967295:Nat)<4294967296/\DD / YS<=4294967295 from⟨by omega,by have:=HDC.out.1;omega⟩);clear hbig;go_wp2_with fail;go_meet
       case rel=>exact⟨4294967295,rfl,rfl,HE⟩
      ·have q7:¬(4294967295:Int)<GI:=by have:=HGI.out;omega
       have d1:decide ((4294967295:Int)<GI)=false:=decide_eq_false q7;rw[d1];have HE:=zh (show GG<4294967296/\DD / YS<=GG from⟨by omega,HGG0.out⟩);clear hbig;go_wp2_with fail;go_meet
       case rel=>exact⟨GG,by rw[HGI.out],rfl,HE⟩
     case rest =>
      obtain⟨g,rfl,hwc,HGS⟩:=hcut;subst hwc;clear r1 r2;obtain⟨WC,hWC⟩:=zx wc;rw[<-hWC] at HR10 HH10 ⊢;clear hWC;have HRYC:=zh (show RowX WC w5.heap.size gY cY (limbs YS) from HRY8.out.kept (HH10.out.block gY (by have:=HGG.out;omega) (by simp;have:=HGG.out;omega)));go_wp2_with fail;go_loopg [17] g (fun z v17 wk=>v17=.int .u64 (z:Int)/\Hid (z<4294967296/\DD / YS<=z)/\Hid (Below WC.heap.size WC wk))
      case atStart=>exact⟨rfl,HGS,zB _ _⟩
      case round =>
       obtain⟨rfl,HZ,HBW⟩:=hrel;have HUW:=zh (HR10.out.1.kept (HBW.out.block gX HR10.out.1.lt));have HYW:=zh (HRYC.out.kept (HBW.out.block gY HRYC.out.lt))
       have hwl:(win U j (NN+1)).length=j3-j:=by rw[win_len (by rw[HR10.out.2.1];have:=HJS.out;omega)];have:=HJS.out;omega
       have HWN:=zh (show(win U j (NN+1)).length=j3-j/\Lim (win U j (NN+1))/\(∀k y,(win U j (NN+1))[k]?=some y->U[j+k]?=some y)/\(win U j (NN+1)).length<=700 from⟨hwl,(HR10.out.2.2.1.drop j).take _,fun k y h=>win_get h,by rw[hwl];have:=HJS.out;have:=HN.out;omega⟩);obtain⟨C2,hC2⟩:=zx (cmpI (YS*gk) DD);have HC2:=zh hC2
       have hj3:¬(j3:Int)<(j:Int):=by omega
       have hj4:¬cX=j:=by have:=HJS.out;omega
       have hj5:¬j=cX:=by have:=HJS.out;omega
       have hj6:¬(cX-j=0):=by omega
       have z0:(0:Int)<=(gk:Int):=by omega
       have HT7:=zh (show(limbs (YS*gk)).length<=601 from by
        refine Nat.le_trans (limbs_len _ (NN+1) ?_) (by have:=HN.out;omega);have h1:=Nat.mul_le_mul HYB.out (show gk<=4294967295 by have:=HZ.out.1;omega);have h2:0<4294967296 ^ NN:=Nat.pow_pos (by omega);rw[Nat.pow_succ];generalize 4294967296 ^ NN=P at *
        omega)
       clear hwl hC2;obtain⟨WR,hWR⟩:=zx wr;rw[<-hWR] at HBW HUW HYW ⊢
       have HLY:=zh (show ∀w',Below WR.heap.size WR w'->LS w' (Bl w'.heap.size) (.slice (some ⟨gY,0,none⟩) NN cY) (limbs YS) from fun w' hk=>by
        have h:=((HYW.out.kept (hk.block gY HYW.out.lt)).ls (lim_limbs YS)).mono Fr.bl;rw[HN.out.2.2.2.2.2.2.2.2] at h
        exact h)
       clear hWR;go_upto_region 25 with fail;refine region_tail (S:=(fun(w':World)=>Below WR.heap.size WR w')) [] (by kernel_rfl) ((zB _ _).drew:Below WR.heap.size WR WR.drew) (fun hHeld=>?_);refine tk 0 132 ?_;refine tk 1 133 ?_;refine tk 4 136 ?_;refine tk 5 137 ?_;refine tk 6 138 ?_;refine tk 7 139 ?_;refine tk 8 140 ?_;refine tk 9 141 ?_;refine tk 10 142 ?_;refine tk 11 143 ?_;refine rd1 2 (fun K hK=>?_);go_simp
       (refine(rmake_any gk _ HZ.out.1).mono ?_;rintro e w5 ⟨u5,rfl,ho5,hb5⟩;have HB5:=zh (show Below WR.heap.size WR w5 from hHeld.trans (hb5.mono hHeld.size));have HO5:=zh ho5;clear ho5 hb5)
       go_wp2_with fail;refine hK.out _ _ ?_ (fun hHeld=>?_)
       ·exact HB5.out
       clear hK K;(try simp only[Act.put,z1,z2,z3]);refine rd1 3 (fun K hK=>?_);go_simp
       (refine(rtimesG_any _ u5 YS gk w5 (HLY.out _ HB5.out) (HO5.out.lsBl (natL_mem HZ.out.1)) (by have:=HN.out;omega) HXS.out.2.2.1).mono ?_;rintro e w6 ⟨u6,rfl,ho6,hb6⟩;have HB6:=zh (show Below WR.heap.size WR w6 from HB5.out.trans (hb6.mono HB5.out.size));have HO6:=zh ho6;obtain⟨T6,hT6⟩:=zx ((limbs (YS*gk)).length);obtain⟨A6,c6,rfl⟩:=own_form ho6;rw[<-hT6] at HO6 ⊢;have HT6:=zh hT6;clear ho6 hb6 hT6)
       go_wp2_with fail;refine hK.out _ _ ?_ (fun hHeld=>?_)
       ·exact HB6.out
       clear hK K;(try simp only[Act.put,z1,z2,z3]);refine rd1 12 (fun K hK=>?_);refine app_winW (.const (.slice none 0 0)) (.tmp 143) rfl (by rfl) gX j (j3-j) (cX-j) (win U j (NN+1)) HWN.out.1 (by rfl) (fun k y hk=>(HB6.out.cell (p:=⟨gX,j+k,none⟩) HUW.out.lt).trans (HUW.out.cell (HWN.out.2.2.1 k y hk))) (by rw[<-HWN.out.1];have:=HWN.out.2.2.2;omega) ?_;intro v12 w12 ho12 hb12;have HB12:=zh (show Below WR.heap.size WR w12 from HB6.out.trans (hb12.mono HB6.out.size));have HO12:=zh ho12;have HO612:=zh (HO6.out.below hb12);obtain⟨A12,c12,hv12⟩:=own_form ho12;rw[HWN.out.1] at hv12;subst hv12;clear ho12 hb12;refine hK.out _ _ ?_ (fun hHeld=>?_)
       ·exact HB12.out
       clear hK K;(try simp only[Act.put,z1,z2,z3]);refine rd1 13 (fun K hK=>?_);go_simp
       (refine(rcmpL_any _ _ (limbs (YS*gk)) (win U j (NN+1)) w12 (HO612.out.lsBl (lim_limbs _)) (HO12.out.lsBl HWN.out.2.1) (Nat.le_trans HT7.out (by omega)) (by have:=HWN.out.2.2.2;omega)).mono ?_;rintro e w13 ⟨rfl,hb13⟩;have HB13:=zh (show Below WR.heap.size WR w13 from HB12.out.trans (hb13.mono HB12.out.size));rw[nv_limbs,<-HDC.out.2.1,<-HC2.out];clear hb13)
       go_wp2_with fail;refine hK.out _ _ ?_ (fun hHeld=>?_)
       ·exact HB13.out
       clear hK K;(try simp only[Act.put,z1,z2,z3]);refine tk 14 146 ?_;refine doneT (by kernel_rfl) ?_ _;clear hHeld;by_cases hgt:DD<YS*gk
       ·have d2:decide (0<C2)=true:=decide_eq_true (by rw[HC2.out];unfold cmpI;rw[if_neg (by omega),if_pos hgt];omega)
        have hgk:0<gk:=by
         rcases Nat.eq_zero_or_pos gk with h | h
         ·rw[h,Nat.mul_zero] at hgt;omega
         ·exact h
        obtain⟨g2,rfl⟩:∃g2,gk=g2+1:=⟨gk-1,by omega⟩
        have HZ2:=zh (show g2<4294967296/\DD / YS<=g2 from⟨by have:=HZ.out;omega,by
         have h:DD / YS<g2+1:=by rw[Nat.div_lt_iff_lt_mul HXS.out.2.2.1,Nat.mul_comm];exact hgt
         omega⟩)
        have w5:IntKind.u64.wrap (((g2+1:Nat):Int)-1)=(g2:Int):=by rw[show((g2+1:Nat):Int)-1=(g2:Int) by omega];exact IntWalk.u64_in _ (by have:=HZ.out;omega)
        obtain⟨G1,hG1⟩:∃t:Int,t=((g2+1:Nat):Int):=⟨_,rfl⟩;rw[<-hG1] at w5 z0 ⊢;have HBN:=zh (HBW.out.trans (HB13.out.mono HBW.out.size));clear hgt hgk hG1;rw[d2];go_wp2_with fail;go_roundg g2
        case measure=>omega
        case rel=>exact⟨rfl,HZ2,HBN⟩
       ·have d2:decide (0<C2)=false:=decide_eq_false (by rw[HC2.out];unfold cmpI;split <;> first | omega | (rw[if_neg hgt];omega))
        have hge:gk=DD / YS:=by
         have h1:=HZ.out.2;have h2:gk<=DD / YS:=(Nat.le_div_iff_mul_le HXS.out.2.2.1).2 (by rw[Nat.mul_comm];omega);omega
        have HGE:=zh hge;have HBN:=zh (HBW.out.trans (HB13.out.mono HBW.out.size));clear hgt hge;rw[d2];have HUB:=zh (HUW.out.kept (HB13.out.block gX HUW.out.lt));have HLYB:=zh (fun(w':World) (hk:Below w13.heap.size w13 w')=>HLY.out w' (HB13.out.trans (hk.mono HB13.out.size)));go_wp2_with (at_builtin;refine app_win (.const (.slice none 0 0)) (.tmp 156) rfl rfl (by rfl) gX j (j3-j) (cX-j) (win U j (NN+1)) HWN.out.1 (by rfl) (fun k y hk=>HUB.out.cell (HWN.out.2.2.1 k y hk)) (by rw[<-HWN.out.1];have:=HWN.out.2.2.2;omega) ?_;intro v14 w14 ho14 hb14;have HO14:=zh ho14;have HB14:=zh hb14;obtain⟨A14,c14,hv14⟩:=own_form ho14;rw[HWN.out.1] at hv14;subst hv14;clear ho14 hb14);refine(rmake_any gk w14 HZ.out.1).mono ?_;rintro e w15 ⟨u15,rfl,ho15,hb15⟩;have HO15:=zh ho15;have HB15:=zh (HB14.out.trans (hb15.mono HB14.out.size));have HO145:=zh (HO14.out.below hb15);clear ho15 hb15;go_wp2_with fail;refine(rtimesG_any _ u15 YS gk w15 (HLYB.out _ HB15.out) (HO15.out.lsBl (natL_mem HZ.out.1)) (by have:=HN.out;omega) HXS.out.2.2.1).mono ?_;rintro e w16 ⟨u16,rfl,ho16,hb16⟩;have HO16:=zh ho16;have HB16:=zh (HB15.out.trans (hb16.mono HB15.out.size));have HO146:=zh (HO145.out.below hb16);clear ho16 hb16;go_wp2_with fail
        have hDr:DD-YS*gk=DD % YS:=by
         have h:=Nat.div_add_mod DD YS;rw[HGE.out];omega
        refine(rminus_any _ u16 (win U j (NN+1)) (YS*gk) w16 (HO146.out.lsBl HWN.out.2.1) (HO16.out.lsBl (lim_limbs _)) (by have:=HWN.out.2.2.2;omega) (by rw[HWN.out.1];have:=HJS.out;omega) (by rw[<-HDC.out.2.1,HGE.out];exact Nat.mul_div_le _ _)).mono ?_;rintro e w17 ⟨u17,rfl,ho17,hb17⟩;rw[<-HDC.out.2.1,hDr] at ho17;have HB17:=zh (HB16.out.trans (hb17.mono HB16.out.size));have HBC:=zh (HBN.out.trans (HB17.out.mono HBN.out.size));have hlsR:=ho17.ls (lim_limbs _);obtain⟨RS,hRS⟩:=zx (limbs (DD % YS));rw[<-hRS] at hlsR;obtain⟨A17,c17,rfl,-,-⟩:=hlsR.form;obtain⟨LR,hLR⟩:=zx RS.length
        have hLR2:LR<=NN:=by
         rw[hLR,hRS,<-HN.out.2.2.2.2.2.2.2.2];exact limbs_le (Nat.le_of_lt (Nat.mod_lt _ HXS.out.2.2.1))
        have HRS:=zh (show RS=limbs (DD % YS)/\LR=RS.length/\LR<=NN/\Lim RS/\nv RS=DD % YS from⟨hRS,hLR,hLR2,by rw[hRS];exact lim_limbs _,by rw[hRS,nv_limbs]⟩);have HLR:=zh hlsR;rw[<-hLR];have HUX:=zh (HUB.out.kept (HB17.out.block gX HUB.out.lt));have HGX17:=zh (show gX<w16.heap.size from zM HUB.out.lt HB16.out.size)
        have nn6:(NN:Int)<=600:=by have:=HN.out;omega
        have mm6:(L:Int)<=700:=by have:=HN.out;omega
        have HJG:=zh (show HotBy [some gX,some gQ] W8 w17 from HH10.out.trans (HotBy.below HBC.out));clear ho17 hb17 hDr hlsR hRS hLR hLR2 z0 hj3 hj4 hj5 hj6 a1 i0 i1 i3 i4 i6;go_wp2_with fail;go_loopg [19] (NN+1) (fun z v19 wk=>∃(t:Nat) (U2:List Nat),t<=NN+1/\z=NN+1-t/\v19=.int .i64 (t:Int)/\Hid (HotBy [some gX] w17 wk)/\Hid (RowX wk w.heap.size gX cX U2/\U2.length=L/\Lim U2/\(∀k,k<j\/j+t<=k->U2[k]?=U[k]?)/\nv (win U2 j t)=nv (RS.take t)))
        case atStart=>exact⟨0,U,Nat.zero_le _,rfl,rfl,HotBy.refl _ _,zh ⟨HUX.out,HR10.out.2.1,HR10.out.2.2.1,fun k _=>rfl,by simp[win,nv]⟩⟩
        case round =>
         obtain⟨t,U2,ht,rfl,rfl,HHT,HU2⟩:=hrel;obtain⟨WT,hWT⟩:=zx wr;rw[<-hWT] at HHT HU2 ⊢;clear hWT;by_cases hlt:t<=NN
         ·obtain⟨jt,hjt⟩:=zx (j+t)
          have hjtL:jt<U2.length:=by rw[HU2.out.2.1];have:=HJS.out;omega
          have c1:=zG hjtL;obtain⟨Y,hY⟩:=zx (U2[jt]);rw[<-hY] at c1;have kg:=HU2.out.1.cell c1;have kf:=HU2.out.1.fz jt
          have b1:IntKind.i64.wrap ((j:Int)+(t:Int))=(jt:Int):=by rw[hjt,<-Int.natCast_add];exact zI _ (by have:=HJS.out;have:=HN.out;omega)
          have b2':(jt:Int)<(L:Int):=by rw[<-HU2.out.2.1];omega
          have b3:(t:Int)<=(NN:Int):=by omega
          obtain⟨W5,hW5⟩:=zx (WT.setCell ⟨gX,jt,none⟩ (.int .u32 0))
          have hr5:RowX W5 w.heap.size gX cX (U2.set jt 0):=by rw[hW5];exact HU2.out.1.set jt 0
          have hh5:HotBy [some gX] w17 W5:=by rw[hW5];exact HHT.out.trans (HotBy.setCell _ _ _ _ (by simp))
          have HW5:=zh hW5;have HR5:=zh hr5;have HH5:=zh hh5
          have hwin:∀v,nv (win (U2.set jt v) j (t+1))=nv (win U2 j t)+4294967296 ^ t*v:=fun v=>by
           rw[hjt,win_succ (x:=v) (List.getElem?_set_self (by rw[<-hjt];exact hjtL)),nv_snoc,win_set,win_len (by rw[HU2.out.2.1];have:=HJS.out;omega)]
          have HNX:=zh (show ∀v,v<4294967296->nv (RS.take (t+1))=nv (RS.take t)+4294967296 ^ t*v->(U2.set jt v).length=L/\Lim (U2.set jt v)/\(∀k,k<j\/j+(t+1)<=k->(U2.set jt v)[k]?=U[k]?)/\nv (win (U2.set jt v) j (t+1))=nv (RS.take (t+1)) from fun v hv hs=>⟨by rw[List.length_set];exact HU2.out.2.1,fun x hx=>by
           rcases List.mem_or_eq_of_mem_set hx with h | h
           ·exact HU2.out.2.2.1 x h
           ·rw[h];exact hv,fun k hk=>by
           rw[List.getElem?_set_ne (by omega)]
           exact HU2.out.2.2.2.1 k (by omega),by rw[hwin v,HU2.out.2.2.2.2,hs]⟩)
          have HT:=zh (And.intro hlt ht);by_cases hlr:t<LR
          ·have b4:(t:Int)<(LR:Int):=by omega
           obtain⟨b5,o5,rfl,hR5b,hc5⟩:=HLR.out.reads (by rw[<-HRS.out.2.1];omega);have x1:=zG (l:=RS) (i:=t) (by rw[<-HRS.out.2.1];exact hlr);obtain⟨X,hX⟩:=zx (RS[t]'(by rw[<-HRS.out.2.1];exact hlr));rw[<-hX] at x1;have kx:=hc5 t X x1 W5 (hh5.block b5 hR5b.2 (by simp;have:=hR5b.1;have:=HGX17.out;omega));have kg5:W5.cell? ⟨gX,jt,none⟩=some (.int .u32 ((0:Nat):Int)):=hr5.cell (List.getElem?_set_self hjtL);have kf5:=hr5.fz jt;obtain⟨W6,hW6⟩:=zx (W5.setCell ⟨gX,jt,none⟩ (.int .u32 (X:Int)))
           have HR6:=zh (show RowX W6 w.heap.size gX cX (U2.set jt X) from by
            have h:=hr5.set jt X;rw[List.set_set] at h
            rw[hW6];exact h)
           have HH6:=zh (show HotBy [some gX] w17 W6 from by rw[hW6];exact hh5.trans (HotBy.setCell _ _ _ _ (by simp)));have HW6:=zh hW6;have HX:=zh (HNX.out X (HRS.out.2.2.2.1 X (List.mem_of_getElem? x1)) (take_step x1));clear hjt hjtL c1 hY hwin hlr x1 hX hc5 hR5b hW5 hW6 hr5 hh5 hlt ht;go_upto_region 32 with fail;rw[<-HW5.out];clear kg kf;go_wp2_with fail;rw[<-HW6.out];go_roundg (NN+1-(t+1))
           case measure=>have:=HT.out;omega
           case rel=>exact⟨t+1,_,by have:=HT.out;omega,rfl,by go_num,HH6,zh ⟨HR6.out,HX.out⟩⟩
          ·have b4:¬(t:Int)<(LR:Int):=by omega
           have HX:=zh (HNX.out 0 (by omega) (by rw[take_past (by rw[<-HRS.out.2.1];omega)];simp));clear hjt hjtL c1 hY hwin hlr hW5 hr5 hh5 hlt ht;go_upto_region 32 with fail;rw[<-HW5.out];clear kg kf;go_wp2_with fail;go_roundg (NN+1-(t+1))
           case measure=>have:=HT.out;omega
           case rel=>exact⟨t+1,_,by have:=HT.out;omega,rfl,by go_num,HH5,zh ⟨HR5.out,HX.out⟩⟩
         ·have hte:t=NN+1:=by omega
          have hn3:nv (win U2 j (NN+1))=DD % YS:=by
           have h:=HU2.out.2.2.2.2;rw[hte,List.take_of_length_le (by rw[<-HRS.out.2.1];have:=HRS.out.2.2.1;omega),HRS.out.2.2.2.2] at h;exact h
          have hk3:∀k,k<j\/j+NN+1<=k->U2[k]?=U[k]?:=fun k hk=>HU2.out.2.2.2.1 k (by omega)
          have b3:¬(t:Int)<=(NN:Int):=by omega
          have hrQ3:RowU WT gQ Q:=(HR10.out.2.2.2.1.below HBC.out).of (HHT.out.block gQ (zM HR10.out.2.2.2.1.lt HBC.out.size) (by simp;have:=HGG.out;omega))
          have hjQ:j<Q.length:=by rw[HR10.out.2.2.2.2.1];exact HJS.out.2.2.2.2
          obtain⟨kq,kf⟩:=hrQ3.at_ hjQ;have hDB:gk<4294967296:=HZ.out.1
          have hmod:(gk:Int) % 4294967296=(gk:Int):=by omega
          have hmodw:IntKind.u32.wrap (gk:Int)=(gk:Int):=by rw[IntKind.wrap_u32];omega
          obtain⟨W15,hW15⟩:=zx (WT.setCell ⟨gQ,j,none⟩ (.int .u32 (gk:Int)));have hrd:=div_round (U:=U) (U':=U2) (Q:=Q) (j:=j) (n:=NN) (d:=gk) (X:=XS) (v:=YS) (by rw[HR10.out.2.1];exact HJS.out.2.2.2.1) (HU2.out.2.1.trans HR10.out.2.1.symm) HR10.out.2.2.1 hjQ HYB.out HXS.out.2.2.1 HIJ.out.1 HIJ.out.2 hk3 (by rw[HGE.out,HDC.out.2.1]) (by rw[hn3,HDC.out.2.1])
          have HNXT:=zh (show ∃U Q,RowX W15 w.heap.size gX cX U/\U.length=L/\Lim U/\RowU W15 gQ Q/\Q.length=m/\Lim Q/\XS=nv (Q.drop j)*4294967296 ^ j*YS+nv U/\nv U<YS*4294967296 ^ j from⟨U2,Q.set j gk,by rw[hW15];exact HU2.out.1.kept (Below.heap_setCell WT ⟨gQ,j,none⟩ _ gX (by show gX≠gQ;have:=HGG.out;omega)),HU2.out.2.1,HU2.out.2.2.1,by rw[hW15];exact hrQ3.set j gk,by rw[List.length_set];exact HR10.out.2.2.2.2.1,fun x hx=>by
           rcases List.mem_or_eq_of_mem_set hx with h | h
           ·exact HR10.out.2.2.2.2.2 x h
           ·rw[h];exact hDB,hrd.1,hrd.2⟩)
          have HHN:=zh (show HotBy [some gX,some gQ] W8 W15 from by rw[hW15];exact(HJG.out.trans (HHT.out.more (fun x hx _=>by simp at hx ⊢;exact .inl hx))).trans (HotBy.setCell _ _ _ _ (by simp)));have HW15:=zh hW15;have n9:IntKind.i64.wrap ((j:Int)-1)=(j:Int)-1:=zI _ (by have:=HJS.out;have:=HN.out;omega);have HJM:=zh (show j<=m by have:=HJS.out;omega);clear hn3 hk3 hrQ3 hjQ hDB hrd hW15 hte hlt ht;go_wp2_with fail;rw[<-HW15.out];go_roundg j
          case measure=>omega
          case rel=>exact⟨rfl,HJM.out,HHN,HNXT⟩
theorem rdvL_any(va vb:Value)(n m:Nat)(w:World)(ha:LS w (Bl w.heap.size) va (limbs n))(hb:LS w (Bl w.heap.size) vb (limbs m))(hm:0<m)(hn1:(limbs n).length<=512)(hm1:(limbs m).length<=512) :
  Calls Tryz.prog 122 #[va,vb] w fun e w'=>∃q r,e=.returned (.tuple #[q,r,.int .i64 0])/\OwnL w' w.heap.size q (limbs (n / m))/\OwnL w' w.heap.size r (limbs (n % m))/\Below w.heap.size w w':=by
 have hn32:=lim_limbs n;have hm32:=lim_limbs m;have HA:=zh ha;have HB:=zh hb;have H1:=zh hn1;have H2:=zh hm1;have H3:=zh hn32;have H4:=zh hm32
 have hml:¬(limbs m).length=0:=by rw[limbs_pos hm];simp
 have HML:=zh hml;clear ha hb hn1 hm1 hn32 hm32 hml;go_enter Tryz.func122,Tryz.ntmps122;go_wp2_with fail;refine(rlarge_any va _ _ _ HA.out (fun b h=>h) (Nat.le_trans H1.out (by omega))).mono ?_;rintro e w1 ⟨rfl,hb1⟩;have HA1:=zh (HA.out.below hb1);have HB1:=zh (HB.out.below hb1);have HC1:=zh hb1;clear hb1;go_wp2_with fail;refine(rlarge_any vb _ _ _ HB1.out (fun b h=>h) (Nat.le_trans H2.out (by omega))).mono ?_;rintro e w2 ⟨rfl,hb2⟩;have HA2:=zh (HA1.out.below hb2);have HB2:=zh (HB1.out.below hb2);have HC2:=zh (HC1.out.trans (hb2.mono HC1.out.size));clear hb2;go_wp2_with fail;refine(trim_any vb _ _ _ HB2.out (fun b h=>h) (Nat.le_trans H2.out (by omega))).mono ?_;rintro e w3 ⟨u3,rfl,hO3,hb3⟩;rw[trim_of_top (top_limbs _)] at hO3;obtain⟨A3,c3,rfl⟩:=own_form hO3;have HA3:=zh (HA2.out.below hb3);have HB3:=zh (HB2.out.below hb3);have HC3:=zh (HC2.out.trans (hb3.mono HC2.out.size));obtain⟨M,hM⟩:=zx ((limbs m).length)
 have hM0:((M:Int)==0)=false:=by rw[beq_eq_false_iff_ne];have:=HML.out;omega
 rw[<-hM];clear hb3 hO3 hM;go_wp2_with fail;refine(trim_any va _ _ _ HA3.out (fun b h=>h) (Nat.le_trans H1.out (by omega))).mono ?_;rintro e w4 ⟨u4,rfl,hO4,hb4⟩;rw[trim_of_top (top_limbs _)] at hO4;have HO4:=zh hO4;have HB4:=zh (HB3.out.below hb4);have HC4:=zh (HC3.out.trans (hb4.mono HC3.out.size));clear hb4 hO4;go_wp2_with fail;refine(trim_any vb _ _ _ HB4.out (fun b h=>h) (Nat.le_trans H2.out (by omega))).mono ?_;rintro e w5 ⟨u5,rfl,hO5,hb5⟩;rw[trim_of_top (top_limbs _)] at hO5;have HO5:=zh hO5;have HO45:=zh (HO4.out.below hb5);have HC5:=zh (HC4.out.trans (hb5.mono HC4.out.size));clear hb5 hO5;go_wp2_with fail;refine(rdivL_any u4 u5 n m _ (HO45.out.lsBl (lim_limbs _)) (HO5.out.lsBl (lim_limbs _)) hm (Nat.le_trans H1.out (by omega)) (Nat.le_trans H2.out (by omega))).mono ?_;rintro e w6 ⟨q,r,rfl,hq,hr,hb6⟩;have HQ:=zh (hq.base HC5.out.size);have HR:=zh (hr.base HC5.out.size);have HC6:=zh (HC5.out.trans (hb6.mono HC5.out.size));clear hq hr hb6;go_wp2_with fail;go_ret3;exact⟨q,r,rfl,HQ.out,HR.out,HC6.out⟩
theorem rgcdL_any(va vb:Value)(n m:Nat)(w:World)(ha:LS w (Bl w.heap.size) va (limbs n))(hb:LS w (Bl w.heap.size) vb (limbs m))(hn1:(limbs n).length<=512)(hm1:(limbs m).length<=512) :
  Calls Tryz.prog 121 #[va,vb] w fun e w'=>∃g,e=.returned (.tuple #[g,.int .i64 0])/\OwnL w' w.heap.size g (limbs (Nat.gcd n m))/\Below w.heap.size w w':=by
 have hn32:=lim_limbs n;have hm32:=lim_limbs m;have HA:=zh ha;have HB:=zh hb;have H1:=zh hn1;have H2:=zh hm1;have H3:=zh hn32;have H4:=zh hm32;clear ha hb hn1 hm1 hn32 hm32;go_enter Tryz.func121,Tryz.ntmps121;go_wp2_with fail;refine(rlarge_any va _ _ _ HA.out (fun b h=>h) (Nat.le_trans H1.out (by omega))).mono ?_;rintro e w1 ⟨rfl,hb1⟩;have HA1:=zh (HA.out.below hb1);have HB1:=zh (HB.out.below hb1);have HC1:=zh hb1;clear hb1;go_wp2_with fail;refine(rlarge_any vb _ _ _ HB1.out (fun b h=>h) (Nat.le_trans H2.out (by omega))).mono ?_;rintro e w2 ⟨rfl,hb2⟩;have HA2:=zh (HA1.out.below hb2);have HB2:=zh (HB1.out.below hb2);have HC2:=zh (HC1.out.trans (hb2.mono HC1.out.size));clear hb2;go_wp2_with fail;refine(trim_any va _ _ _ HA2.out (fun b h=>h) (Nat.le_trans H1.out (by omega))).mono ?_;rintro e w4 ⟨u4,rfl,hO4,hb4⟩;rw[trim_of_top (top_limbs _)] at hO4;have HO4:=zh hO4;have HB4:=zh (HB2.out.below hb4);have HC4:=zh (HC2.out.trans (hb4.mono HC2.out.size));clear hb4 hO4;go_wp2_with fail;refine(trim_any vb _ _ _ HB4.out (fun b h=>h) (Nat.le_trans H2.out (by omega))).mono ?_;rintro e w5 ⟨u5,rfl,hO5,hb5⟩;rw[trim_of_top (top_limbs _)] at hO5;have hO45:=(HO4.out.below hb5).base (B':=w.heap.size) HC2.out.size;have hO55:=hO5.base (B':=w.heap.size) HC4.out.size;have HO45:=zh hO45;have HO5:=zh hO55;have HC5:=zh (HC4.out.trans (hb5.mono HC4.out.size));clear hb5 hO5 hO45 hO55;go_wp2_with fail;go_loopg [6,7] m (fun z v6 v7 wr=>Hid (∃x,Nat.gcd x z=Nat.gcd n m/\(limbs x).length<=512/\(limbs z).length<=512/\OwnL wr w.heap.size v6 (limbs x)/\OwnL wr w.heap.size v7 (limbs z))/\Hid (Below w.heap.size w wr))
 case atStart=>exact⟨⟨n,rfl,H1.out,H2.out,HO45.out,HO5.out⟩,HC5.out⟩
 case round =>
  obtain⟨hx,hbr⟩:=hrel;obtain⟨x,hgx,hx32,hz32,hox,hoz⟩:=hx.out;have HX:=zh hox;have HZ:=zh hoz;have HGX:=zh hgx;obtain⟨A6,c6,rfl⟩:=own_form hox;obtain⟨A7,c7,rfl⟩:=own_form hoz;have HBR:=zh hbr.out;have hlz:(limbs gk).length=0↔gk=0:=⟨fun h=>by rcases Nat.eq_zero_or_pos gk with h2 | h2;(exact h2);(obtain⟨m,t,e,-⟩:=limbs_snoc h2;rw[e] at h;simp at h),fun h=>by rw[h,limbs_zero];rfl⟩;have hsz:=hbr.out.size;have LX:=zh (hox.lsBl (lim_limbs _));have LZ:=zh (hoz.lsBl (lim_limbs _));by_cases h0:gk=0
  ·have hl0:(limbs gk).length=0:=hlz.2 h0;have HE:=zh (show x=Nat.gcd n m by rw[<-hgx,h0];simp);rw[hl0];clear hx hox hoz hgx hlz hl0 h0 hbr;go_wp2_with fail;go_ret2;exact⟨_,rfl,by rw[<-HE.out];exact HX.out,HBR.out⟩
  ·obtain⟨NZ,hNZ⟩:=zx ((limbs gk).length)
   have hl1:(0:Int)<(NZ:Int):=by have:=mt hlz.1 h0;omega
   have HS:=zh (And.intro hx32 hz32);have HM:=zh (Nat.mod_lt x (show 0<gk by omega));have HG:=zh (show Nat.gcd gk (x % gk)=Nat.gcd n m by rw[<-hgx,Nat.gcd_comm x gk,Nat.gcd_rec gk x,Nat.gcd_comm gk (x % gk)]);have HZ0:=zh (show 0<gk by omega);rw[<-hNZ] at LZ HZ ⊢;clear hx hox hoz hgx hlz h0 hbr hx32 hz32 hNZ;go_wp2_with fail;refine(rdivL_any _ _ x gk _ LX.out LZ.out HZ0.out (Nat.le_trans HS.out.1 (by omega)) (Nat.le_trans HS.out.2 (by omega))).mono ?_;rintro e w6 ⟨q,r,rfl,hq,hr,hb6⟩;have HQ:=zh (hr.base hsz);have HZ6:=zh (HZ.out.below hb6);have HC6:=zh (HBR.out.trans (hb6.mono HBR.out.size));clear hq hr hb6;go_wp2_with fail;go_roundg (x % gk)
   case measure=>exact HM.out
   case rel=>exact⟨⟨gk,HG.out,HS.out.2,limbs_mono (Nat.le_of_lt HM.out) HS.out.2,HZ6.out,HQ.out⟩,HC6.out⟩
end Go.Proofs.YtgfaieppacabjaaGreat
