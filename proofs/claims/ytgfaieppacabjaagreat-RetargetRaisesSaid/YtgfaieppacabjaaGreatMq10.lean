/- Parts. -/
import Derived.Test.YtgfaieppacabjaaGreatMq09
set_option linter.unusedSectionVars false
set_option maxRecDepth 100000
set_option maxHeartbeats 12800000
set_option linter.unusedVariables false
set_option linter.unusedSimpArgs false
namespace Go.Proofs.YtgfaieppacabjaaGreat
open Go.RowKit
theorem fvalid_any(neg:Bool)(vn vd:Value)(n d:Nat)(w:World)(hn:LS w (Bl w.heap.size) vn (natL n))(hd:LS w (Bl w.heap.size) vd (natL d))(h0:0<d) :
  Calls Tryz.prog 70 #[.agg #[.bool neg,vn,vd]] w fun e w'=>e=.returned (.bool true)/\Below w.heap.size w w':=by
 have h:=fvalidL_any neg vn vd _ _ w hn hd (by have:=natL_length n;omega) (by have:=natL_length d;omega)
 rwa [nv_natL hn.lt32,nv_natL hd.lt32,okL_small h0 hn.lt32 hd.lt32] at h
theorem fabove_any(neg:Bool)(vn vd:Value)(n d:Nat)(w:World)(hn:LS w (Bl w.heap.size) vn (natL n))(hd:LS w (Bl w.heap.size) vd (natL d)) :
  Calls Tryz.prog 90 #[.agg #[.bool neg,vn,vd]] w fun e w'=>e=.returned (.bool (decide (0<n)))/\Below w.heap.size w w':=by
 obtain⟨An,Nn,cn,rfl⟩:=hn.frm;obtain⟨Ad,Nd,cd,rfl⟩:=hd.frm;obtain⟨W0,hW0⟩:=zx (w.alloc (.cells #[.bool neg,.slice An Nn cn,.slice Ad Nd cd] 26))
 have hb0:Below w.heap.size w W0:=by rw[hW0];exact(zB _ _).alloc (zR _) _
 have HBD:=zh (nbits_b _ n _ W0 (hn.below hb0));have HW0:=zh hW0;have HB0:=zh hb0;clear hn hd hW0 hb0;go_enter Tryz.func90,Tryz.ntmps90;go_wp2_with fail;rw[<-HW0.out];refine HBD.out.mono ?_;rintro e w1 ⟨rfl,hb1⟩;have HB1:=zh (HB0.out.trans (hb1.mono HB0.out.size));clear hb1;go_wp2_with fail;go_ret;exact⟨ret_bool (decide_eq_decide.2 bl_pos),HB1.out⟩
theorem norm_u{x y n m s:Nat}(hy:(limbs y).length=n+2)(hx:(limbs x).length=n+1+m):x*2 ^ s<y*2 ^ s*4294967296 ^ m:=by
 have h1:=nv_lt (lim_limbs x);have h2:=nv_ge (top_limbs y) (by intro e;rw[e] at hy;simp at hy);rw[nv_limbs,hx,Nat.pow_add] at h1;rw[nv_limbs,hy] at h2;have h3:x<y*4294967296 ^ m:=zM h1 (Nat.mul_le_mul_right _ h2);rw[Nat.mul_right_comm];exact Nat.mul_lt_mul_of_pos_right h3 (Nat.pow_pos (by omega))
theorem ndivL_any(va vb:Value)(x y:Nat)(w:World)(ha:LS w (Bl w.heap.size) va (limbs x))(hb:LS w (Bl w.heap.size) vb (limbs y))(hy:0<y)(hx1:(limbs x).length<=600)(hy1:(limbs y).length<=600) :
  Calls Tryz.prog 161 #[va,vb] w fun e w'=>∃q r,e=.returned (.tuple #[q,r])/\LS w' (Fr w.heap.size w'.heap.size) q (limbs (x / y))/\LS w' (Fr w.heap.size w'.heap.size) r (limbs (x % y))/\Below w.heap.size w w':=by
 have HC:=zh (ncmpL_any va vb (limbs x) (limbs y) _ _ w ha hb (by omega) (by omega));rw[nv_limbs,nv_limbs] at HC;have HA:=zh ha;have HB:=zh hb;have HX1:=zh (And.intro hx1 hy1);clear hx1 hy1;go_enter Tryz.func161,Tryz.ntmps161;go_wp2_with fail;refine HC.out.mono ?_;rintro e w2 ⟨rfl,k2,rfl⟩;have hb2:Below w.heap.size w (w.drewN k2):=Below.drewN' (zB _ _) k2;obtain⟨W2,hW2⟩:=zx (w.drewN k2);rw[<-hW2] at hb2 ⊢;have HB2:=zh hb2;have HA2:=zh (HA.out.below hb2);have HBB2:=zh (HB.out.below hb2);clear hb2 hW2 ha hb;by_cases hlt:x<y
 ·have q1:cmpI x y = -1:=if_pos hlt;rw[q1];have HD:=zh (show x / y=0/\x % y=x from⟨Nat.div_eq_of_lt hlt,Nat.mod_eq_of_lt hlt⟩);clear hlt q1;go_wp2_with fail;refine(ntrim_any va _ _ _ HA2.out (fun b h=>h) (by have:=HX1.out.1;omega)).mono ?_;rintro e w3 ⟨u,rfl,hO,hb2⟩;rw[trim_of_top (top_limbs x)] at hO;have HO:=zh ((hO.ls (lim_limbs x)).mono (Fr.wider HB2.out.size (zR _)));have hbz:=HB2.out.trans (hb2.mono HB2.out.size);clear hO hb2;go_wp2_with fail;go_ret2;exact⟨_,_,rfl,by rw[HD.out.1,limbs_zero];exact LS.nil _ _,by rw[HD.out.2];exact HO.out,hbz⟩
 ·have hxp:0<x:=by omega
  have q1:¬cmpI x y<0:=by unfold cmpI;rw[if_neg hlt];split <;> omega
  obtain⟨C,hC⟩:=zx (cmpI x y);rw[<-hC] at q1 ⊢;have HXY:=zh hlt;have hly:=(limbs_snoc hy)
  have hl0:0<(limbs y).length:=by obtain⟨m,t,e,-⟩:=hly;rw[e];simp
  obtain⟨B,d,rfl,-,-⟩:=HBB2.out.form;obtain⟨b2,o2,rfl,hR2,hc2⟩:=HBB2.out.reads hl0;clear hly hC hlt;by_cases h1:(limbs y).length=1
  ·have hy32:y<4294967296:=limbs_len1.1 (by omega)
   have ey:limbs y=[y]:=by rw[limbs_small hy32,natL_pos hy]
   have k0:=hc2 0 y (by rw[ey];rfl) W2 rfl;rw[Nat.add_zero] at k0;have hS:=nshortL_any va (limbs x) y _ W2 HA2.out (fun b h=>h) (by have:=HX1.out.1;omega) (by obtain⟨m,t,e,-⟩:=limbs_snoc hxp;rw[e];simp) hy hy32;rw[nv_limbs] at hS;have HS:=zh hS;rw[h1];clear hS hc2 hl0 h1 ey;go_wp2_with fail;refine HS.out.mono ?_;rintro e w3 ⟨u,rfl,hu,hb3⟩;have hmd:x % y<4294967296:=Nat.lt_trans (Nat.mod_lt _ hy) hy32;have HM:=zh (fun w=>nmake_any (x % y) w hmd);have HB3:=zh (HB2.out.trans (hb3.mono HB2.out.size));obtain⟨M,hM⟩:=zx (x % y);rw[<-hM] at HM hmd ⊢;have HMM:=zh (And.intro hM hmd);have HU:=zh (hu.mono (Fr.wider HB2.out.size (zR _)))
   have q2:(0:Int)<=(M:Int):=by omega
   have q3:(M:Int)<4294967296:=by omega
   clear hu hb3 hM hmd;go_wp2_with fail;refine(HM.out _).mono ?_;rintro e w4 ⟨u4,rfl,hu4,hb4⟩;have HU4:=zh (hu4.mono (Fr.wider HB3.out.size (zR _)));have HU3:=zh (HU.out.bel hb4);have HB4:=zh (HB3.out.trans (hb4.mono HB3.out.size));clear hu4 hb4;go_wp2_with fail;go_ret2;exact⟨_,_,rfl,HU3.out,by rw[<-HMM.out.1,limbs_small HMM.out.2];exact HU4.out,HB4.out⟩
  ·obtain⟨n,hn⟩:∃n,(limbs y).length=n+2:=⟨(limbs y).length-2,by omega⟩;obtain⟨NN,hNN⟩:=zx (n+2)
   have hln:(limbs x).length≥NN:=by
    rcases Nat.lt_or_ge (limbs x).length NN with h | h
    ·exfalso
     have h2:=nv_lt (lim_limbs x);have h3:=nv_ge (top_limbs y) (by intro e;rw[e] at hn;simp at hn);rw[nv_limbs] at h2 h3;have h4:4294967296 ^ (limbs x).length<=4294967296 ^ ((limbs y).length-1):=Nat.pow_le_pow_right (by omega) (by omega);have:=HXY.out;omega
    ·exact h
   obtain⟨m,hm⟩:∃m,(limbs x).length=n+1+m:=⟨(limbs x).length-(n+1),by omega⟩;obtain⟨L,hL⟩:=zx ((limbs x).length+1);obtain⟨bt,hbt⟩:=zx ((limbs y)[n+1]'(by omega))
   have hb1:(limbs y)[n+1]?=some bt:=by rw[hbt];exact zG _
   have kb:=hc2 (n+1) bt hb1 W2 rfl;have hbl:bt<4294967296:=lim_limbs y bt (List.mem_of_getElem? hb1)
   have hbp:0<bt:=by
    have h:=top_limbs y bt (by rw[List.getLast?_eq_getElem?,hn];exact hb1);omega
   have HBT:=zh hb1;have HN:=zh (show(limbs y).length=n+2/\NN=n+2/\(limbs x).length=n+1+m/\L=(limbs x).length+1/\1<=m/\NN<=600/\L<=601/\m+NN=L from⟨hn,hNN,hm,hL,by omega,by have:=HX1.out.2;omega,by have:=HX1.out.1;omega,by omega⟩);rw[hn,<-hNN] at HBB2 ⊢;have q2:((NN:Int)==1)=false:=beq_eq_false_iff_ne.2 (by omega)
   have s1:IntKind.i64.wrap ((NN:Int)-1)=((n+1:Nat):Int):=by rw[show(NN:Int)-1=((n+1:Nat):Int) by omega];exact zI _ (by have:=HX1.out.2;omega)
   have n0:(0:Int)<=((n+1:Nat):Int):=by omega
   have n1:((n+1:Nat):Int)<(NN:Int):=by omega
   obtain⟨N1,hN1⟩:=zx (n+1);rw[<-hN1] at s1 n0 n1 kb;have HN1:=zh hN1;clear hc2 hl0 h1 hn hNN hm hL hbt hb1 hln hN1;go_wp2_with fail;go_loopg [8] 32 (fun z v8 wr=>wr=W2/\∃s:Nat,z=0+(32-s)/\s<32/\v8=.int .u64 (s:Int)/\Hid (bt*2 ^ s<4294967296))
   case atStart=>exact⟨rfl,0,rfl,by omega,rfl,by rw[Nat.pow_zero,Nat.mul_one];exact hbl⟩
   case round =>
    obtain⟨rfl,s,rfl,hs,rfl,HS⟩:=hrel
    have s0:(0:Int)<=(s:Int):=by omega
    have s32:(s:Int)<32:=by omega
    have e1:(bt:Int)*2 ^ s=((bt*2 ^ s:Nat):Int):=by rw[Int.natCast_mul,Int.natCast_pow];rfl
    have hsh:IntKind.u32.wrap ((bt:Int)*2 ^ s)=((bt*2 ^ s:Nat):Int):=by rw[e1];exact IntWalk.u32_in _ (by have:=HS.out;omega)
    obtain⟨Y,hY⟩:=zx (bt*2 ^ s);rw[<-hY] at hsh e1;by_cases hlt:Y<2147483648
    ·have i1:(Y:Int)<2147483648:=by omega
     have hs31:s<31:=by
      rcases Nat.lt_or_ge s 31 with h | h
      ·exact h
      ·exfalso
       have:2 ^ 31<=2 ^ s:=Nat.pow_le_pow_right (by omega) h;have:=Nat.mul_le_mul hbp this;omega
     have HS2:=zh (show bt*2 ^ (s+1)<4294967296 from by rw[Nat.pow_succ,<-Nat.mul_assoc,<-hY];omega);clear hlt hY HS;go_wp2_with fail;go_roundg (32-(s+1))
     case measure=>omega
     case rel=>exact⟨rfl,s+1,by omega,by omega,by go_num,HS2⟩
    ·have i1:decide ((Y:Int)<2147483648)=false:=decide_eq_false (by omega);have HS2:=zh (show 2147483648<=bt*2 ^ s/\bt*2 ^ s<4294967296/\s<32 from⟨by rw[<-hY];omega,HS.out,hs⟩);clear hlt hY HS hs hbl hbp e1;go_upto_region 9 with fail;have HUP:=zh (fun w' hb=>nup_any va (limbs x) s _ w' (HA2.out.below hb) (fun b h=>h) (by have:=HN.out;omega) (by have:=HN.out;omega) HS2.out.2.2);have HVP:=zh (fun w' hb=>nup_any (.slice (some ⟨b2,o2,none⟩) NN d) (limbs y) s _ w' (HBB2.out.below hb) (fun b h=>h) (by have:=HN.out;omega) (by have:=HN.out;omega) HS2.out.2.2);have e9:(limbs x).length+1=L:=HN.out.2.2.2.1.symm;obtain⟨NV,hNV⟩:=zx (NN+1)
     have e10:(limbs y).length+1=NV:=by have:=HN.out;omega
     have v1:(NN:Int)<=(NV:Int):=by omega
     have HNV:=zh hNV;rw[e9] at HUP;rw[e10] at HVP;clear e9 e10 hNV;refine region_tail (S:=(fun(w':World)=>Below wr.heap.size wr w')) [] (by kernel_rfl) (zB _ _).drew (fun hHeld=>?_);refine tk 0 53 ?_;refine tk 1 54 ?_;refine tk 3 56 ?_;refine tk 4 57 ?_;refine tk 6 59 ?_;refine tk 7 60 ?_;refine rd1 2 (fun K hK=>?_);go_simp
     (refine(HUP.out _ (zB _ _).drew).mono ?_;rintro e w5 ⟨gU,U0,rfl,hrU,hgU,hlU,hmU,hnU,hb5⟩;have HB5:=zh (show Below wr.heap.size wr w5 from((zB _ _).drew:Below wr.heap.size wr wr.drew).trans hb5);have HU0:=zh (show RowU w5 gU U0/\wr.heap.size<=gU/\U0.length=L/\Lim U0/\nv U0=x*2 ^ s from⟨hrU,hgU,hlU,hmU,by rw[hnU,nv_limbs]⟩);clear hb5 hrU hgU hlU hmU hnU)
     go_wp2_with fail;refine hK.out _ _ ?_ (fun hHeld=>?_)
     ·exact HB5.out
     clear hK K;(try simp only[Act.put,z1,z2,z3]);refine rd1 5 (fun K hK=>?_);go_simp
     (refine(HVP.out _ HB5.out).mono ?_;rintro e w6 ⟨gV,O,rfl,hrV,hgV,hlV,hmV,hnV,hb6⟩;have HB6:=zh (show Below wr.heap.size wr w6 from HB5.out.trans (hb6.mono HB5.out.size));have HV0:=zh (show RowU w6 gV O/\w5.heap.size<=gV/\O.length=n+3/\Lim O/\nv O=y*2 ^ s from⟨hrV,hgV,by rw[hlV];have:=HN.out;have:=HNV.out;omega,hmV,by rw[hnV,nv_limbs]⟩);have HU6:=zh (HU0.out.1.below hb6);have HUV:=zh (show gU<w5.heap.size from HU0.out.1.lt);clear hb6 hrV hgV hlV hmV hnV)
     go_wp2_with fail;refine hK.out _ _ ?_ (fun hHeld=>?_)
     ·exact HB6.out
     clear hK K;(try simp only[Act.put,z1,z2,z3]);refine tk 8 61 ?_;refine tk 9 9 ?_;refine tk 10 10 ?_;refine doneT (by kernel_rfl) ?_ _;clear hHeld;obtain⟨hV1,vl,next,top,eV,hvl,hnx,htp1,htp2⟩:=norm_v HN.out.1 HBT.out HS2.out.2.2 HS2.out.1 HS2.out.2.1 HV0.out.2.2.2.1 HV0.out.2.2.1 HV0.out.2.2.2.2;have hlsV:=(HV0.out.1.ls (R:=fun b=>b=gV) rfl HV0.out.2.2.2.1 (by rw[HV0.out.2.2.1];have:=HN.out;unfold maxLen;omega)).take (n+2) NV (by rw[HV0.out.2.2.1];omega) (by have:=HNV.out;have:=HN.out;omega) (by have:=HNV.out;have:=HN.out;unfold maxLen;omega) (by rw[HV0.out.2.2.1];omega);obtain⟨V,hV⟩:=zx (O.take (n+2));rw[<-hV] at hV1 eV hlsV;rw[<-HN.out.2.1] at hlsV;have hVlim:=hlsV.lim
     have hVln:V.length=NN:=by rw[eV,zP,hvl,HN.out.2.1];rfl
     obtain⟨b3,o3,e3,rfl,hcV⟩:=hlsV.reads (by rw[hVln];have:=HN.out;omega);obtain⟨-,e4,-⟩:=Addr.mk.inj (Option.some.inj e3);subst e4;have hgV:b3<w6.heap.size:=HV0.out.1.lt;have HVV:=zh (show V=vl++[next,top]/\vl.length=n/\next<4294967296/\2147483648<=top/\top<4294967296/\nv V=y*2 ^ s/\Lim V/\V.length=NN from⟨eV,hvl,hnx,htp1,htp2,hV1,hVlim,hVln⟩);have HLV:=zh hlsV;have HGV:=zh (show gU<b3/\b3<w6.heap.size from⟨zM HUV.out HV0.out.2.1,hgV⟩);have hmk:=mk_u32n m (by have:=HN.out;omega);obtain⟨W7,hW7⟩:=zx (w6.alloc (.cells (Array.replicate m (.int .u32 0)) 107));obtain⟨gQ,hgQ⟩:=zx w6.heap.size
     have hrQ:RowU W7 gQ (List.replicate m 0):=by rw[hW7,hgQ];exact RowU.new w6 m
     have hb7:Below w6.heap.size w6 W7:=by rw[hW7];exact(zB _ _).alloc (zR _) _
     have HB7:=zh hb7;have HRQ:=zh hrQ;have HGQ:=zh hgQ;have HW7:=zh hW7;have c1:=hcV (n+1) top (by rw[eV,<-hvl];simp) W7 (hb7.block _ hgV);have c0:=hcV n next (by rw[eV,<-hvl];simp) W7 (hb7.block _ hgV);rw[Nat.zero_add] at c0 c1;rw[<-HN1.out] at c1
     have s2:IntKind.i64.wrap ((NN:Int)-2)=(n:Int):=by rw[show(NN:Int)-2=(n:Int) by have:=HN.out;omega];exact zI _ (by have:=HN.out;omega)
     have s3:IntKind.i64.wrap ((L:Int)-(NN:Int))=(m:Int):=by rw[show(L:Int)-(NN:Int)=(m:Int) by have:=HN.out;omega];exact zI _ (by have:=HN.out;omega)
     have t1:IntKind.u64.wrap (top:Int)=(top:Int):=IntWalk.u64_in _ (by have:=HVV.out;omega);have t2:IntKind.u64.wrap (next:Int)=(next:Int):=IntWalk.u64_in _ (by have:=HVV.out;omega);have s4:IntKind.i64.wrap ((m:Int)-1)=(m:Int)-1:=zI _ (by have:=HN.out;omega)
     have i0:(n:Int)<(NN:Int):=by have:=HN.out;omega
     clear hlsV hV hV1 eV hvl hnx htp1 htp2 hVlim hVln e3 hcV hgV hW7 hgQ hrQ hb7 hsh;go_upto_region 12 with fail;rw[<-HW7.out,<-HGQ.out];clear hmk
     go_quiet (fail)
     obtain⟨W8,hW8⟩:=zx (W7.drewN nq);rw[<-hW8];have HR8:=zh (show RowU W8 gQ (List.replicate m 0) from by rw[hW8];exact HRQ.out);have HB8:=zh (show Below wr.heap.size wr W8 from by rw[hW8];exact Below.drewN' (HB6.out.trans (HB7.out.mono HB6.out.size)) _);have HU8:=zh (show RowU W8 gU U0 from HU6.out.of (by rw[hW8];exact HB7.out.block gU HU6.out.lt));have HLV8:=zh (show LS W8 (fun b=>b=b3) (.slice (some ⟨b3,0,none⟩) NN NV) V from HLV.out.keep (fun b hb=>by rw[hW8,hb];exact HB7.out.block b3 HGV.out.2));have HGG:=zh (show wr.heap.size<=gU/\gU<b3/\b3<gQ/\gQ<W8.heap.size from⟨HU0.out.2.1,HGV.out.1,by rw[HGQ.out];exact HGV.out.2,HR8.out.lt⟩);clear hW8 c0 c1 s2 i0 n0 n1 s1 s3;go_upto_region 14 with fail;obtain⟨XS,hXS⟩:=zx (x*2 ^ s);obtain⟨YS,hYS⟩:=zx (y*2 ^ s);have HXS:=zh (And.intro hXS hYS);rw[<-hYS] at HVV;rw[<-hXS] at HU0;have HNU:=zh (show XS<YS*4294967296 ^ m from by rw[hXS,hYS];exact norm_u HN.out.1 HN.out.2.2.1);have HYS:=zh (show 0<YS/\YS<=4294967296 ^ NN from⟨by rw[hYS];exact Nat.mul_pos hy (Nat.pow_pos (by omega)),by rw[<-HVV.out.2.2.2.2.2.1];have:=nv_lt HVV.out.2.2.2.2.2.2.1;rw[HVV.out.2.2.2.2.2.2.2] at this;omega⟩);have hY0:=zh hy;clear hXS hYS hy hxp;go_loopg [15] m (fun z v15 wk=>v15=.int .i64 ((z:Int)-1)/\z<=m/\Hid (HotBy [some gU,some gQ] W8 wk)/\Hid (∃U Q,RowU wk gU U/\U.length=L/\Lim U/\RowU wk gQ Q/\Q.length=m/\Lim Q/\XS=nv (Q.drop z)*4294967296 ^ z*YS+nv U/\nv U<YS*4294967296 ^ z))
     case atStart=>exact⟨rfl,zR _,HotBy.refl _ _,zh ⟨U0,List.replicate m 0,HU8.out,HU0.out.2.2.1,HU0.out.2.2.2.1,HR8.out,List.length_replicate,fun x hx=>by rw[(List.mem_replicate.1 hx).2];omega,by rw[List.drop_of_length_le (by rw[List.length_replicate];exact zR _),HU0.out.2.2.2.2];simp[nv],by rw[HU0.out.2.2.2.2];exact HNU.out⟩⟩
     case round =>
      obtain⟨rfl,hz,HH,HI⟩:=hrel;obtain⟨U,Q,hrU,hUl,hUm,hrQ,hQl,hQm,hI,hJ⟩:=HI.out;have HR:=zh (show RowU wr gU U/\U.length=L/\Lim U/\RowU wr gQ Q/\Q.length=m/\Lim Q from⟨hrU,hUl,hUm,hrQ,hQl,hQm⟩);have HIJ:=zh (And.intro hI hJ);clear hrU hUl hUm hrQ hQl hQm hI hJ HI;rcases Nat.eq_zero_or_pos gk with h0 | h0
      ·subst h0;rw[show(((0:Nat):Int)-1) = -1 from rfl];have hI:=HIJ.out.1;have hJ:=HIJ.out.2;rw[Nat.pow_zero,Nat.mul_one,List.drop_zero,HXS.out.1,HXS.out.2] at hI;rw[Nat.pow_zero,Nat.mul_one] at hJ;have hend:=div_end hY0.out hI (by rw[<-HXS.out.2];exact hJ)
       have hUd:nv (U.drop NN)=0:=by
        have h1:=nv_take U NN;rw[Nat.min_eq_left (by rw[HR.out.2.1];have:=HN.out;omega)] at h1;rcases Nat.eq_zero_or_pos (nv (U.drop NN)) with h | h
        ·exact h
        ·have:=Nat.mul_le_mul_left (4294967296 ^ NN) h;have:=HYS.out.2;omega
       have HEND:=zh (And.intro hend hUd);have hmk:=mk_u32n NN (by have:=HN.out;omega);obtain⟨W9,hW9⟩:=zx wr;rw[<-hW9] at HH HR ⊢;clear hI hJ hend hUd hz hW9 s4 v1;obtain⟨W10,hW10⟩:=zx (W9.alloc (.cells (Array.replicate NN (.int .u32 0)) 107));obtain⟨gR,hgR⟩:=zx W9.heap.size
       have hb10:Below W9.heap.size W9 W10:=by rw[hW10];exact(zB _ _).alloc (zR _) _
       have HRR:=zh (show RowU W10 gR (List.replicate NN 0) from by rw[hW10,hgR];exact RowU.new W9 NN);have HR10:=zh (show RowU W10 gU U/\U.length=L/\Lim U/\RowU W10 gQ Q/\Q.length=m/\Lim Q from⟨HR.out.1.below hb10,HR.out.2.1,HR.out.2.2.1,HR.out.2.2.2.1.below hb10,HR.out.2.2.2.2⟩);have HH10:=zh (show HotBy [some gU,some gQ] W8 W10 from HH.out.trans (HotBy.below hb10));have HGR:=zh (show gU<gR/\gQ<gR/\gR<W10.heap.size/\W8.heap.size<=gR from⟨by rw[hgR];exact HR.out.1.lt,by rw[hgR];exact HR.out.2.2.2.1.lt,HRR.out.lt,by rw[hgR];exact HH.out.size⟩);have HW10:=zh (And.intro hW10 hgR)
       have S0:(0:Int)<=(s:Int):=by omega
       clear hW10 hgR hb10;go_upto_region 27 with fail;rw[<-HW10.out.1,<-HW10.out.2];clear hmk
       have nn1000:(NN:Int)<=1000:=by have:=HN.out;omega
       go_wp2_with fail;go_loopg [167] NN (fun z v167 wk=>∃(i:Nat) (R:List Nat),i<=NN/\z=NN-i/\v167=.int .i64 (i:Int)/\Hid (HotBy [some gR] W10 wk)/\Hid (RowU wk gR R/\R.length=NN/\Lim R/\nv U / 2 ^ s=nv (R.take i)+4294967296 ^ i*(nv (U.drop i) / 2 ^ s)))
       case atStart=>exact⟨0,List.replicate NN 0,Nat.zero_le _,rfl,rfl,HotBy.refl _ _,zh ⟨HRR.out,List.length_replicate,fun x hx=>by rw[(List.mem_replicate.1 hx).2];omega,by simp[nv]⟩⟩
       case round =>
        obtain⟨i,R,hi,rfl,rfl,HHR,HRI⟩:=hrel;obtain⟨W11,hW11⟩:=zx wr;rw[<-hW11] at HHR HRI ⊢;clear hW11;by_cases hlt:i<NN
        ·have hrU:=HR10.out.1.of (HHR.out.block gU HR10.out.1.lt (by simp;have:=HGR.out;omega))
         have hiU:i<U.length:=by rw[HR10.out.2.1];have:=HN.out;omega
         have hiU1:i+1<U.length:=by rw[HR10.out.2.1];have:=HN.out;omega
         obtain⟨u0,hu0⟩:=zx (U[i]);obtain⟨u1,hu1⟩:=zx (U[i+1])
         have g0:U[i]?=some u0:=by rw[hu0];exact zG _
         have g1:U[i+1]?=some u1:=by rw[hu1];exact zG _
         have b0:=HR10.out.2.2.1 u0 (List.mem_of_getElem? g0);have b1:=HR10.out.2.2.1 u1 (List.mem_of_getElem? g1);have k0:=hrU.cell g0;have k1:=hrU.cell g1;obtain⟨kg,kf⟩:=HRI.out.1.at_ (k:=i) (by rw[HRI.out.2.1];exact hlt);have hor:=or_limb u1 u0 b1 b0;have w7:IntKind.u64.wrap ((u1:Int)*4294967296)=(u1:Int)*4294967296:=IntWalk.u64_in _ (by omega);have t4:IntKind.u64.wrap (u0:Int)=(u0:Int):=IntWalk.u64_in _ (by omega);have t5:IntKind.u64.wrap (u1:Int)=(u1:Int):=IntWalk.u64_in _ (by omega);obtain⟨Z,hZ⟩:=zx ((u1*4294967296+u0) / 2 ^ s % 4294967296);have hst:=down_step (R:=R) g0 g1 HS2.out.2.2 (by rw[HRI.out.2.1];exact hlt) b0 hZ HRI.out.2.2.2;obtain⟨T,hT⟩:=zx (u1*4294967296+u0);rw[<-hT] at hor hZ
         have hsr:(T:Int) / 2 ^ s=((T / 2 ^ s:Nat):Int):=by rw[Int.natCast_ediv,Int.natCast_pow];rfl
         obtain⟨Y,hY⟩:=zx (T / 2 ^ s);rw[<-hY] at hsr hZ
         have hzm:IntKind.u32.wrap (Y:Int)=(Z:Int):=by rw[IntKind.wrap_u32];omega
         have hy64:IntKind.u64.wrap (Y:Int)=(Y:Int):=IntWalk.u64_in _ (by have:=Nat.div_le_self T (2 ^ s);omega)
         have hZ32:Z<4294967296:=by omega
         obtain⟨W12,hW12⟩:=zx ((W11.setCell ⟨gR,i,none⟩ (.int .u32 (Z:Int))).drew)
         have HR12:=zh (show RowU W12 gR (R.set i Z)/\(R.set i Z).length=NN/\Lim (R.set i Z)/\nv U / 2 ^ s=nv ((R.set i Z).take (i+1))+4294967296 ^ (i+1)*(nv (U.drop (i+1)) / 2 ^ s) from⟨by rw[hW12];exact(HRI.out.1.set i Z).of rfl,by rw[List.length_set];exact HRI.out.2.1,fun x hx=>by
          rcases List.mem_or_eq_of_mem_set hx with h | h
          ·exact HRI.out.2.2.1 x h
          ·rw[h];exact hZ32,hst⟩)
         have HH12:=zh (show HotBy [some gR] W10 W12 from by rw[hW12];exact(HHR.out.trans (HotBy.setCell _ _ _ _ (by simp))).drew);have HW12:=zh hW12
         have i1:(i:Int)<(NN:Int):=by omega
         have i2:(i:Int)+1<(L:Int):=by have:=HN.out;omega
         have i3:(i:Int)<(L:Int):=by have:=HN.out;omega
         have HLT:=zh hlt;obtain⟨I1,hI1⟩:=zx (i+1);rw[<-hI1] at k1
         have a4:IntKind.i64.wrap ((i:Int)+1)=(I1:Int):=by rw[hI1];exact zI _ (by have:=HN.out;omega)
         have i4:(I1:Int)<(L:Int):=by rw[hI1];exact i2
         have HI1:=zh hI1;clear i2 hI1 hrU hiU hiU1 hu0 hu1 g0 g1 b0 b1 hst hT hY hZ hZ32 hW12 hlt;go_upto_region 30 with fail;refine region_tail (S:=(fun(w':World)=>w'.cell? ⟨gU,I1,none⟩=some (.int .u32 (u1:Int))/\w'.cell? ⟨gU,i,none⟩=some (.int .u32 (u0:Int)))) [19] (by kernel_rfl) (And.intro k1 k0) (fun hHeld=>?_);refine tk 0 170 ?_;refine tk 1 171 ?_;refine tk 2 172 ?_;refine tk 3 173 ?_;refine tk 4 174 ?_;refine tk 5 175 ?_;refine tk 6 176 ?_;refine tk 7 177 ?_;refine tk 8 178 ?_;refine tk 9 179 ?_;refine tk 10 180 ?_;refine tk 11 181 ?_;refine tk 12 182 ?_;refine tk 13 183 ?_;refine tk 14 184 ?_;refine tk 15 185 ?_;refine tk 16 186 ?_;refine tk 17 187 ?_;refine tk 18 188 ?_;refine rd1T 19 (fun K hK=>?_);go_simp;refine hK.out _ _ ?_;clear hK K;(try simp only[Act.put,z1,z2,z3]);refine doneT (by kernel_rfl) ?_ _;clear hHeld;rw[<-HW12.out];go_wp2_with fail;go_roundg (NN-(i+1))
         case measure=>have:=HLT.out;omega
         case rel=>exact⟨i+1,R.set i Z,HLT.out,rfl,by rw[HI1.out],HH12,HR12⟩
        ·have hie:NN=i:=by omega
         subst hie
         have hRn:nv R=x % y:=by
          have h:=HRI.out.2.2.2;rw[HEND.out.2,Nat.zero_div,Nat.mul_zero,Nat.add_zero,List.take_of_length_le (by rw[HRI.out.2.1];exact zR _)] at h;rw[<-h];exact HEND.out.1.2
         have hrQ:=HR10.out.2.2.2.1.of (HHR.out.block gQ HR10.out.2.2.2.1.lt (by simp;have:=HGR.out;omega));have hszw:w.heap.size<=W8.heap.size:=Nat.le_trans (Nat.le_trans HB2.out.size HB8.out.size) (zR _);have hls1:=hrQ.ls (R:=Fr w.heap.size W11.heap.size) ⟨Nat.le_trans HB2.out.size (by have:=HGG.out;omega),hrQ.lt⟩ HR10.out.2.2.2.2.2 (by rw[HR10.out.2.2.2.2.1];have:=HN.out;unfold maxLen;omega);have hls2:=HRI.out.1.ls (R:=Fr w.heap.size W11.heap.size) ⟨Nat.le_trans hszw HGR.out.2.2.2,HRI.out.1.lt⟩ HRI.out.2.2.1 (by rw[HRI.out.2.1];have:=HN.out;unfold maxLen;omega);have HLQ:=zh (fun k=>nlength_any _ _ _ (W11.drewN k) hls1 (by rw[HR10.out.2.2.2.2.1];have:=HN.out;omega));have HLR:=zh (fun k=>nlength_any _ _ _ (W11.drewN k) hls2 (by rw[HRI.out.2.1];have:=HN.out;omega));have ht1:=hls1.trim (by rw[HR10.out.2.2.2.2.1];have:=HN.out;omega);have ht2:=hls2.trim (by rw[HRI.out.2.1];have:=HN.out;omega);rw[<-limbs_nv HR10.out.2.2.2.2.2,HEND.out.1.1] at ht1;rw[<-limbs_nv HRI.out.2.2.1,hRn] at ht2;have hlt1:=trimL_length Q;have hlt2:=trimL_length R;rw[<-limbs_nv HR10.out.2.2.2.2.2,HEND.out.1.1,HR10.out.2.2.2.2.1] at hlt1;rw[<-limbs_nv HRI.out.2.2.1,hRn,HRI.out.2.1] at hlt2;rw[<-limbs_nv HR10.out.2.2.2.2.2,HEND.out.1.1] at HLQ;rw[<-limbs_nv HRI.out.2.2.1,hRn] at HLR;rw[HR10.out.2.2.2.2.1] at HLQ ht1;rw[HRI.out.2.1] at HLR ht2;obtain⟨T1,hT1⟩:=zx ((limbs (x / y)).length);obtain⟨T2,hT2⟩:=zx ((limbs (x % y)).length);rw[<-hT1] at HLQ ht1 hlt1;rw[<-hT2] at HLR ht2 hlt2;have HT1:=zh ht1;have HT2:=zh ht2
         have HBZ:=zh (show Below w.heap.size w W11 from by
          have h1:Below w.heap.size w W8:=HB2.out.trans (HB8.out.mono HB2.out.size);have h2:HotBy [some gU,some gQ] W8 W10:=HH10.out;have h3:HotBy [some gR] W10 W11:=HHR.out
          exact⟨h3.os.trans (h2.os.trans h1.os),h3.tape.trans (h2.tape.trans h1.tape),h3.output.trans (h2.output.trans h1.output),Nat.le_trans h1.size (Nat.le_trans h2.size h3.size),fun b hb=>by
           have hb2:b<W8.heap.size:=zM hb h1.size;have hbU:w.heap.size<=gU:=Nat.le_trans HB2.out.size HGG.out.1;rw[h3.block b (zM hb2 h2.size) (by simp;have:=HGR.out;omega),h2.block b hb2 (by simp;have:=HGG.out;omega)]
           exact h1.block b hb⟩)
         have q1:(T1:Int)<=(m:Int):=by omega
         have q3:(T2:Int)<=(NN:Int):=by omega
         clear hRn hrQ hszw hls1 hls2 ht1 ht2 hlt1 hlt2 hT1 hT2 hlt hi;go_upto_region 32 with fail
         go_quiet (first | with_reducible exact Calls.quiet_of_same ((HLQ.out _).mono fun _ _ h=>⟨h.1,h.2.symm⟩) | with_reducible exact Calls.quiet_of_same ((HLR.out _).mono fun _ _ h=>⟨h.1,h.2.symm⟩))
         go_wp2_with fail;go_ret2;exact⟨_,_,rfl,HT1.out,HT2.out,Below.drewN' HBZ.out _⟩
      ·obtain⟨j,rfl⟩:∃i,gk=i+1:=⟨gk-1,by omega⟩
       have e0:(((j+1:Nat):Int)-1)=(j:Int):=by omega
       rw[e0]
       have hjL:j+NN+1<=L:=by have:=HN.out;omega
       have hwin:=div_win (by rw[HR.out.2.1];exact hjL) HYS.out.2 HIJ.out.2
       have hdl:(U.drop j).length=L-j:=by rw[List.length_drop,HR.out.2.1]
       obtain⟨u0,hu0⟩:=zx (U[j+NN]'(by rw[HR.out.2.1];omega));obtain⟨u1,hu1⟩:=zx (U[j+N1]'(by rw[HR.out.2.1];have:=HN.out;have:=HN1.out;omega));obtain⟨u2,hu2⟩:=zx (U[j+n]'(by rw[HR.out.2.1];have:=HN.out;omega))
       have g0:U[j+NN]?=some u0:=by rw[hu0];exact zG _
       have g1:U[j+N1]?=some u1:=by rw[hu1];exact zG _
       have g2:U[j+n]?=some u2:=by rw[hu2];exact zG _
       have b0:=HR.out.2.2.1 u0 (List.mem_of_getElem? g0);have b1:=HR.out.2.2.1 u1 (List.mem_of_getElem? g1);have bb2:=HR.out.2.2.1 u2 (List.mem_of_getElem? g2)
       have ew:win U j (NN+1)=win U j n++[u2,u1,u0]:=by
        rw[win_succ g0,HN.out.2.1,show n+2=n+1+1 from rfl,win_succ (by rw[<-HN1.out];exact g1),win_succ g2];simp
       have hwl:Lim (win U j n):=(HR.out.2.2.1.drop j).take n;have hwln:(win U j n).length=n:=win_len (by rw[HR.out.2.1];have:=HN.out;omega);have hdig:=dig_of (ul:=win U j n) (vl:=vl) (u2:=u2) (u1:=u1) (u0:=u0) (next:=next) (top:=top) hwl (fun x hx=>HVV.out.2.2.2.2.2.2.1 x (by rw[HVV.out.1];exact List.mem_append.2 (.inl hx))) (by rw[hwln,HVV.out.2.1]) HVV.out.2.2.1 (by have:=HVV.out;omega);rw[<-ew,<-HVV.out.1,HVV.out.2.2.2.2.2.1] at hdig;obtain⟨DD,hDD⟩:=zx (nv (win U j (NN+1)));rw[<-hDD] at hdig hwin;obtain⟨hd,hhd⟩:=zx (u0*4294967296+u1);rw[<-hhd] at hdig
       have hc:DD / YS<4294967296:=by rw[Nat.div_lt_iff_lt_mul HYS.out.1,Nat.mul_comm];exact hwin.1
       have hle:u0<=top:=by
        have h:=hwin.1;rw[hDD,<-HVV.out.2.2.2.2.2.1,ew,HVV.out.1,show win U j n++[u2,u1,u0]=(win U j n++[u2,u1])++[u0] by simp,show vl++[next,top]=(vl++[next])++[top] by simp] at h;exact top_le (fun x hx=>HVV.out.2.2.2.2.2.2.1 x (by rw[HVV.out.1,show vl++[next,top]=(vl++[next])++[top] by simp];exact List.mem_append.2 (.inl hx))) (by simp[hwln,HVV.out.2.1]) h
       have hfst:=Gs.first hdig bb2 (by have:=HVV.out;omega)
       have HDG:=zh hdig;have HDC:=zh (show DD / YS<4294967296/\DD=nv (win U j (NN+1))/\hd<top*4294967296+4294967296/\hd<18446744073709551616 from⟨hc,hDD,by rw[hhd];omega,by rw[hhd];omega⟩);have HFS:=zh hfst;have k0:=HR.out.1.cell g0;have k1:=HR.out.1.cell g1;have k2:=HR.out.1.cell g2;have hor:=or_limb u0 u1 b0 b1;rw[<-hhd] at hor
       have a0:IntKind.i64.wrap ((j:Int)+(NN:Int))=((j+NN:Nat):Int):=by rw[<-Int.natCast_add];exact zI _ (by have:=HN.out;omega)
       have a1:IntKind.i64.wrap (((j+NN:Nat):Int)-1)=((j+N1:Nat):Int):=by rw[show((j+NN:Nat):Int)-1=((j+N1:Nat):Int) by have:=HN.out;have:=HN1.out;omega];exact zI _ (by have:=HN.out;have:=HN1.out;omega)
       have a2:IntKind.i64.wrap (((j+NN:Nat):Int)-2)=((j+n:Nat):Int):=by rw[show((j+NN:Nat):Int)-2=((j+n:Nat):Int) by have:=HN.out;omega];exact zI _ (by have:=HN.out;omega)
       have a3:IntKind.i64.wrap (((j+NN:Nat):Int)+1)=((j+NN+1:Nat):Int):=by rw[show((j+NN:Nat):Int)+1=((j+NN+1:Nat):Int) by omega];exact zI _ (by have:=HN.out;omega)
       obtain⟨j0,hj0⟩:=zx (j+NN);obtain⟨j1,hj1⟩:=zx (j+N1);obtain⟨j2,hj2⟩:=zx (j+n);obtain⟨j3,hj3⟩:=zx (j+NN+1);rw[<-hj3,<-hj0] at a3;rw[<-hj0] at a0 a1 a2 k0;rw[<-hj1] at a1 k1;rw[<-hj2] at a2 k2;have HJS:=zh (show j0=j+NN/\j1=j+N1/\j2=j+n/\j3=j+NN+1/\j+NN+1<=L/\j<m from⟨hj0,hj1,hj2,hj3,hjL,by omega⟩)
       have i0:(j0:Int)<(L:Int):=by have:=HN.out;omega
       have i1:(j1:Int)<(L:Int):=by have:=HN.out;have:=HN1.out;omega
       have i2:(j2:Int)<(L:Int):=by have:=HN.out;omega
       have i3:(j3:Int)<=(L:Int):=by have:=HN.out;omega
       have i4:(j:Int)<=(j3:Int):=by omega
       have i5:(j:Int)<(m:Int):=by omega
       have p0:(0:Int)<=(j:Int):=by omega
       have t3:(0:Int)<(top:Int):=by have:=HVV.out;omega
       have t4:IntKind.u64.wrap (u0:Int)=(u0:Int):=IntWalk.u64_in _ (by omega);have t5:IntKind.u64.wrap (u1:Int)=(u1:Int):=IntWalk.u64_in _ (by omega);have t6:IntKind.u64.wrap (u2:Int)=(u2:Int):=IntWalk.u64_in _ (by omega);have t7:IntKind.u64.wrap ((u0:Int)*4294967296)=(u0:Int)*4294967296:=IntWalk.u64_in _ (by omega);have HB2:=zh (And.intro bb2 hle);obtain⟨W9,hW9⟩:=zx wr;rw[<-hW9] at HH HR k0 k1 k2 ⊢;clear hdl hu0 hu1 hu2 g0 g1 g2 b0 b1 bb2 ew hwl hwln hdig hDD hhd hc hle hfst hwin hj0 hj1 hj2 hj3 hjL h0 hz e0 hW9 s4 v1;go_upto_region 16 with fail
       go_quiet (fail)
       obtain⟨W10,hW10⟩:=zx (W9.drewN nq);rw[<-hW10];have HR10:=zh (show RowU W10 gU U/\U.length=L/\Lim U/\RowU W10 gQ Q/\Q.length=m/\Lim Q from⟨HR.out.1.of (by rw[hW10];rfl),HR.out.2.1,HR.out.2.2.1,HR.out.2.2.2.1.of (by rw[hW10];rfl),HR.out.2.2.2.2⟩);have HH10:=zh (show HotBy [some gU,some gQ] W8 W10 from by rw[hW10];exact HH.out.trans ⟨rfl,rfl,rfl,zR _,fun _ _ _=>rfl⟩)
       have k3:W10.cell? ⟨gU,j2,none⟩=some (.int .u32 (u2:Int)):=by rw[hW10];exact k2
       obtain⟨GG,hGG⟩:=zx (hd / top);obtain⟨RR,hRR⟩:=zx (hd % top)
       have r1:IntKind.u64.wrap ((hd:Int) / (top:Int))=(GG:Int):=by rw[hGG,<-Int.natCast_ediv];exact IntWalk.u64_in _ (by have:=HDC.out.2.2.2;have:=Nat.div_le_self hd top;omega)
       have r2:(hd:Int).tmod (top:Int)=(RR:Int):=by rw[hRR];exact rem_nat _ _
       have r3:(hd:Int) % (top:Int)=(RR:Int):=by rw[hRR];exact(Int.natCast_emod _ _).symm
       have HFS0:=zh (show Gs top hd (DD / YS) GG RR/\RR<top from by rw[hGG,hRR];exact⟨HFS.out,Nat.mod_lt _ (by have:=HVV.out;omega)⟩);clear k0 k1 k2 hW10 hGG hRR;go_upto_region 17 with fail
       go_quiet (fail)
       obtain⟨W11,hW11⟩:=zx (W10.drewN nq);rw[<-hW11];have HR11:=zh (show RowU W11 gU U/\U.length=L/\Lim U/\RowU W11 gQ Q/\Q.length=m/\Lim Q from⟨HR10.out.1.of (by rw[hW11];rfl),HR10.out.2.1,HR10.out.2.2.1,HR10.out.2.2.2.1.of (by rw[hW11];rfl),HR10.out.2.2.2.2⟩);have HH11:=zh (show HotBy [some gU,some gQ] W8 W11 from by rw[hW11];exact HH10.out.trans ⟨rfl,rfl,rfl,zR _,fun _ _ _=>rfl⟩)
       have k4:W11.cell? ⟨gU,j2,none⟩=some (.int .u32 (u2:Int)):=by rw[hW11];exact k3
       clear r1 r2 r3 k3 hW11 HR10 HH10 hor t4 t5 t7
       go_upto_block 4 with fail
       have HTOP:=zh (show 2147483648<=top/\top<4294967296/\next<4294967296 from⟨HVV.out.2.2.2.1,HVV.out.2.2.2.2.1,HVV.out.2.2.1⟩);go_cut [17,18] from 84 to 162 (fun v17 v18 wc=>∃g:Nat,v17=.int .u64 (g:Int)/\wc=W11/\Hid (g<4294967296/\DD / YS<=g/\g<=DD / YS+1))
       case first =>
        go_wp2_with fail;go_loopg [17,18] GG (fun z v17 v18 wk=>wk=W11/\∃r:Nat,v17=.int .u64 (z:Int)/\v18=.int .u64 (r:Int)/\Hid (r<4294967296/\z<4294967300)/\Hid (Gs top hd (DD / YS) z r))
        case atStart=>exact⟨rfl,RR,rfl,rfl,zh ⟨by have:=HFS0.out.2;have:=HTOP.out;omega,by
         have h1:=HFS0.out.1.eq;have h2:=HDC.out.2.2.1;have h3:=HTOP.out;rcases Nat.lt_or_ge GG 4294967300 with h | h
         ·exact h
         ·have:=Nat.mul_le_mul_right top h
          omega⟩,zh HFS0.out.1⟩
        case round =>
         obtain⟨rfl,r,rfl,rfl,HZ,HG⟩:=hrel
         have r0:(0:Int)<=(r:Int):=by omega
         obtain⟨GI,hGI⟩:∃t:Int,t=(gk:Int):=⟨_,rfl⟩
         have z0:(0:Int)<=GI:=by omega
         rw[<-hGI];have HGI:=zh hGI;clear hGI;by_cases hzB:4294967296<=gk
         ·have d1:decide ((4294967296:Int)<=GI)=true:=decide_eq_true (by have:=HGI.out;omega);have hnx:=Gs.next HDG.out HDC.out.1 HG.out (.inl hzB);clear hzB;obtain⟨g,rfl⟩:∃g,gk=g+1:=⟨gk-1,by omega⟩;rw[Nat.add_sub_cancel] at hnx;have HNX:=zh hnx.2;clear hnx
          have w5:IntKind.u64.wrap (GI-1)=(g:Int):=by rw[HGI.out,show((g+1:Nat):Int)-1=(g:Int) by omega];exact IntWalk.u64_in _ (by have:=HZ.out;omega)
          have w6:IntKind.u64.wrap ((r:Int)+(top:Int))=((r+top:Nat):Int):=by rw[<-Int.natCast_add];exact IntWalk.u64_in _ (by have:=HZ.out;have:=HTOP.out;omega)
          obtain⟨RT,hRT⟩:=zx (r+top);rw[<-hRT] at w6 HNX;obtain⟨RI,hRI⟩:∃t:Int,t=(RT:Int):=⟨_,rfl⟩;rw[<-hRI] at w6;have HRI:=zh hRI;clear hRT hRI;by_cases hst:4294967296<=RT
          ·have d3:decide ((4294967296:Int)<=RI)=true:=decide_eq_true (by have:=HRI.out;omega)
           have HDN:=zh (show g<4294967296/\DD / YS<=g/\g<=DD / YS+1 from by
            have h:=HNX.out.stop HDG.out hst HDC.out.2.2.1 HTOP.out.2.2
            exact⟨h.1,HNX.out.lo,h.2⟩)
           clear hst;go_wp2_with fail;go_meet
           case rel=>exact⟨g,rfl,rfl,HDN⟩
          ·have d3:decide ((4294967296:Int)<=RI)=false:=decide_eq_false (by have:=HRI.out;omega);have HRT:=zh (show RT<4294967296 by omega);clear hst;go_wp2_with fail;go_roundg g
           case measure=>omega
           case rel=>exact⟨rfl,RT,rfl,by rw[HRI.out],zh ⟨HRT.out,by have:=HZ.out;omega⟩,HNX⟩
         ·have d1:decide ((4294967296:Int)<=GI)=false:=decide_eq_false (by have:=HGI.out;omega);have HZB:=zh (show gk<4294967296 by omega);have hpp:gk*next<=4294967295*4294967295:=Nat.mul_le_mul (by omega) (by have:=HTOP.out;omega)
          have w1:IntKind.u64.wrap (GI*(next:Int))=((gk*next:Nat):Int):=by rw[HGI.out,<-Int.natCast_mul];exact IntWalk.u64_in _ (by omega)
          have w2:=or_limb r u2 HZ.out.1 HB2.out.1;have w3:IntKind.u64.wrap ((r:Int)*4294967296)=(r:Int)*4294967296:=IntWalk.u64_in _ (by have:=HZ.out.1;omega);obtain⟨PP,hPP⟩:=zx (gk*next);obtain⟨OO,hOO⟩:=zx (r*4294967296+u2);rw[<-hPP] at w1;rw[<-hOO] at w2;have HPO:=zh (And.intro hPP hOO);clear hzB hpp hPP hOO;by_cases hgt:OO<PP
          ·have d2:decide (OO<PP)=true:=decide_eq_true hgt;have hnx:=Gs.next HDG.out HDC.out.1 HG.out (.inr (by rw[<-HPO.out.1,<-HPO.out.2];exact hgt));clear hgt;obtain⟨g,rfl⟩:∃g,gk=g+1:=⟨gk-1,by omega⟩;rw[Nat.add_sub_cancel] at hnx;have HNX:=zh hnx.2;clear hnx
           have w5:IntKind.u64.wrap (GI-1)=(g:Int):=by rw[HGI.out,show((g+1:Nat):Int)-1=(g:Int) by omega];exact IntWalk.u64_in _ (by have:=HZ.out;omega)
           have w6:IntKind.u64.wrap ((r:Int)+(top:Int))=((r+top:Nat):Int):=by rw[<-Int.natCast_add];exact IntWalk.u64_in _ (by have:=HZ.out;have:=HTOP.out;omega)
           obtain⟨RT,hRT⟩:=zx (r+top);rw[<-hRT] at w6 HNX;obtain⟨RI,hRI⟩:∃t:Int,t=(RT:Int):=⟨_,rfl⟩;rw[<-hRI] at w6;have HRI:=zh hRI;clear hRT hRI;by_cases hst:4294967296<=RT
           ·have d3:decide ((4294967296:Int)<=RI)=true:=decide_eq_true (by have:=HRI.out;omega)
            have HDN:=zh (show g<4294967296/\DD / YS<=g/\g<=DD / YS+1 from by
             have h:=HNX.out.stop HDG.out hst HDC.out.2.2.1 HTOP.out.2.2
             exact⟨h.1,HNX.out.lo,h.2⟩)
            clear hst;go_wp2_with fail;go_meet
            case rel=>exact⟨g,rfl,rfl,HDN⟩
           ·have d3:decide ((4294967296:Int)<=RI)=false:=decide_eq_false (by have:=HRI.out;omega);have HRT:=zh (show RT<4294967296 by omega);clear hst;go_wp2_with fail;go_roundg g
            case measure=>omega
            case rel=>exact⟨rfl,RT,rfl,by rw[HRI.out],zh ⟨HRT.out,by have:=HZ.out;omega⟩,HNX⟩
          ·have d2:decide (OO<PP)=false:=decide_eq_false hgt;have HDN:=zh (show gk<4294967296/\DD / YS<=gk/\gk<=DD / YS+1 from⟨HZB.out,HG.out.lo,HG.out.done HDG.out HZB.out (by rw[<-HPO.out.1,<-HPO.out.2];omega)⟩);clear hgt;go_wp2_with fail;go_meet
           case rel=>exact⟨gk,by rw[HGI.out],rfl,HDN⟩
       case rest =>
        obtain⟨g,rfl,rfl,HGS⟩:=hcut;have hlv:LS wc (fun b=>b=b3) (.slice (some ⟨b3,0,none⟩) NN NV) V:=HLV8.out.keep (fun b hb=>by rw[hb];exact HH11.out.block b3 (by have:=HGG.out;omega) (by simp;have:=HGG.out;omega));have hsb:=nsubt_any gU j NN (L-j) g U V _ _ wc HR11.out.1 (by rw[HR11.out.2.1];exact HJS.out.2.2.2.2.1) hlv HVV.out.2.2.2.2.2.2.2 (by have:=HN.out;omega) (fun b hb=>by rw[hb];exact⟨zM (by have:=HGG.out;omega) HH11.out.size,by have:=HGG.out;omega⟩) HGS.out.1 HR11.out.2.2.1 (by have:=HN.out;omega);rw[HVV.out.2.2.2.2.2.1,<-HDC.out.2.1] at hsb;have HSB:=zh hsb;have HLVC:=zh hlv
        have l1:j3-j=NN+1:=by have:=HJS.out;omega
        clear hsb hlv k4;go_wp2_with fail;refine HSB.out.mono ?_;rintro e w13 ⟨U1,ng,rfl,hrU1,hlU1,hmU1,hkU1,hnU1,hh1⟩;have hwl1:(win U1 j (NN+1)).length=NN+1:=win_len (by rw[hlU1,HR11.out.2.1];have:=HJS.out;omega)
        have hwm1:nv (win U1 j (NN+1))<4294967296 ^ (NN+1):=by
         have:=nv_lt (l:=win U1 j (NN+1)) ((hmU1.drop j).take _)
         rwa [hwl1] at this
        have hYQ:YS<=4294967296 ^ (NN+1):=Nat.le_trans HYS.out.2 (Nat.pow_le_pow_right (by omega) (by omega));have hgq:gQ<wc.heap.size:=HR11.out.2.2.2.1.lt;have HU1:=zh (show RowU w13 gU U1/\U1.length=U.length/\Lim U1/\(∀k,k<j\/j+NN+1<=k->U1[k]?=U[k]?)/\HotBy [some gU] wc w13 from⟨hrU1,hlU1,hmU1,hkU1,hh1⟩)
        cases ng with
        | false =>
         have hd:=dig_hit HYS.out.1 HGS.out.2.1 (by simpa using hnU1);have HST:=zh (show ∃U2,RowU w13 gU U2/\U2.length=U.length/\Lim U2/\(∀k,k<j\/j+NN+1<=k->U2[k]?=U[k]?)/\HotBy [some gU] wc w13/\nv (win U2 j (NN+1))=DD % YS from⟨U1,hrU1,hlU1,hmU1,hkU1,hh1,hd.2⟩);have HDD:=zh (show g=DD / YS from hd.1);clear hrU1 hlU1 hmU1 hkU1 hnU1 hh1 hwl1 hwm1 hYQ hgq hd l1;obtain⟨WS,hWS⟩:=zx w13;rw[<-hWS] at HST ⊢;clear hWS;obtain⟨U3,hr3,hl3,hm3,hk3,hh3,hn3⟩:=HST.out;have hgQw:gQ<wc.heap.size:=HR11.out.2.2.2.1.lt;have hrQ3:RowU WS gQ Q:=HR11.out.2.2.2.1.of (hh3.block gQ hgQw (by simp;have:=HGG.out;omega))
         have hjQ:j<Q.length:=by rw[HR11.out.2.2.2.2.1];exact HJS.out.2.2.2.2.2
         obtain⟨kq,kf⟩:=hrQ3.at_ hjQ
         have hDB:g<4294967296:=by rw[HDD.out];exact HDC.out.1
         have hmod:(g:Int) % 4294967296=(g:Int):=by omega
         obtain⟨W15,hW15⟩:=zx (WS.setCell ⟨gQ,j,none⟩ (.int .u32 (g:Int)));have hrd:=div_round (U:=U) (U':=U3) (Q:=Q) (j:=j) (n:=NN) (d:=g) (X:=XS) (v:=YS) (by rw[HR11.out.2.1];exact HJS.out.2.2.2.2.1) hl3 HR11.out.2.2.1 hjQ HYS.out.2 HYS.out.1 HIJ.out.1 HIJ.out.2 hk3 (by rw[HDD.out,HDC.out.2.1]) (by rw[hn3,HDC.out.2.1])
         have HNXT:=zh (show ∃U Q,RowU W15 gU U/\U.length=L/\Lim U/\RowU W15 gQ Q/\Q.length=m/\Lim Q/\XS=nv (Q.drop j)*4294967296 ^ j*YS+nv U/\nv U<YS*4294967296 ^ j from⟨U3,Q.set j g,by rw[hW15];exact hr3.other (by have:=HGG.out;omega) _ _,hl3.trans HR11.out.2.1,hm3,by rw[hW15];exact hrQ3.set j g,by rw[List.length_set];exact HR11.out.2.2.2.2.1,fun x hx=>by
          rcases List.mem_or_eq_of_mem_set hx with h | h
          ·exact HR11.out.2.2.2.2.2 x h
          ·rw[h];exact hDB,hrd.1,hrd.2⟩)
         have HHN:=zh (show HotBy [some gU,some gQ] W8 W15 from by rw[hW15];exact(HH11.out.trans (hh3.more (fun x hx _=>by simp at hx ⊢;exact .inl hx))).trans (HotBy.setCell _ _ _ _ (by simp)));have HW15:=zh hW15;have n9:IntKind.i64.wrap ((j:Int)-1)=(j:Int)-1:=zI _ (by have:=HJS.out;have:=HN.out;omega);have HJM:=zh (show j<=m by have:=HJS.out;omega);clear hr3 hl3 hm3 hk3 hh3 hn3 hgQw hrQ3 hjQ hDB hrd hW15;go_wp2_with fail;rw[<-HW15.out];go_roundg j
         case measure=>omega
         case rel=>exact⟨rfl,HJM.out,HHN,HNXT⟩
        | true =>
         have hlv1:LS w13 (fun b=>b=b3) (.slice (some ⟨b3,0,none⟩) NN NV) V:=HLVC.out.keep (fun b hb=>by rw[hb];exact hh1.block b3 (zM (by have:=HGG.out;omega) HH11.out.size) (by simp;have:=HGG.out;omega));have hrs:=nrest_any gU j NN (L-j) U1 V _ _ w13 hrU1 (by rw[hlU1,HR11.out.2.1];exact HJS.out.2.2.2.2.1) hlv1 HVV.out.2.2.2.2.2.2.2 (by have:=HN.out;omega) (fun b hb=>by rw[hb];exact⟨zM (by have:=HGG.out;omega) (Nat.le_trans HH11.out.size hh1.size),by have:=HGG.out;omega⟩) hmU1 (by have:=HN.out;omega);rw[HVV.out.2.2.2.2.2.1] at hrs;have HRS:=zh hrs
         have hDG0:0<g:=by
          rcases Nat.eq_zero_or_pos g with h | h
          ·exfalso;rw[h,Nat.zero_mul,Nat.add_zero] at hnU1;simp at hnU1;omega
          ·exact h
         obtain⟨DG,rfl⟩:∃t,g=t+1:=⟨g-1,by omega⟩
         have w7:IntKind.u64.wrap (((DG+1:Nat):Int)-1)=(DG:Int):=by rw[show((DG+1:Nat):Int)-1=(DG:Int) by omega];exact IntWalk.u64_in _ (by have:=HGS.out;omega)
         obtain⟨G1,hG1⟩:∃t:Int,t=((DG+1:Nat):Int):=⟨_,rfl⟩;rw[<-hG1] at w7 ⊢;have HNU1:=zh (show DD+4294967296 ^ (NN+1)=nv (win U1 j (NN+1))+(DG+1)*YS from by simpa using hnU1);have HWM:=zh (And.intro hwm1 hYQ);have HGQ2:=zh hgq;clear hrU1 hlU1 hmU1 hkU1 hnU1 hh1 hwl1 hwm1 hYQ hgq hDG0 hrs hlv1 hG1;go_wp2_with fail;refine HRS.out.mono ?_;rintro e w14 ⟨U2,c,rfl,hrU2,hlU2,hmU2,hkU2,hnU2,hh2⟩;have hwl2:(win U2 j (NN+1)).length=NN+1:=win_len (by rw[hlU2,HU1.out.2.1,HR11.out.2.1];have:=HJS.out;omega)
         have hwm2:nv (win U2 j (NN+1))<4294967296 ^ (NN+1):=by
          have:=nv_lt (l:=win U2 j (NN+1)) ((hmU2.drop j).take _)
          rwa [hwl2] at this
         have hd:=dig_miss HYS.out.1 HGS.out.2.1 HGS.out.2.2 HNU1.out HWM.out.1 hnU2 hwm2 HWM.out.2;have HST:=zh (show ∃U2,RowU w14 gU U2/\U2.length=U.length/\Lim U2/\(∀k,k<j\/j+NN+1<=k->U2[k]?=U[k]?)/\HotBy [some gU] wc w14/\nv (win U2 j (NN+1))=DD % YS from⟨U2,hrU2,hlU2.trans HU1.out.2.1,hmU2,fun k hk=>(hkU2 k hk).trans (HU1.out.2.2.2.1 k hk),HU1.out.2.2.2.2.trans hh2,hd.2⟩);have HDD:=zh (show DG=DD / YS by have:=hd.1;omega);clear hrU2 hlU2 hmU2 hkU2 hnU2 hh2 hwl2 hwm2 hd l1 w7;obtain⟨WS,hWS⟩:=zx w14;rw[<-hWS] at HST ⊢;clear hWS;obtain⟨U3,hr3,hl3,hm3,hk3,hh3,hn3⟩:=HST.out;have hgQw:gQ<wc.heap.size:=HR11.out.2.2.2.1.lt;have hrQ3:RowU WS gQ Q:=HR11.out.2.2.2.1.of (hh3.block gQ hgQw (by simp;have:=HGG.out;omega))
         have hjQ:j<Q.length:=by rw[HR11.out.2.2.2.2.1];exact HJS.out.2.2.2.2.2
         obtain⟨kq,kf⟩:=hrQ3.at_ hjQ
         have hDB:DG<4294967296:=by rw[HDD.out];exact HDC.out.1
         have hmod:(DG:Int) % 4294967296=(DG:Int):=by omega
         obtain⟨W15,hW15⟩:=zx (WS.setCell ⟨gQ,j,none⟩ (.int .u32 (DG:Int)));have hrd:=div_round (U:=U) (U':=U3) (Q:=Q) (j:=j) (n:=NN) (d:=DG) (X:=XS) (v:=YS) (by rw[HR11.out.2.1];exact HJS.out.2.2.2.2.1) hl3 HR11.out.2.2.1 hjQ HYS.out.2 HYS.out.1 HIJ.out.1 HIJ.out.2 hk3 (by rw[HDD.out,HDC.out.2.1]) (by rw[hn3,HDC.out.2.1])
         have HNXT:=zh (show ∃U Q,RowU W15 gU U/\U.length=L/\Lim U/\RowU W15 gQ Q/\Q.length=m/\Lim Q/\XS=nv (Q.drop j)*4294967296 ^ j*YS+nv U/\nv U<YS*4294967296 ^ j from⟨U3,Q.set j DG,by rw[hW15];exact hr3.other (by have:=HGG.out;omega) _ _,hl3.trans HR11.out.2.1,hm3,by rw[hW15];exact hrQ3.set j DG,by rw[List.length_set];exact HR11.out.2.2.2.2.1,fun x hx=>by
          rcases List.mem_or_eq_of_mem_set hx with h | h
          ·exact HR11.out.2.2.2.2.2 x h
          ·rw[h];exact hDB,hrd.1,hrd.2⟩)
         have HHN:=zh (show HotBy [some gU,some gQ] W8 W15 from by rw[hW15];exact(HH11.out.trans (hh3.more (fun x hx _=>by simp at hx ⊢;exact .inl hx))).trans (HotBy.setCell _ _ _ _ (by simp)));have HW15:=zh hW15;have n9:IntKind.i64.wrap ((j:Int)-1)=(j:Int)-1:=zI _ (by have:=HJS.out;have:=HN.out;omega);have HJM:=zh (show j<=m by have:=HJS.out;omega);clear hr3 hl3 hm3 hk3 hh3 hn3 hgQw hrQ3 hjQ hDB hrd hW15;go_wp2_with fail;rw[<-HW15.out];go_roundg j
         case measure=>omega
         case rel=>exact⟨rfl,HJM.out,HHN,HNXT⟩
theorem ngcdL_any(va vb:Value)(la lb:List Nat)(w:World)(ha:LS w (Bl w.heap.size) va la)(hb:LS w (Bl w.heap.size) vb lb)(hn1:la.length<=512)(hm1:lb.length<=512) :
  Calls Tryz.prog 124 #[va,vb] w fun e w'=>∃g,e=.returned (.tuple #[g,.int .i64 0])/\LS w' (Fr w.heap.size w'.heap.size) g (limbs (Nat.gcd (nv la) (nv lb)))/\Below w.heap.size w w':=by
 have hn32:=ha.lim;have hm32:=hb.lim
 have hns:(limbs (nv la)).length<=512:=by rw[limbs_nv hn32];exact Nat.le_trans (trimL_length la) hn1
 have hms:(limbs (nv lb)).length<=512:=by rw[limbs_nv hm32];exact Nat.le_trans (trimL_length lb) hm1
 have H5:=zh (And.intro hns hms);have HA:=zh ha;have HB:=zh hb;have H1:=zh hn1;have H2:=zh hm1;have H3:=zh hn32;have H4:=zh hm32;clear ha hb hn1 hm1 hn32 hm32 hns hms;go_enter Tryz.func124,Tryz.ntmps124;go_wp2_with fail;refine(nlarge_any va _ _ _ HA.out H1.out).mono ?_;rintro e w1 ⟨rfl,rfl⟩;go_wp2_with fail;refine(nlarge_any vb _ _ _ HB.out H2.out).mono ?_;rintro e w1 ⟨rfl,rfl⟩;go_wp2_with fail;refine(ntrim_any va _ _ _ HA.out (fun b h=>h) (Nat.le_trans H1.out (by omega))).mono ?_;rintro e w4 ⟨u4,rfl,hO4,hb4⟩;rw[<-limbs_nv H3.out] at hO4;have HO4:=zh (hO4.ls (lim_limbs _));have HB4:=zh (HB.out.below hb4);have HC4:=zh hb4;clear hb4 hO4;go_wp2_with fail;refine(ntrim_any vb _ _ _ HB4.out (fun b h=>h) (Nat.le_trans H2.out (by omega))).mono ?_;rintro e w5 ⟨u5,rfl,hO5,hb5⟩;rw[<-limbs_nv H4.out] at hO5;have hs4:=HC4.out.size;have HO45:=zh ((HO4.out.keep (w':=w5) (fun b hb=>hb5.block b hb.2)).mono (Fr.wider (zR _) hb5.size));have HO5:=zh ((hO5.ls (lim_limbs _)).mono (Fr.wider hs4 (zR _)));have HC5:=zh (HC4.out.trans (hb5.mono HC4.out.size));clear hb5 hO5 hs4;go_wp2_with fail;go_loopg [0,1] (nv lb) (fun z v6 v7 wr=>Hid (∃x,Nat.gcd x z=Nat.gcd (nv la) (nv lb)/\(limbs x).length<=512/\(limbs z).length<=512/\LS wr (Fr w.heap.size wr.heap.size) v6 (limbs x)/\LS wr (Fr w.heap.size wr.heap.size) v7 (limbs z))/\Hid (Below w.heap.size w wr))
 case atStart=>exact⟨⟨nv la,rfl,H5.out.1,H5.out.2,HO45.out,HO5.out⟩,HC5.out⟩
 case round =>
  obtain⟨hx,hbr⟩:=hrel;obtain⟨x,hgx,hx32,hz32,hox,hoz⟩:=hx.out;have HX:=zh hox;have HZ:=zh hoz;obtain⟨A6,c6,rfl,-,-⟩:=hox.form;obtain⟨A7,c7,rfl,-,-⟩:=hoz.form;have HBR:=zh hbr.out;have hlz:(limbs gk).length=0↔gk=0:=⟨fun h=>by rcases Nat.eq_zero_or_pos gk with h2 | h2;(exact h2);(obtain⟨m,t,e,-⟩:=limbs_snoc h2;rw[e] at h;simp at h),fun h=>by rw[h,limbs_zero];rfl⟩;have hsz:=hbr.out.size;have LX:=zh (hox.mono Fr.bl);have LZ:=zh (hoz.mono Fr.bl);by_cases h0:gk=0
  ·have hl0:(limbs gk).length=0:=hlz.2 h0;have HE:=zh (show x=Nat.gcd (nv la) (nv lb) by rw[<-hgx,h0];simp);rw[hl0];clear hx hox hoz hgx hlz hl0 h0 hbr;go_wp2_with fail;go_ret2;exact⟨_,rfl,by rw[<-HE.out];exact HX.out,HBR.out⟩
  ·obtain⟨NZ,hNZ⟩:=zx ((limbs gk).length)
   have hl1:(0:Int)<(NZ:Int):=by have:=mt hlz.1 h0;omega
   have HS:=zh (And.intro hx32 hz32);have HM:=zh (Nat.mod_lt x (show 0<gk by omega));have HG:=zh (show Nat.gcd gk (x % gk)=Nat.gcd (nv la) (nv lb) by rw[<-hgx,Nat.gcd_comm x gk,Nat.gcd_rec gk x,Nat.gcd_comm gk (x % gk)]);have HZ0:=zh (show 0<gk by omega);rw[<-hNZ] at LZ HZ ⊢;clear hx hox hoz hgx hlz h0 hbr hx32 hz32 hNZ;go_wp2_with fail;refine(ndivL_any _ _ x gk _ LX.out LZ.out HZ0.out (Nat.le_trans HS.out.1 (by omega)) (Nat.le_trans HS.out.2 (by omega))).mono ?_;rintro e w6 ⟨q,r,rfl,-,hr,hb6⟩;have HQ:=zh (hr.mono (Fr.wider hsz (zR _)));have HZ6:=zh ((HZ.out.keep (w':=w6) (fun b hb=>hb6.block b hb.2)).mono (Fr.wider (zR _) hb6.size));have HC6:=zh (HBR.out.trans (hb6.mono HBR.out.size));clear hr hb6;go_wp2_with fail;go_roundg (x % gk)
   case measure=>exact HM.out
   case rel=>exact⟨⟨gk,HG.out,HS.out.2,limbs_mono (Nat.le_of_lt HM.out) HS.out.2,HZ6.out,HQ.out⟩,HC6.out⟩
theorem ndvL_any(va vb:Value)(la lb:List Nat)(w:World)(ha:LS w (Bl w.heap.size) va la)(hb:LS w (Bl w.heap.size) vb lb)(hn1:la.length<=512)(hm1:lb.length<=512)(hm:0<nv lb) :
  Calls Tryz.prog 125 #[va,vb] w fun e w'=>∃q r,e=.returned (.tuple #[q,r,.int .i64 0])/\LS w' (Fr w.heap.size w'.heap.size) q (limbs (nv la / nv lb))/\Below w.heap.size w w':=by
 have hn32:=ha.lim;have hm32:=hb.lim;have HLA:=zh (fun(w':World) (h:Below w.heap.size w w')=>nlength_any va _ _ w' (ha.below h) (by omega));have HLB:=zh (fun(w':World) (h:Below w.heap.size w w')=>nlength_any vb _ _ w' (hb.below h) (by omega));have HG1:=zh (nlarge_any va _ _ w ha hn1);have HG2:=zh (nlarge_any vb _ _ w hb hm1);have HL0:=zh (nlength_any vb _ _ w hb (by omega))
 have hlb:0<(limbs (nv lb)).length:=by obtain⟨m,t,e,-⟩:=limbs_snoc hm;rw[e];simp
 have hlb0:0<lb.length:=by
  rcases Nat.eq_zero_or_pos lb.length with h | h
  ·rw[List.eq_nil_of_length_eq_zero h] at hm;exact absurd hm (by simp[nv])
  ·exact h
 have e1:trimL la=limbs (nv la):=(limbs_nv hn32).symm;have e2:trimL lb=limbs (nv lb):=(limbs_nv hm32).symm
 have hta:∃A c,va=.slice A la.length c/\(limbs (nv la)).length<=la.length/\la.length<=c/\LS w (Bl w.heap.size) (.slice A (limbs (nv la)).length c) (limbs (nv la)):=by
  have hle:(limbs (nv la)).length<=la.length:=by rw[<-e1];exact trimL_length la
  rcases Nat.eq_zero_or_pos la.length with h | h
  ·have hnil:la=[]:=List.eq_nil_of_length_eq_zero h;subst hnil;rcases ha.1 with ⟨rfl,-⟩ | ⟨b,off,c,hv,h1,h2,h3,-⟩
   ·exact⟨none,0,rfl,hle,zR _,by rw[show nv []=0 from rfl,limbs_zero];exact LS.nil _ _⟩
   ·exact⟨_,c,hv,hle,h1,by rw[show nv []=0 from rfl,limbs_zero];exact⟨.inr ⟨b,off,c,rfl,Nat.zero_le _,h2,h3,fun k x hx=>by cases hx⟩,fun x hx=>by cases hx⟩⟩
  ·obtain⟨A,c,rfl,hc,-⟩:=ha.form;have:=ha.trim h;rw[e1] at this;exact⟨A,c,rfl,hle,hc,this⟩
 obtain⟨A,c,rfl,hle1,hc1,hta⟩:=hta;obtain⟨B,d,rfl,hc2,-⟩:=hb.form;have htb:=hb.trim hlb0;rw[e2] at htb HLB HL0;rw[e1] at HLA
 have hle2:(limbs (nv lb)).length<=lb.length:=by rw[<-e2];exact trimL_length lb
 have HTA:=zh hta;have HTB:=zh htb;have HM:=zh hm;have HSZ:=zh (show(limbs (nv la)).length<=600/\(limbs (nv lb)).length<=600 from⟨by omega,by omega⟩);obtain⟨N1,hN1⟩:=zx la.length;obtain⟨N2,hN2⟩:=zx lb.length;obtain⟨T1,hT1⟩:=zx ((limbs (nv la)).length);obtain⟨T2,hT2⟩:=zx ((limbs (nv lb)).length);rw[<-hN1] at hle1 hc1 HLA HG1 ⊢;rw[<-hN2] at hle2 hc2 HLB HL0 HG2 ⊢;rw[<-hT1] at hle1 HLA HTA;rw[<-hT2] at hle2 HLB HL0 HTB hlb
 have q1:(T1:Int)<=(c:Int):=by omega
 have q2:(T2:Int)<=(d:Int):=by omega
 have q0:((T2:Int)==0)=false:=beq_eq_false_iff_ne.2 (by omega);clear ha hb hn1 hm1 hn32 hm32 hlb hlb0 e1 e2 hta htb hle1 hle2 hc1 hc2 hm hN1 hN2 hT1 hT2;go_enter Tryz.func125,Tryz.ntmps125;go_wp2_with fail;refine HG1.out.mono ?_;rintro e w1 ⟨rfl,rfl⟩;go_wp2_with fail;refine HG2.out.mono ?_;rintro e w1 ⟨rfl,rfl⟩;go_wp2_with fail;refine HL0.out.mono ?_;rintro e w1 ⟨rfl,rfl⟩;go_upto_region 5 with fail;refine region_tail (S:=(fun(w':World)=>Below w.heap.size w w')) [] (by kernel_rfl) (zB _ _).drew (fun hHeld=>?_);refine tk 0 21 ?_;refine tk 1 22 ?_;refine tk 4 25 ?_;refine tk 5 26 ?_;refine rd1 2 (fun K hK=>?_);go_simp
 (refine(HLA.out _ hHeld).mono ?_;rintro e w5 ⟨rfl,rfl⟩)
 go_wp2_with fail;refine hK.out _ _ ?_ (fun hHeld=>?_)
 ·exact hHeld
 clear hK K;(try simp only[Act.put,z1,z2,z3]);refine tk 3 24 ?_;refine rd1 6 (fun K hK=>?_);go_simp
 (refine(HLB.out _ hHeld).mono ?_;rintro e w5 ⟨rfl,rfl⟩)
 go_wp2_with fail;refine hK.out _ _ ?_ (fun hHeld=>?_)
 ·exact hHeld
 clear hK K;(try simp only[Act.put,z1,z2,z3]);refine tk 7 28 ?_;refine rd1 8 (fun K hK=>?_);go_simp
 (refine(ndivL_any _ _ _ _ _ (HTA.out.below hHeld) (HTB.out.below hHeld) HM.out HSZ.out.1 HSZ.out.2).mono ?_;rintro e w8 ⟨q,r,rfl,hq,hr,hb8⟩;have HB8:=zh (show Below w.heap.size w w8 from hHeld.trans (hb8.mono hHeld.size));have HQ:=zh (hq.mono (Fr.wider hHeld.size (zR _)));clear hq hr hb8)
 go_wp2_with fail;refine hK.out _ _ ?_ (fun hHeld=>?_)
 ·exact HB8.out
 clear hK K;(try simp only[Act.put,z1,z2,z3]);refine tk 9 20 ?_;refine tk 10 30 ?_;refine tk 11 31 ?_;refine tk 12 7 ?_;refine tk 13 8 ?_;refine doneT (by kernel_rfl) ?_ _;clear hHeld

 go_wp2_with fail;go_ret3;exact⟨_,_,rfl,HQ.out,HB8.out⟩
theorem bl_mono{a b:Nat}(h:a<=b){k:Nat}(hb:bl b<=k):bl a<=k:=bl_le_iff.2 (Nat.lt_of_le_of_lt h (bl_le_iff.1 hb))
end Go.Proofs.YtgfaieppacabjaaGreat
