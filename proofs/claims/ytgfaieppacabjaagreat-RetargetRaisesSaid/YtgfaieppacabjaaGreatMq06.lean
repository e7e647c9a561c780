/- Parts. -/
import Derived.Test.YtgfaieppacabjaaGreatMq05
set_option linter.unusedSectionVars false
set_option maxRecDepth 100000
set_option maxHeartbeats 12800000
set_option linter.unusedVariables false
set_option linter.unusedSimpArgs false
namespace Go.Proofs.YtgfaieppacabjaaGreat
open Go.RowKit
theorem rminus_any(va vb:Value)(l:List Nat)(y:Nat)(w:World)(ha:LS w (Bl w.heap.size) va l)(hb:LS w (Bl w.heap.size) vb (limbs y))(hl:l.length<=700)(hl0:0<l.length)(hy:y<=nv l) :
  Calls Tryz.prog 176 #[va,vb] w fun e w'=>∃u,e=.returned u/\OwnL w' w.heap.size u (limbs (nv l-y))/\Below w.heap.size w w':=by
 obtain⟨A,c,rfl,-,-⟩:=ha.form;obtain⟨b1,o1,rfl,hR1,hc1⟩:=ha.reads hl0;have hlim:Lim l:=ha.lim;obtain⟨lb,hlb⟩:=zx (limbs y);rw[<-hlb] at hb
 have hnv:nv lb=y:=by rw[hlb,nv_limbs]
 have hblim:=hb.lim
 have hlbl:lb.length<=l.length:=by
  rw[hlb];refine limbs_len y _ (Nat.lt_of_le_of_lt hy (nv_lt hlim))
 obtain⟨B,d,rfl,-,-⟩:=hb.form;obtain⟨LN,hLN⟩:=zx l.length;obtain⟨M,hM⟩:=zx lb.length
 have hrb:∀(i x:Nat),lb[i]?=some x->∃b2 o2,B=some ⟨b2,o2,none⟩/\∀w',Below w.heap.size w w'->w'.cell? ⟨b2,o2+i,none⟩=some (.int .u32 (x:Int)):=by
  intro i x hx;obtain⟨b2,o2,hB,hR2,hc2⟩:=hb.reads (by have:=(zL.1 hx).1;omega);exact⟨b2,o2,hB,fun w' hk=>hc2 i x hx w' (hk.block b2 hR2)⟩
 have HRB:=zh hrb;rw[<-hLN] at hl hl0 ⊢;rw[<-hM];have HRD:=zh (show ∀w',Below w.heap.size w w'->∀(i x:Nat),l[i]?=some x->w'.cell? ⟨b1,o1+i,none⟩=some (.int .u32 (x:Int)) from fun w' hk i x hx=>hc1 i x hx w' (hk.block b1 hR1));have HL:=zh (show LN=l.length/\Lim l/\LN<=700/\M=lb.length/\Lim lb/\nv lb=y/\y<=nv l/\M<=LN from⟨hLN,hlim,hl,hM,hblim,hnv,hy,by omega⟩)
 have l700:(LN:Int)<=700:=by omega
 clear ha hb hl hl0 hR1 hc1 hlb hnv hlim hLN hM hy hblim hlbl hrb;go_enter Tryz.func176,Tryz.ntmps176;go_wp2_with fail;go_loopg [5,6,7] LN (fun z v5 v6 v7 wr=>∃(i k:Nat) (O:List Nat),i<=LN/\z=LN-i/\k<=1/\v6=.int .u64 (k:Int)/\v7=.int .i64 (i:Int)/\Hid (Below w.heap.size w wr)/\Hid (OwnL wr w.heap.size v5 O/\O.length=i/\Lim O/\nv (l.take i)+4294967296 ^ i*k=nv O+nv (lb.take i)))
 case atStart=>exact⟨0,0,[],Nat.zero_le _,rfl,by omega,rfl,rfl,zB _ _,zh ⟨OwnL.nil _ _,rfl,Lim.nil,by simp[nv]⟩⟩
 case round =>
  obtain⟨i,k,O,hi,rfl,hk,rfl,rfl,HB,HO⟩:=hrel;obtain⟨W4,hW4⟩:=zx wr;rw[<-hW4] at HB HO ⊢;clear hW4;obtain⟨A5,c5,hv5⟩:=own_form HO.out.1;by_cases hlt:i<LN
  ·have hil:i<l.length:=by rw[<-HL.out.1];exact hlt
   have xl:=zG hil;obtain⟨X,hX⟩:=zx (l[i]);rw[<-hX] at xl;have hX32:X<4294967296:=HL.out.2.1 X (List.mem_of_getElem? xl);have k1:=HRD.out W4 HB.out i X xl
   have i1:(i:Int)<(LN:Int):=by omega
   have t0:IntKind.u64.wrap (X:Int)=(X:Int):=IntWalk.u64_in _ (by omega);by_cases hnx:i<M
   ·have hil2:i<lb.length:=by rw[<-HL.out.2.2.2.1];exact hnx
    have yl:=zG hil2;obtain⟨V,hV⟩:=zx (lb[i]);rw[<-hV] at yl;have hV32:V<4294967296:=HL.out.2.2.2.2.1 V (List.mem_of_getElem? yl);obtain⟨b2,o2,rfl,hc2⟩:=HRB.out i V yl;have k2:=hc2 W4 HB.out;have t1:IntKind.u64.wrap (V:Int)=(V:Int):=IntWalk.u64_in _ (by omega)
    have i4:(i:Int)<(M:Int):=by omega
    have hst:∀z c',X+4294967296*c'=z+(k+V)->nv (l.take (i+1))+4294967296 ^ (i+1)*c'=nv (O++[z])+nv (lb.take (i+1)):=fun z c' h=>by
     rw[take_step xl,take_step yl,nv_snoc,HO.out.2.1,Nat.pow_succ];exact minus_step h HO.out.2.2.2
    clear hnx yl hil2 hV hX xl hil hc2

    obtain⟨YY,hYY⟩:=zx (k+V)
    have hkv:IntKind.u64.wrap ((k:Int)+(V:Int))=(YY:Int):=by rw[<-Int.natCast_add,<-hYY];exact IntWalk.u64_in _ (by omega)
    rw[<-hYY] at hst;by_cases hxy:X<YY
    ·have q2:(X:Int)<(YY:Int):=by omega
     obtain⟨X1,hX1⟩:=zx (X+4294967296)
     have w1:IntKind.u64.wrap ((X:Int)+4294967296)=(X1:Int):=by rw[show(X:Int)+4294967296=(X1:Int) by omega];exact IntWalk.u64_in _ (by omega)
     obtain⟨Z,hZ⟩:=zx (X1-YY)
     have w2:IntKind.u64.wrap ((X1:Int)-(YY:Int))=(Z:Int):=by rw[show(X1:Int)-(YY:Int)=(Z:Int) by omega];exact IntWalk.u64_in _ (by omega)
     have w3:(Z:Int) % 4294967296=(Z:Int):=by omega
     have w4:IntKind.u32.wrap (Z:Int)=(Z:Int):=by rw[IntKind.wrap_u32];omega
     have hs2:=hst Z 1 (by omega);have HQ:=zh (show i<LN/\Z<4294967296/\nv (l.take (i+1))+4294967296 ^ (i+1)*1=nv (O++[Z])+nv (lb.take (i+1)) from⟨hlt,by omega,hs2⟩);clear hst hs2 hZ hX1 hxy hYY hlt hi hk;subst hv5;go_wp2_with (at_builtin;refine app_u Z (.tmp 38) (.tmp 43) rfl rfl w.heap.size (.slice A5 O.length c5) i O HO.out.2.1 (by rfl) HO.out.1 (by rfl) (by have:=HL.out;have:=HQ.out;omega) HB.out.size ?_;intro v9 w9 hown9 hg9;have HB9:=zh (below_own HB.out HO.out.1 hg9);have HO9:=zh hown9;clear hown9 hg9 k1 k2);go_wp2_with fail;go_roundg (LN-(i+1))
     case measure=>have:=HQ.out.1;omega
     case rel=>exact⟨i+1,1,O++[Z],by have:=HQ.out.1;omega,rfl,by omega,by go_num,by go_num,HB9,zh ⟨HO9.out,by rw[zP,HO.out.2.1];rfl,HO.out.2.2.1.app (fun x hx=>by rw[List.mem_singleton.1 hx];exact HQ.out.2.1),HQ.out.2.2⟩⟩
    ·have q2:¬(X:Int)<(YY:Int):=by omega
     obtain⟨Z,hZ⟩:=zx (X-YY)
     have w2:IntKind.u64.wrap ((X:Int)-(YY:Int))=(Z:Int):=by rw[show(X:Int)-(YY:Int)=(Z:Int) by omega];exact IntWalk.u64_in _ (by omega)
     have w3:(Z:Int) % 4294967296=(Z:Int):=by omega
     have w4:IntKind.u32.wrap (Z:Int)=(Z:Int):=by rw[IntKind.wrap_u32];omega
     have hs2:=hst Z 0 (by omega);have HQ:=zh (show i<LN/\Z<4294967296/\nv (l.take (i+1))+4294967296 ^ (i+1)*0=nv (O++[Z])+nv (lb.take (i+1)) from⟨hlt,by omega,hs2⟩);clear hst hs2 hZ hxy hYY hlt hi hk;subst hv5;go_wp2_with (at_builtin;refine app_u Z (.tmp 38) (.tmp 43) rfl rfl w.heap.size (.slice A5 O.length c5) i O HO.out.2.1 (by rfl) HO.out.1 (by rfl) (by have:=HL.out;have:=HQ.out;omega) HB.out.size ?_;intro v9 w9 hown9 hg9;have HB9:=zh (below_own HB.out HO.out.1 hg9);have HO9:=zh hown9;clear hown9 hg9 k1 k2);go_wp2_with fail;go_roundg (LN-(i+1))
     case measure=>have:=HQ.out.1;omega
     case rel=>exact⟨i+1,0,O++[Z],by have:=HQ.out.1;omega,rfl,by omega,by go_num,by go_num,HB9,zh ⟨HO9.out,by rw[zP,HO.out.2.1];rfl,HO.out.2.2.1.app (fun x hx=>by rw[List.mem_singleton.1 hx];exact HQ.out.2.1),HQ.out.2.2⟩⟩
   ·obtain⟨V,hV0⟩:∃y:Nat,y=0:=⟨_,rfl⟩
    have hV32:V<4294967296:=by omega
    have i4:¬(i:Int)<(M:Int):=by omega
    have hst:∀z c',X+4294967296*c'=z+(k+V)->nv (l.take (i+1))+4294967296 ^ (i+1)*c'=nv (O++[z])+nv (lb.take (i+1)):=fun z c' h=>by
     rw[take_step xl,take_past (l:=lb) (i:=i) (by rw[<-HL.out.2.2.2.1];omega),nv_snoc,HO.out.2.1,Nat.pow_succ];have:=minus_step h HO.out.2.2.2;rw[hV0,Nat.mul_zero,Nat.add_zero] at this;exact this
    clear hnx hX xl hil

    obtain⟨YY,hYY⟩:=zx (k+V)
    have hkv:IntKind.u64.wrap ((k:Int)+(V:Int))=(YY:Int):=by rw[<-Int.natCast_add,<-hYY];exact IntWalk.u64_in _ (by omega)
    rw[<-hYY] at hst
    obtain rfl:YY=k:=by omega
    clear hkv;by_cases hxy:X<YY
    ·have q2:(X:Int)<(YY:Int):=by omega
     obtain⟨X1,hX1⟩:=zx (X+4294967296)
     have w1:IntKind.u64.wrap ((X:Int)+4294967296)=(X1:Int):=by rw[show(X:Int)+4294967296=(X1:Int) by omega];exact IntWalk.u64_in _ (by omega)
     obtain⟨Z,hZ⟩:=zx (X1-YY)
     have w2:IntKind.u64.wrap ((X1:Int)-(YY:Int))=(Z:Int):=by rw[show(X1:Int)-(YY:Int)=(Z:Int) by omega];exact IntWalk.u64_in _ (by omega)
     have w3:(Z:Int) % 4294967296=(Z:Int):=by omega
     have w4:IntKind.u32.wrap (Z:Int)=(Z:Int):=by rw[IntKind.wrap_u32];omega
     have hs2:=hst Z 1 (by omega);have HQ:=zh (show i<LN/\Z<4294967296/\nv (l.take (i+1))+4294967296 ^ (i+1)*1=nv (O++[Z])+nv (lb.take (i+1)) from⟨hlt,by omega,hs2⟩);clear hst hs2 hZ hX1 hxy hYY hlt hi hk;subst hv5;go_wp2_with (at_builtin;refine app_u Z (.tmp 38) (.tmp 43) rfl rfl w.heap.size (.slice A5 O.length c5) i O HO.out.2.1 (by rfl) HO.out.1 (by rfl) (by have:=HL.out;have:=HQ.out;omega) HB.out.size ?_;intro v9 w9 hown9 hg9;have HB9:=zh (below_own HB.out HO.out.1 hg9);have HO9:=zh hown9;clear hown9 hg9 k1);go_wp2_with fail;go_roundg (LN-(i+1))
     case measure=>have:=HQ.out.1;omega
     case rel=>exact⟨i+1,1,O++[Z],by have:=HQ.out.1;omega,rfl,by omega,by go_num,by go_num,HB9,zh ⟨HO9.out,by rw[zP,HO.out.2.1];rfl,HO.out.2.2.1.app (fun x hx=>by rw[List.mem_singleton.1 hx];exact HQ.out.2.1),HQ.out.2.2⟩⟩
    ·have q2:¬(X:Int)<(YY:Int):=by omega
     obtain⟨Z,hZ⟩:=zx (X-YY)
     have w2:IntKind.u64.wrap ((X:Int)-(YY:Int))=(Z:Int):=by rw[show(X:Int)-(YY:Int)=(Z:Int) by omega];exact IntWalk.u64_in _ (by omega)
     have w3:(Z:Int) % 4294967296=(Z:Int):=by omega
     have w4:IntKind.u32.wrap (Z:Int)=(Z:Int):=by rw[IntKind.wrap_u32];omega
     have hs2:=hst Z 0 (by omega);have HQ:=zh (show i<LN/\Z<4294967296/\nv (l.take (i+1))+4294967296 ^ (i+1)*0=nv (O++[Z])+nv (lb.take (i+1)) from⟨hlt,by omega,hs2⟩);clear hst hs2 hZ hxy hYY hlt hi hk;subst hv5;go_wp2_with (at_builtin;refine app_u Z (.tmp 38) (.tmp 43) rfl rfl w.heap.size (.slice A5 O.length c5) i O HO.out.2.1 (by rfl) HO.out.1 (by rfl) (by have:=HL.out;have:=HQ.out;omega) HB.out.size ?_;intro v9 w9 hown9 hg9;have HB9:=zh (below_own HB.out HO.out.1 hg9);have HO9:=zh hown9;clear hown9 hg9 k1);go_wp2_with fail;go_roundg (LN-(i+1))
     case measure=>have:=HQ.out.1;omega
     case rel=>exact⟨i+1,0,O++[Z],by have:=HQ.out.1;omega,rfl,by omega,by go_num,by go_num,HB9,zh ⟨HO9.out,by rw[zP,HO.out.2.1];rfl,HO.out.2.2.1.app (fun x hx=>by rw[List.mem_singleton.1 hx];exact HQ.out.2.1),HQ.out.2.2⟩⟩
  ·have hie:LN=i:=by omega
   subst hie
   have hfin:Lim O/\nv O=nv l-y/\O.length<=701:=by
    refine⟨HO.out.2.2.1,?_,by rw[HO.out.2.1];have:=HL.out;omega⟩;have h:=HO.out.2.2.2;rw[List.take_of_length_le (l:=l) (by rw[HL.out.1];exact zR _),List.take_of_length_le (l:=lb) (by have:=HL.out;omega),HL.out.2.2.2.2.2.1] at h;have h2:=nv_lt HO.out.2.2.1;rw[HO.out.2.1] at h2;have h3:=HL.out.2.2.2.2.2.2.1;rcases Nat.eq_zero_or_pos k with h0 | h0
    ·rw[h0,Nat.mul_zero] at h;omega
    ·have:k=1:=by omega
     rw[this,Nat.mul_one] at h;omega
   have HF:=zh hfin;clear hlt hi hfin hk;subst hv5;go_wp2_with fail;refine(trim_any _ _ _ W4 (HO.out.1.lsBl HF.out.1) (fun b h=>h) (by have:=HF.out.2.2;omega)).mono ?_;rintro e w10 ⟨u,rfl,ho,hb10⟩;rw[<-limbs_nv HF.out.1,HF.out.2.1] at ho;have HO10:=zh (ho.base (B':=w.heap.size) HB.out.size);have HB10:=zh (HB.out.trans (hb10.mono HB.out.size));clear ho hb10;go_wp2_with fail;go_ret;exact⟨_,rfl,HO10.out,HB10.out⟩
theorem nv_set{l:List Nat}{i x y:Nat}(h:l[i]?=some x):nv (l.set i y)+4294967296 ^ i*x=nv l+4294967296 ^ i*y:=by
 have hi:=(zL.1 h).1;have e1:=nv_take (l.set i y) i;have e2:=nv_take l i;rw[List.length_set,Nat.min_eq_left (by omega)] at e1;rw[Nat.min_eq_left (by omega)] at e2;rw[List.take_set_of_le (zR i),drop_set_self hi] at e1;rw[List.drop_eq_getElem_cons hi,(zL.1 h).2] at e2;simp only[nv] at e1 e2;rw[e1,e2,Nat.mul_add,Nat.mul_add];omega
theorem times_step{O l:List Nat}{i o x g:Nat}(ho:O[i]?=some o)(ho1:O[i+1]?=some 0)(hx:l[i]?=some x)(h:nv O=nv (l.take i)*g) :
  nv ((O.set i ((x*g+o) % 4294967296)).set (i+1) ((x*g+o) / 4294967296))=nv (l.take (i+1))*g:=by
 have e1:=nv_set (y:=(x * g+o) % 4294967296) ho;have e2:=nv_set (l:=O.set i ((x * g+o) % 4294967296)) (i:=i+1) (x:=0) (y:=(x * g+o) / 4294967296) (by rw[List.getElem?_set_ne (by omega)];exact ho1);have hi:=(zL.1 hx).1;rw[take_step hx,Nat.add_mul,<-h];rw[Nat.mul_zero,Nat.add_zero,Nat.pow_succ] at e2;rw[e2];have e3:=Nat.div_add_mod (x * g+o) 4294967296;have e4:4294967296 ^ i * x * g=4294967296 ^ i * (x * g):=Nat.mul_assoc _ _ _;rw[e4];generalize (x * g+o) / 4294967296=q at *;generalize (x * g+o) % 4294967296=r at *;generalize x * g=y at *;generalize 4294967296 ^ i=P at *
 have e5:P*(4294967296*q+r)=P*(y+o):=by rw[e3]
 rw[Nat.mul_add,Nat.mul_add,<-Nat.mul_assoc] at e5;omega
theorem rtimesG_any(va vb:Value)(y g:Nat)(w:World)(ha:LS w (Bl w.heap.size) va (limbs y))(hb:LS w (Bl w.heap.size) vb (natL g))(hl:(limbs y).length<=600)(hy:0<y) :
  Calls Tryz.prog 175 #[va,vb] w fun e w'=>∃u,e=.returned u/\OwnL w' w.heap.size u (limbs (y*g))/\Below w.heap.size w w':=by
 have hg32:=hb.lt32;obtain⟨A,c,rfl,-,-⟩:=ha.form
 have hl0:0<(limbs y).length:=by obtain⟨m,t,e,-⟩:=limbs_snoc hy;rw[e];simp
 obtain⟨b1,o1,rfl,hR1,hc1⟩:=ha.reads hl0;obtain⟨l,hll⟩:=zx (limbs y)
 have hnv:nv l=y:=by rw[hll,nv_limbs]
 have hlim:Lim l:=by rw[hll];exact lim_limbs y
 rw[<-hll] at hl hl0 hc1 ⊢;obtain⟨LN,hLN⟩:=zx l.length;rw[<-hLN] at hl hl0 ⊢;have HRD:=zh (show ∀w',(∀b,b<w.heap.size->w'.heap[b]?=w.heap[b]?)->∀(i x:Nat),l[i]?=some x->w'.cell? ⟨b1,o1+i,none⟩=some (.int .u32 (x:Int)) from fun w' hk i x hx=>hc1 i x hx w' (hk b1 hR1));have HL:=zh (show LN=l.length/\Lim l/\nv l=y/\LN<=600 from⟨hLN,hlim,hnv,hl⟩)
 have l600:(LN:Int)<=600:=by omega
 rcases Nat.eq_zero_or_pos g with hg0 | hg0
 ·have hlb:(natL g).length=0:=by rw[hg0];rfl
  obtain⟨B,d,rfl,-,-⟩:=hb.form;rw[hlb];have HE:=zh (show limbs (y*g)=[] by rw[hg0,Nat.mul_zero,limbs_zero]);have hmk:=mk_u32n LN (by omega);obtain⟨W3,hW3⟩:=zx (w.alloc (.cells (Array.replicate LN (.int .u32 0)) 107));obtain⟨q,hq⟩:=zx w.heap.size
  have hru:RowU W3 q (List.replicate LN 0):=by rw[hW3,hq];exact RowU.new w LN
  have hb3:Below w.heap.size w W3:=by rw[hW3];exact(zB _ _).alloc (zR _) _
  have HRU:=zh hru;have HB3:=zh hb3;have HW3:=zh (And.intro hW3 hq);clear ha hb hl hl0 hR1 hc1 hll hnv hlim hLN hlb hg0 hg32 hW3 hq hru hb3 hy;go_enter Tryz.func175,Tryz.ntmps175;go_upto_region 2 with fail;rw[<-HW3.out.1,<-HW3.out.2];clear hmk;go_wp2_with fail;go_loopg [6] LN (fun z v6 wr=>∃i:Nat,i<=LN/\z=LN-i/\v6=.int .i64 (i:Int)/\Hid (Below w.heap.size w wr)/\Hid (RowU wr q (List.replicate LN 0)))
  case atStart=>exact⟨0,Nat.zero_le _,rfl,rfl,HB3,HRU⟩
  case round =>
   obtain⟨i,hi,rfl,rfl,HB,HO⟩:=hrel;obtain⟨W4,hW4⟩:=zx wr;rw[<-hW4] at HB HO ⊢;clear hW4;by_cases hlt:i<LN
   ·have i1:(i:Int)<(LN:Int):=by omega
    have kg:W4.cell? ⟨q,i,none⟩=some (.int .u32 ((0:Nat):Int)):=HO.out.cell (by rw[List.getElem?_replicate,if_pos hlt]);have kf:=HO.out.fz i;have HB5:=zh (HB.out.setCell (p:=⟨q,i,none⟩) (by show w.heap.size<=q;rw[HW3.out.2];exact zR _) (.int .u32 0))
    have HO5:=zh (show RowU (W4.setCell ⟨q,i,none⟩ (.int .u32 0)) q (List.replicate LN 0) from by
     have h:=HO.out.set i 0
     have e:(List.replicate LN 0).set i 0=List.replicate LN 0:=by
      refine List.ext_getElem? (fun k=>?_);rw[List.getElem?_set];split
      ·rename_i h;subst h;rw[List.length_replicate,if_pos hlt,List.getElem?_replicate,if_pos hlt]
      ·rfl
     rw[e] at h
     exact h)
    obtain⟨W5,hW5⟩:=zx (W4.setCell ⟨q,i,none⟩ (.int .u32 0));rw[<-hW5] at HB5 HO5;have HW5:=zh hW5;have HQ:=zh hlt;clear hW5 hlt;go_wp2_with fail;go_loopg [7,8] 0 (fun z v7 v8 wk=>z=0/\v7=.int .u64 0/\v8=.int .i64 0/\W4=wk)
    case atStart=>exact⟨rfl,rfl,rfl,rfl⟩
    case round =>
     obtain⟨rfl,rfl,rfl,rfl⟩:=hrel;go_wp2_with fail;rw[<-HW5.out];go_roundg (LN-(i+1))
     case measure=>have:=HQ.out;omega
     case rel=>exact⟨i+1,HQ.out,rfl,by go_num,HB5,HO5⟩
   ·have hie:LN=i:=by omega
    subst hie;have hls:=HO.out.ls (R:=Bl W4.heap.size) HO.out.lt (fun x hx=>by rw[(List.mem_replicate.1 hx).2];omega) (by rw[List.length_replicate];have:=HL.out;unfold maxLen;omega);have HT:=zh (trim_any _ _ _ W4 hls (fun b h=>h) (by rw[List.length_replicate];have:=HL.out;omega));rw[List.length_replicate,<-limbs_nv hls.lim,nv_zeros,limbs_zero] at HT;clear hlt hi hls;go_wp2_with fail;refine HT.out.mono ?_;rintro e w10 ⟨u,rfl,ho,hb10⟩;have HO10:=zh (ho.base (B':=w.heap.size) HB.out.size);have HB10:=zh (HB.out.trans (hb10.mono HB.out.size));clear ho hb10;go_wp2_with fail;go_ret;exact⟨_,rfl,by rw[HE.out];exact HO10.out,HB10.out⟩
 ·have hlb:(natL g).length=1:=by rw[natL_pos hg0];rfl
  obtain⟨B,d,rfl,-,-⟩:=hb.form;rw[hlb] at hb ⊢;obtain⟨b2,o2,rfl,hR2,hc2⟩:=hb.one hg0;have hmk:=mk_u32n (LN+1) (by omega);obtain⟨L1,hL1⟩:=zx (LN+1);rw[<-hL1] at hmk
  have u1:IntKind.i64.wrap ((LN:Int)+1)=(L1:Int):=by rw[hL1];exact zI _ (by omega)
  obtain⟨W3,hW3⟩:=zx (w.alloc (.cells (Array.replicate L1 (.int .u32 0)) 107));obtain⟨q,hq⟩:=zx w.heap.size
  have hru:RowU W3 q (List.replicate L1 0):=by rw[hW3,hq];exact RowU.new w L1
  have hb3:Below w.heap.size w W3:=by rw[hW3];exact(zB _ _).alloc (zR _) _
  have HRU:=zh hru;have HB3:=zh hb3;have HW3:=zh (And.intro hW3 hq);have HK2:=zh (show ∀w',Below w.heap.size w w'->w'.cell? ⟨b2,o2,none⟩=some (.int .u32 (g:Int)) from fun w' hk=>(hk.cell (p:=⟨b2,o2,none⟩) hR2).trans hc2);have HLL:=zh (And.intro hL1 hg32)
  have hLL1:(LN:Int)<(L1:Int):=by omega
  have g0:(0:Int)<=(g:Int):=by omega
  clear ha hb hl hl0 hR1 hc1 hll hnv hlim hLN hlb hg0 hg32 hW3 hq hru hb3 hy hR2 hc2 hL1;go_enter Tryz.func175,Tryz.ntmps175;go_upto_region 2 with fail;rw[<-HW3.out.1,<-HW3.out.2];clear hmk;go_wp2_with fail;go_loopg [6] LN (fun z v6 wr=>∃(i:Nat) (O:List Nat),i<=LN/\z=LN-i/\v6=.int .i64 (i:Int)/\Hid (Below w.heap.size w wr)/\Hid (RowU wr q O/\O.length=L1/\Lim O/\(∀k,i<k->k<L1->O[k]?=some 0)/\nv O=nv (l.take i)*g))
  case atStart=>exact⟨0,List.replicate L1 0,Nat.zero_le _,rfl,rfl,HB3,zh ⟨HRU.out,List.length_replicate,fun x hx=>by rw[(List.mem_replicate.1 hx).2];omega,fun k _ hk=>by rw[List.getElem?_replicate,if_pos hk],by rw[nv_zeros];simp[nv]⟩⟩
  case round =>
   obtain⟨i,O,hi,rfl,rfl,HB,HO⟩:=hrel;obtain⟨W4,hW4⟩:=zx wr;rw[<-hW4] at HB HO ⊢;clear hW4;by_cases hlt:i<LN
   ·have i1:(i:Int)<(LN:Int):=by omega
    have i3:(i:Int)<(L1:Int):=by omega
    have hil:i<l.length:=by rw[<-HL.out.1];exact hlt
    have xl:=zG hil;obtain⟨X,hX⟩:=zx (l[i]);rw[<-hX] at xl;have hX32:X<4294967296:=HL.out.2.1 X (List.mem_of_getElem? xl);have k1:=HRD.out W4 (fun b hb=>HB.out.block b hb) i X xl;have k2:=HK2.out W4 HB.out
    have hiO:i<O.length:=by rw[HO.out.2.1,HLL.out.1];omega
    have ol:=zG hiO;obtain⟨Y,hY⟩:=zx (O[i]);rw[<-hY] at ol;have hY32:Y<4294967296:=HO.out.2.2.1 Y (List.mem_of_getElem? ol);have k3:=HO.out.1.cell ol;have kf3:=HO.out.1.fz i;have ol1:O[i+1]?=some 0:=HO.out.2.2.2.1 (i+1) (by omega) (by rw[HLL.out.1];omega);have hst:=times_step (g:=g) ol ol1 xl HO.out.2.2.2.2;have hpp:X*g<=4294967295*4294967295:=Nat.mul_le_mul (by omega) (by have:=HLL.out.2;omega)
    have w1:IntKind.u64.wrap ((X:Int)*(g:Int))=((X*g:Nat):Int):=by rw[<-Int.natCast_mul];exact IntWalk.u64_in _ (by omega)
    obtain⟨PP,hPP⟩:=zx (X*g);rw[<-hPP] at w1 hst hpp;obtain⟨T,hT⟩:=zx (PP+Y)
    have w2:IntKind.u64.wrap ((PP:Int)+(Y:Int))=(T:Int):=by rw[hT,<-Int.natCast_add];exact IntWalk.u64_in _ (by omega)
    have w3:IntKind.u64.wrap (T:Int)=(T:Int):=IntWalk.u64_in _ (by omega);rw[<-hT] at hst;have t0:IntKind.u64.wrap (X:Int)=(X:Int):=IntWalk.u64_in _ (by omega);have t1:IntKind.u64.wrap (Y:Int)=(Y:Int):=IntWalk.u64_in _ (by omega);have t2:IntKind.u64.wrap (g:Int)=(g:Int):=IntWalk.u64_in _ (by have:=HLL.out.2;omega);obtain⟨LO,hLO⟩:=zx (T % 4294967296);obtain⟨HI,hHI⟩:=zx (T / 4294967296);rw[<-hLO,<-hHI] at hst
    have hlo:(T:Int) % 4294967296=(LO:Int):=by omega
    have hlow:IntKind.u32.wrap (T:Int)=(LO:Int):=by rw[IntKind.wrap_u32];omega
    have hhi:(T:Int) / 4294967296=(HI:Int):=by omega
    have hhm:(HI:Int) % 4294967296=(HI:Int):=by omega
    have hhw:IntKind.u32.wrap (HI:Int)=(HI:Int):=by rw[IntKind.wrap_u32];omega
    obtain⟨I1,hI1⟩:=zx (i+1)
    have a4:IntKind.i64.wrap ((i:Int)+1)=(I1:Int):=by rw[hI1];exact zI _ (by have:=HL.out;omega)
    have i4:(I1:Int)<(L1:Int):=by have:=HLL.out.1;omega
    have HIS:=zh (show I1=i+1/\i<LN/\LO<4294967296/\HI<4294967296/\nv ((O.set i LO).set (i+1) HI)=nv (l.take (i+1))*g/\O[i+1]?=some 0 from⟨hI1,hlt,by omega,by omega,hst,ol1⟩);clear hX xl hil hiO hY ol ol1 hst hPP hpp hT hLO hHI hI1 hlt hX32 hY32;go_wp2_with fail;go_loopg [7,8] 1 (fun z v7 v8 wk=>(z=1/\v7=.int .u64 0/\v8=.int .i64 0/\Hid (∃k,wk=W4.drewN k))\/(z=0/\v7=.int .u64 (HI:Int)/\v8=.int .i64 1/\Hid (RowU wk q (O.set i LO)/\Below w.heap.size w wk)))
    case atStart=>exact .inl ⟨rfl,rfl,rfl,⟨0,rfl⟩⟩
    case round =>
     rcases hrel with ⟨rfl,rfl,rfl,hk⟩ | ⟨rfl,rfl,rfl,HR⟩
     ·obtain⟨k,rfl⟩:=hk.out;clear hk;obtain⟨W5,hW5⟩:=zx (W4.drewN k)
      have c1:W5.cell? ⟨b1,o1+i,none⟩=some (.int .u32 (X:Int)):=by rw[hW5];exact k1
      have c2:W5.cell? ⟨b2,o2,none⟩=some (.int .u32 (g:Int)):=by rw[hW5];exact k2
      have c3:W5.cell? ⟨q,i,none⟩=some (.int .u32 (Y:Int)):=by rw[hW5];exact k3
      have HB5:=zh (show Below w.heap.size w W5 from by rw[hW5];exact Below.drewN' HB.out k);have HR5:=zh (show RowU W5 q O from HO.out.1.of (by rw[hW5];rfl));rw[<-hW5];clear hW5 k1 k2 k3 kf3;go_wp2_with fail
      go_quiet (fail)
      obtain⟨W6,hW6⟩:=zx (W5.drewN nq);rw[<-hW6];have kf:=(HR5.out.of (w':=W6) (by rw[hW6];rfl)).fz i
      have kc:W6.cell? ⟨q,i,none⟩=some (.int .u32 (Y:Int)):=by rw[hW6];exact c3
      obtain⟨W7,hW7⟩:=zx (W6.setCell ⟨q,i,none⟩ (.int .u32 (LO:Int)));have HR7:=zh (show RowU W7 q (O.set i LO)/\Below w.heap.size w W7 from⟨by rw[hW7];exact(HR5.out.of (w':=W6) (by rw[hW6];rfl)).set i LO,by rw[hW7,hW6];exact(Below.drewN' HB5.out nq).setCell (p:=⟨q,i,none⟩) (by show w.heap.size<=q;rw[HW3.out.2];exact zR _) _⟩);have HW7:=zh hW7;clear hW6 hW7 c1 c2 c3;go_wp2_with fail;rw[<-HW7.out];go_roundg 0
      case measure=>omega
      case rel=>exact .inr ⟨rfl,rfl,rfl,HR7⟩
     ·obtain⟨W5,hW5⟩:=zx wr;rw[<-hW5] at HR ⊢;clear hW5 k1 k2 k3 kf3;have kz:W5.cell? ⟨q,I1,none⟩=some (.int .u32 ((0:Nat):Int)):=HR.out.1.cell (by rw[HIS.out.1,List.getElem?_set_ne (by omega)];exact HIS.out.2.2.2.2.2);have kf:=HR.out.1.fz I1;obtain⟨W7,hW7⟩:=zx (W5.setCell ⟨q,I1,none⟩ (.int .u32 (HI:Int)));have HB7:=zh (show Below w.heap.size w W7 from by rw[hW7];exact HR.out.2.setCell (p:=⟨q,I1,none⟩) (by show w.heap.size<=q;rw[HW3.out.2];exact zR _) _)
      have HO7:=zh (show RowU W7 q ((O.set i LO).set (i+1) HI)/\((O.set i LO).set (i+1) HI).length=L1/\Lim ((O.set i LO).set (i+1) HI)/\(∀k,i+1<k->k<L1->((O.set i LO).set (i+1) HI)[k]?=some 0)/\nv ((O.set i LO).set (i+1) HI)=nv (l.take (i+1))*g from⟨by rw[hW7,HIS.out.1];exact HR.out.1.set (i+1) HI,by rw[List.length_set,List.length_set];exact HO.out.2.1,fun x hx=>by
       rcases List.mem_or_eq_of_mem_set hx with h | h
       ·rcases List.mem_or_eq_of_mem_set h with h | h
        ·exact HO.out.2.2.1 x h
        ·rw[h];exact HIS.out.2.2.1
       ·rw[h];exact HIS.out.2.2.2.1,fun k h1 h2=>by
       rw[List.getElem?_set_ne (by omega),List.getElem?_set_ne (by omega)]
       exact HO.out.2.2.2.1 k (by omega) h2,HIS.out.2.2.2.2.1⟩)
      have HW7:=zh hW7;clear hW7;go_wp2_with fail;rw[<-HW7.out];go_roundg (LN-(i+1))
      case measure=>have:=HIS.out;omega
      case rel=>exact⟨i+1,_,HIS.out.2.1,rfl,by rw[HIS.out.1],HB7,HO7⟩
   ·have hie:LN=i:=by omega
    subst hie;have hls:=HO.out.1.ls (R:=Bl W4.heap.size) HO.out.1.lt HO.out.2.2.1 (by rw[HO.out.2.1,HLL.out.1];have:=HL.out;unfold maxLen;omega);have HT:=zh (trim_any _ _ _ W4 hls (fun b h=>h) (by rw[HO.out.2.1,HLL.out.1];have:=HL.out;omega));rw[<-limbs_nv hls.lim,HO.out.2.2.2.2,List.take_of_length_le (by rw[HL.out.1];exact zR _),HL.out.2.2.1,HO.out.2.1] at HT;clear hlt hi hls;go_wp2_with fail;refine HT.out.mono ?_;rintro e w10 ⟨u,rfl,ho,hb10⟩;have HO10:=zh (ho.base (B':=w.heap.size) HB.out.size);have HB10:=zh (HB.out.trans (hb10.mono HB.out.size));clear ho hb10;go_wp2_with fail;go_ret;exact⟨_,rfl,HO10.out,HB10.out⟩
def RowX(w:World)(base g c:Nat)(l:List Nat):Prop:=OwnL w base (.slice (some ⟨g,0,none⟩) l.length c) l
theorem RowX.of{w:World}{base:Nat}{v:Value}{l:List Nat}(h:OwnL w base v l)(h0:0<l.length):∃g c,v=.slice (some ⟨g,0,none⟩) l.length c/\RowX w base g c l/\base<=g/\g<w.heap.size/\l.length<=c/\c<=maxLen:=by
 have h1:w.ownsRow base 107 1 v l.length (l.map u32V):=h;rcases h1.2 with ⟨rfl,h2⟩ | ⟨g,cap,cur,rfl,hb,hg,hn,hm,hs,ht⟩
 ·omega
 ·exact⟨g,cap,rfl,h,hb,(zA.1 hg).1,hn,hm⟩
theorem RowX.cell{w:World}{base g c:Nat}{l:List Nat}(h:RowX w base g c l){k x:Nat}(hk:l[k]?=some x):w.cell? ⟨g,k,none⟩=some (.int .u32 (x:Int)):=by
 have h1:w.ownsRow base 107 1 (.slice (some ⟨g,0,none⟩) l.length c) l.length (l.map u32V):=h;have:=h1.cellAt k (by have:=(zL.1 hk).1;omega);rw[this,List.getElem?_map,hk];rfl
theorem RowX.fz{w:World}{base g c:Nat}{l:List Nat}(h:RowX w base g c l)(k:Nat):w.frozen? ⟨g,k,none⟩=false:=by
 have h1:w.ownsRow base 107 1 (.slice (some ⟨g,0,none⟩) l.length c) l.length (l.map u32V):=h;exact h1.frozenAt k
theorem RowX.set{w:World}{base g c:Nat}{l:List Nat}(h:RowX w base g c l)(k y:Nat):RowX (w.setCell ⟨g,k,none⟩ (.int .u32 (y:Int))) base g c (l.set k y):=by
 have h1:w.ownsRow base 107 1 (.slice (some ⟨g,0,none⟩) l.length c) l.length (l.map u32V):=h;have:=(h1.stored k (.int .u32 (y:Int))).1;unfold RowX OwnL;rw[List.length_set,List.map_set];exact this
theorem RowX.take{w:World}{base g c:Nat}{l:List Nat}(h:RowX w base g c l)(m:Nat):RowX w base g c (l.take m):=by
 have h1:w.ownsRow base 107 1 (.slice (some ⟨g,0,none⟩) l.length c) l.length (l.map u32V):=h;unfold RowX OwnL;refine⟨by simp,?_⟩;rcases h1.2 with ⟨h2,-⟩ | ⟨g2,cap,cur,h2,hb,hg,hn,hm,hs,ht⟩
 ·cases h2
 ·injection h2 with h3 h4 h5;injection h3 with h3;injection h3 with h3;subst h3;subst h5;refine .inr ⟨g,c,cur,rfl,hb,hg,by rw[List.length_take];omega,hm,hs,?_⟩;rw[List.map_take,<-ht,List.take_take,List.length_take,Nat.mul_one,Nat.mul_one]
theorem RowX.kept{w w':World}{base g c:Nat}{l:List Nat}(h:RowX w base g c l)(e:w'.heap[g]?=w.heap[g]?):RowX w' base g c l:=by
 have h1:w.ownsRow base 107 1 (.slice (some ⟨g,0,none⟩) l.length c) l.length (l.map u32V):=h;refine⟨h1.1,?_⟩;rcases h1.2 with ⟨h2,-⟩ | ⟨g2,cap,cur,h2,hb,hg,hn,hm,hs,ht⟩
 ·cases h2
 ·have hgg:g=g2:=by injection h2 with h3;injection h3 with h3;injection h3
  subst hgg;exact .inr ⟨g,cap,cur,h2,hb,e.trans hg,hn,hm,hs,ht⟩
theorem RowX.lt{w:World}{base g c:Nat}{l:List Nat}(h:RowX w base g c l):g<w.heap.size:=by
 have h1:w.ownsRow base 107 1 (.slice (some ⟨g,0,none⟩) l.length c) l.length (l.map u32V):=h;exact(h1.lt g rfl).2
theorem RowX.ls{w:World}{base g c:Nat}{l:List Nat}(h:RowX w base g c l)(hx:Lim l):LS w (Fr base w.heap.size) (.slice (some ⟨g,0,none⟩) l.length c) l:=OwnL.ls h hx
theorem app_u2{ops:Array Oper}{rest:List Oper}{o:Oper}{a:Act}{Q:Exit->Act->World->Prop}{w:World}(s x:Operand)(hgd:o.guard=none)(ho:o.op=.call { callee:=.builtin .append,args:=#[s,x],argTypes:=#[24,24] })
  (base:Nat) (v:Value) (n:Nat) (xs:List Nat) (hl:xs.length=n) (hs:a.eval s=v) (hown:OwnL w base v xs)
  (hx:a.eval x=.slice (some ⟨w.heap.size,0,none⟩) 2 2) (hn:n+2<=16777216) (hbase:base<=w.heap.size)
  (h:∀v' w',OwnL w' base v' (xs++[0,0])->w.grownBy w' v.ownBlock->wpList Tryz.prog ops Q rest (a.put o.dst v') w') :
  wpList Tryz.prog ops Q (o :: rest) a (w.alloc (.cells #[.int .u32 0,.int .u32 0] 107)):=by
 obtain⟨i0,hi0,hz0,hz1,hz2⟩:=info_parts info_u32;unfold OwnL at hown;rw[hl] at hown;refine wpList_appendm hgd s x _ ho base i0 _ 1 4 Tryz.underlying24 hi0 hz0 hz1 hz2 rfl (by omega) (by omega) v n 2 _ hs hown hx rfl (by simp;rfl) hn hbase (fun v' w' h1 h2 _=>h v' w' ?_ h2);unfold OwnL;rw[zP,hl,List.map_append];exact h1
theorem addr_add0(b off j:Nat):(⟨b,off,none⟩:Addr).add j=⟨b,off+j,none⟩:=by unfold Addr.add;split <;> simp_all
theorem app_win{ops:Array Oper}{rest:List Oper}{o:Oper}{a:Act}{Q:Exit->Act->World->Prop}{w:World}(s x:Operand)(hgd:o.guard=none)(ho:o.op=.call { callee:=.builtin .append,args:=#[s,x],argTypes:=#[24,24] })
  (hs:a.eval s=.slice none 0 0) (g off m c:Nat) (l:List Nat) (hl:l.length=m) (hx:a.eval x=.slice (some ⟨g,off,none⟩) m c) (hc:∀k y,l[k]?=some y->w.cell? ⟨g,off+k,none⟩=some (u32V y)) (hm:m<=16777216)
  (h:∀v' w',OwnL w' w.heap.size v' l->Below w.heap.size w w'->wpList Tryz.prog ops Q rest (a.put o.dst v') w') :
  wpList Tryz.prog ops Q (o :: rest) a w:=by
 obtain⟨i0,hi0,hz0,hz1,hz2⟩:=info_parts info_u32;refine wpList_append_own_at (P:=Tryz.prog) _ hgd s x _ ho w.heap.size 107 i0 _ 1 4 Tryz.underlying24 hi0 hz0 hz1 hz2 rfl (by decide) (.slice none 0 0) 0 [] hs (World.ownsRow_nil _ _ _ _) ⟨g,off,none⟩ m c (l.map u32V) hx (by simp[hl]) ?_ (fun u hu=>by obtain⟨x,-,rfl⟩:=List.mem_map.1 hu;rfl) (by unfold maxLen;omega) (by omega) (zR _) (fun v' w' h1 h2 _ _=>h v' w' ?_ (below_none h2))
 ·intro j u hu;have e1:(⟨g,off,none⟩:Addr).add j=⟨g,off+j,none⟩:=addr_add0 g off j;rw[e1];rw[List.getElem?_map] at hu
  cases hy:l[j]? with
  | none=>rw[hy] at hu;cases hu
  | some y=>rw[hy] at hu;injection hu with hu;rw[<-hu];exact hc j y hy
 ·unfold OwnL;rw[hl];rw[Nat.zero_add,List.nil_append] at h1;exact h1
theorem app_winW{o:Oper}{a:Act}{K:Act->World->Prop}{Q:Exit->Act->World->Prop}{w:World}(s x:Operand)(ho:o.op=.call { callee:=.builtin .append,args:=#[s,x],argTypes:=#[24,24] })
  (hs:a.eval s=.slice none 0 0) (g off m c:Nat) (l:List Nat) (hl:l.length=m) (hx:a.eval x=.slice (some ⟨g,off,none⟩) m c) (hc:∀k y,l[k]?=some y->w.cell? ⟨g,off+k,none⟩=some (u32V y)) (hm:m<=16777216)
  (h:∀v' w',OwnL w' w.heap.size v' l->Below w.heap.size w w'->K (a.put o.dst v') w'):o.wp Tryz.prog a w K Q:=by
 obtain⟨i0,hi0,hz0,hz1,hz2⟩:=info_parts info_u32;refine wp_append_own w s x _ ho w.heap.size 107 i0 _ 1 4 Tryz.underlying24 hi0 hz0 hz1 hz2 rfl (by decide) (.slice none 0 0) 0 [] hs (World.ownsRow_nil _ _ _ _) ⟨g,off,none⟩ m c (l.map u32V) hx (by simp[hl]) ?_ (fun u hu=>by obtain⟨x,-,rfl⟩:=List.mem_map.1 hu;rfl) (by unfold maxLen;omega) (by omega) (zR _) (fun v' w' h1 h2 _=>h v' w' ?_ (below_none h2))
 ·intro j u hu;rw[addr_add0 g off j];rw[List.getElem?_map] at hu
  cases hy:l[j]? with
  | none=>rw[hy] at hu;cases hu
  | some y=>rw[hy] at hu;injection hu with hu;rw[<-hu];exact hc j y hy
 ·unfold OwnL;rw[hl];rw[Nat.zero_add,List.nil_append] at h1;exact h1
theorem bl_pos{n:Nat}:0<bl n↔0<n:=by
 unfold bl;split <;> omega
theorem bl_le_iff{n k:Nat}:bl n<=k↔n<2 ^ k:=by
 refine⟨fun h=>?_,bl_le k n⟩;rcases Nat.eq_zero_or_pos n with h0 | h0
 ·rw[h0];exact Nat.pow_pos (by omega)
 ·have h1:bl n=Nat.log2 n+1:=by unfold bl;rw[if_neg (by omega)]
  have h2:n<2 ^ (Nat.log2 n+1):=Nat.lt_log2_self;have h3:2 ^ (Nat.log2 n+1)<=2 ^ k:=Nat.pow_le_pow_right (by omega) (by omega);omega
theorem norm_s{y n bt:Nat}(hn:(limbs y).length=n+2)(hbt:(limbs y)[n+1]?=some bt):∃s,s<32/\2147483648<=bt*2 ^ s/\bt*2 ^ s<4294967296/\bl y+s=32*(n+2):=by
 have hy:0<y:=by rcases Nat.eq_zero_or_pos y with h | h;(subst h;rw[limbs_zero] at hn;simp at hn);exact h
 obtain⟨m,t,em,ht,ht2,hm⟩:=limbs_snoc hy
 have hml:m.length=n+1:=by rw[em] at hn;simp at hn;omega
 have hbt':t=bt:=by rw[em,<-hml] at hbt;simpa using hbt
 subst hbt'
 have hb:bl y=(n+1)*32+bl t:=by rw[<-nv_limbs y,em,bl_limbs hm ht,hml]
 have h1:=bl_32 ht2;have h2:=bl_pos.2 ht;have h3:t<2 ^ bl t:=bl_le_iff.1 (zR _)
 have h4:2 ^ (bl t-1)<=t:=by
  rcases Nat.lt_or_ge t (2 ^ (bl t-1)) with h | h
  ·have:=bl_le_iff.2 h;omega
  ·exact h
 refine⟨32-bl t,by omega,?_,?_,by omega⟩
 ·have:=Nat.mul_le_mul_right (2 ^ (32-bl t)) h4;rw[<-Nat.pow_add,show bl t-1+(32-bl t)=31 by omega] at this;exact this
 ·have:=Nat.mul_lt_mul_of_pos_right h3 (show 0<2 ^ (32-bl t) from Nat.pow_pos (by omega));rw[<-Nat.pow_add,show bl t+(32-bl t)=32 by omega] at this;exact this
theorem win_get{U:List Nat}{j n k y:Nat}(h:(win U j n)[k]?=some y):U[j+k]?=some y:=by
 unfold win at h;rw[List.getElem?_take] at h;split at h
 ·rwa [List.getElem?_drop] at h
 ·cases h
theorem norm_v{y n s bt:Nat}{O:List Nat}(hn:(limbs y).length=n+2)(hbt:(limbs y)[n+1]?=some bt)(hs:s<32)(hs1:2147483648<=bt*2 ^ s)(hs2:bt*2 ^ s<4294967296)(hO:Lim O)(hOl:O.length=n+3)(hv:nv O=y*2 ^ s) :
  nv (O.take (n+2))=y*2 ^ s/\∃vl next top,O.take (n+2)=vl++[next,top]/\vl.length=n/\next<4294967296/\2147483648<=top/\top<4294967296:=by
 have hy:0<y:=by rcases Nat.eq_zero_or_pos y with h | h;(subst h;rw[limbs_zero] at hn;simp at hn);exact h
 obtain⟨m,t,em,ht,ht2,hm⟩:=limbs_snoc hy
 have hml:m.length=n+1:=by rw[em] at hn;simp at hn;omega
 have hbt':t=bt:=by rw[em,<-hml] at hbt;simpa using hbt
 subst hbt'
 have ey:y=nv m+4294967296 ^ (n+1)*t:=by rw[<-nv_limbs y,em,nv_snoc,hml]
 have hmlt:=nv_lt hm;rw[hml] at hmlt
 have hp:4294967296=2 ^ s*2 ^ (32-s):=by rw[<-Nat.pow_add,show s+(32-s)=32 by omega]
 have hp0:0<2 ^ s:=Nat.pow_pos (by omega)
 have ht3:(t+1)*2 ^ s<=4294967296:=by
  have h1:t<2 ^ (32-s):=by
   rw[hp,Nat.mul_comm t] at hs2;exact Nat.lt_of_mul_lt_mul_left hs2
  conv=>rhs;rw[hp,Nat.mul_comm]
  exact Nat.mul_le_mul_right _ h1
 have hP0:0<4294967296 ^ (n+1):=Nat.pow_pos (by omega)
 have hyt:y<4294967296 ^ (n+1)*(t+1):=by rw[Nat.mul_add,Nat.mul_one];omega
 have hlt:nv O<4294967296 ^ (n+1)*4294967296:=by
  rw[hv]
  calc y*2 ^ s<4294967296 ^ (n+1)*(t+1)*2 ^ s:=Nat.mul_lt_mul_of_pos_right hyt hp0
   _=4294967296 ^ (n+1)*((t+1)*2 ^ s):=Nat.mul_assoc _ _ _
   _<=_:=Nat.mul_le_mul_left _ ht3
 have hge:4294967296 ^ (n+1)*2147483648<=nv O:=by
  rw[hv,ey,Nat.add_mul,Nat.mul_assoc];exact Nat.le_trans (Nat.mul_le_mul_left _ hs1) (Nat.le_add_left _ _)
 have hO3:nv (O.take (n+2))=nv O:=by
  have h1:=nv_take O (n+2);rw[Nat.min_eq_left (by omega)] at h1;rcases Nat.eq_zero_or_pos (nv (O.drop (n+2))) with h0 | h0
  ·rw[h0,Nat.mul_zero] at h1;exact h1.symm
  ·have:=Nat.mul_le_mul_left (4294967296 ^ (n+2)) h0;rw[Nat.pow_succ] at this
   exfalso
   rw[Nat.pow_succ _ (n+1)] at h1;omega
 refine⟨hO3.trans hv,?_⟩
 have hVl:(O.take (n+2)).length=n+2:=by rw[List.length_take];omega
 have hVm:Lim (O.take (n+2)):=hO.take _;generalize O.take (n+2)=V at *
 have hVn:V≠[]:=by intro e;subst e;simp at hVl
 have e1:=(List.dropLast_concat_getLast hVn).symm
 have hl1:V.dropLast.length=n+1:=by rw[List.length_dropLast];omega
 have hVn2:V.dropLast≠[]:=by intro e;rw[e] at hl1;simp at hl1
 have e2:=(List.dropLast_concat_getLast hVn2).symm
 have hl2:V.dropLast.dropLast.length=n:=by rw[List.length_dropLast];omega
 refine⟨V.dropLast.dropLast,V.dropLast.getLast hVn2,V.getLast hVn,?_,hl2,hVm _ ((List.dropLast_sublist V).subset (List.getLast_mem hVn2)),?_,hVm _ (List.getLast_mem hVn)⟩
 ·conv=>lhs;rw[e1,e2]
  simp
 ·have h1:nv V=nv V.dropLast+4294967296 ^ (n+1)*V.getLast hVn:=by conv=>lhs;rw[e1,nv_snoc,hl1]
  have h2:nv V.dropLast<4294967296 ^ (n+1):=by
   have:=nv_lt (l:=V.dropLast) (fun x hx=>hVm x ((List.dropLast_sublist V).subset hx))
   rwa [hl1] at this
  rw[hO3] at h1;generalize V.getLast hVn=g at *
  have h3:4294967296 ^ (n+1)*2147483648<4294967296 ^ (n+1)*(g+1):=by rw[Nat.mul_add,Nat.mul_one];omega
  have:=Nat.lt_of_mul_lt_mul_left h3;omega
theorem norm_y{y n s bt:Nat}(hn:(limbs y).length=n+2)(hbt:(limbs y)[n+1]?=some bt)(hs:s<32)(hs1:2147483648<=bt*2 ^ s)(hs2:bt*2 ^ s<4294967296) :
  (limbs (y*2 ^ s)).length=n+2/\∃vl next top,limbs (y*2 ^ s)=vl++[next,top]/\vl.length=n/\next<4294967296/\2147483648<=top/\top<4294967296:=by
 have h1:=nv_lt (lim_limbs y);rw[nv_limbs,hn] at h1;have h2:2 ^ s<=2 ^ 32:=Nat.pow_le_pow_right (by omega) (by omega)
 have h3:y*2 ^ s<4294967296 ^ (n+3):=by
  rw[Nat.pow_succ];exact zM (Nat.mul_lt_mul_of_pos_right h1 (Nat.pow_pos (by omega))) (Nat.mul_le_mul_left _ h2)
 have h4:=limbs_len _ _ h3;obtain⟨O,hO⟩:=zx (limbs (y*2 ^ s)++List.replicate (n+3-(limbs (y*2 ^ s)).length) 0)
 have hOl:O.length=n+3:=by rw[hO,zP,List.length_replicate];omega
 have hOm:Lim O:=by rw[hO];exact(lim_limbs _).app (fun x hx=>by rw[(List.mem_replicate.1 hx).2];omega)
 have hOv:nv O=y*2 ^ s:=by rw[hO,nv_append,nv_zeros,nv_limbs];simp
 obtain⟨hv,vl,next,top,e,hl,hx,ht1,ht2⟩:=norm_v hn hbt hs hs1 hs2 hOm hOl hOv
 have htop:Top (O.take (n+2)):=by
  rw[e];intro z hz;rw[show vl++[next,top]=(vl++[next])++[top] by simp,List.getLast?_concat] at hz;injection hz with hz;omega
 have e2:limbs (y*2 ^ s)=O.take (n+2):=by
  rw[<-hv,limbs_nv (hOm.take _),trim_of_top htop]
 rw[e2];exact⟨by rw[List.length_take];omega,vl,next,top,e,hl,hx,ht1,ht2⟩
end Go.Proofs.YtgfaieppacabjaaGreat
