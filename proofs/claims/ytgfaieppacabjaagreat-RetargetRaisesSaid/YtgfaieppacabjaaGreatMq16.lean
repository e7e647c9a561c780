/- Parts. -/
import Derived.Test.YtgfaieppacabjaaGreatMq15
set_option linter.unusedSectionVars false
set_option maxRecDepth 100000
set_option maxHeartbeats 12800000
set_option linter.unusedVariables false
set_option linter.unusedSimpArgs false
namespace Go.Proofs.YtgfaieppacabjaaGreat
open Go.RowKit
theorem fdomains_any(ext:Int)(vl vm vv vp vo:Value)(vd:Value)(ds:List DomM)(w:World)(hd:SlS 7 DomK w (Bl w.heap.size) vd ds)(hok:DomOk ds)(h1:1<=ds.length)(h21:ds.length<=21)(fl:∃A n c,vl=.slice A n c)(fm:∃A n c,vm=.slice A n c)(fv:∃A n c,vv=.slice A n c)(fp:∃A n c,vp=.slice A n c)(fo:∃A n c,vo=.slice A n c) :
  Calls Tryz.prog 43 #[.agg #[.int .i64 ext,vl,vm,vd,vv,vp,vo]] w fun e w'=>e=.returned (.bool true)/\Below w.heap.size w w':=by
 obtain⟨Al,nl,cl,rfl⟩:=fl;obtain⟨Am,nm,cm,rfl⟩:=fm;obtain⟨Av,nv,cv,rfl⟩:=fv;obtain⟨Ap,np,cp,rfl⟩:=fp;obtain⟨Ao,no,co,rfl⟩:=fo;obtain⟨A,c,hvd,hlc,-⟩:=hd.form;subst hvd;obtain⟨b,off,cs0,rfl,hRb,-,hc0,hk0⟩:=hd.at_ (k:=0) h1
 have hroot:ds[0]=rootM:=by have:=hok.root;rw[zG h1] at this;injection this
 rw[hroot] at hk0;obtain⟨rn,rd,hcs0,hrn,hrd⟩:=hk0;obtain⟨n,hn⟩:=zx ds.length;rw[<-hn] at hd hlc h1 h21 ⊢;obtain⟨W0,hW0⟩:=zx (w.alloc (.cells #[.int .i64 ext,.slice Al nl cl,.slice Am nm cm,.slice (some ⟨b,off,none⟩) n c,.slice Av nv cv,.slice Ap np cp,.slice Ao no co] 35));obtain⟨q,hq⟩:=zx w.heap.size
 have hb0:Below w.heap.size w W0:=by rw[hW0];exact(zB _ _).alloc (zR _) _
 have hqk:W0.heap[q]?=some (.cells #[.int .i64 ext,.slice Al nl cl,.slice Am nm cm,.slice (some ⟨b,off,none⟩) n c,.slice Av nv cv,.slice Ap np cp,.slice Ao no co] 35 (0,0)):=by rw[hW0,hq];exact zN _ _
 have hql:q<W0.heap.size:=(zA.1 hqk).1;have HQ3:=zh (fun(w':World) (hb:Below W0.heap.size W0 w')=>(show w'.cell? ⟨q,3,none⟩=_ from(hb.cell (p:=⟨q,3,none⟩) hql).trans (cells7 hqk).2.2.2.1));have HDS:=zh (fun(w':World) (hb:Below W0.heap.size W0 w')=>SlS.keep domK hd (kept_below (hb0.trans (hb.mono hb0.size))));obtain⟨k0,k1,k2,k3,k4,k5,k6⟩:=seven_at (w:=w) (p:=b) (o:=off) (fun i x hx=>by have:=hc0 i x hx;simpa using this) hcs0;obtain⟨A1,N1,d1,rfl⟩:=hrn.frm;obtain⟨A2,N2,d2,rfl⟩:=hrd.frm
 have mv:∀i x,w.cell? ⟨b,i,none⟩=some x->W0.cell? ⟨b,i,none⟩=some x:=fun i x hx=>(hb0.cell (p:=⟨b,i,none⟩) hRb).trans hx
 have k0:=mv _ _ k0;have k1:=mv _ _ k1;have k2:=mv _ _ k2;have k3:=mv _ _ k3;have k4:=mv _ _ k4;have k5:=mv _ _ k5;have k6:=mv _ _ k6;have HRN:=zh (hrn.below hb0);have HRD:=zh (hrd.below hb0);have HRB:=zh (show b<W0.heap.size from zM hRb hb0.size);have HOK:=zh hok;have HN:=zh hn;have HW0:=zh hW0;have HQ:=zh hq;have HB0:=zh hb0;have HQL:=zh hql;obtain⟨W1,hW1⟩:=zx (W0.alloc (.cells #[.string rootM.name,.int .i64 rootM.level,.int .i64 rootM.parent,.int .i64 rootM.uplink,.bool rootM.shock.neg,.slice A1 N1 d1,.slice A2 N2 d2] 100));obtain⟨g0,hg0⟩:=zx W0.heap.size
 have hb1:Below W0.heap.size W0 W1:=by rw[hW1];exact(zB _ _).alloc (zR _) _
 have hg1:W1.heap[g0]?=some (.cells #[.string ⟨#[]⟩,.int .i64 0,.int .i64 (-1),.int .i64 0,.bool false,.slice A1 N1 d1,.slice A2 N2 d2] 100 (0,0)):=by rw[hW1,hg0];exact zN _ _
 have HG1:=zh (fun(w':World) (hb:Below W1.heap.size W1 w')=>cells7 ((hb.block g0 (zA.1 hg1).1).trans hg1));have HB1:=zh hb1;have HW1:=zh hW1;have HG0:=zh hg0;have c3:=HQ3.out W0 (zB _ _)
 have i0:(0:Int)<(n:Int):=by omega
 have i1:(1:Int)<=(n:Int):=by omega
 have i2:(n:Int)<=(c:Int):=by omega
 have i3:(n:Int)<=21:=by omega
 have i4:((n:Int)==0)=false:=by simp;omega
 clear hd hok hW0 hq hb0 hqk hql hrn hrd hc0 hcs0 hroot hRb mv hW1 hg0 hb1 hg1 hn;go_enter Tryz.func43,Tryz.ntmps43;go_upto_region 1 with fail;rw[<-HW0.out,<-HQ.out];go_upto_region 4 with fail;rw[<-HW1.out,<-HG0.out];clear k0 k1 k2 k3 k4 k5 k6 c3;have HRN1:=zh (HRN.out.below HB1.out);have HRD1:=zh (HRD.out.below HB1.out);obtain⟨l0,l1,l2,l3,l4,l5,l6⟩:=HG1.out W1 (zB _ _);go_wp2_with fail;refine(flimits_any _ _ 0 1 W1 HRN1.out HRD1.out (by omega) (by decide)).mono ?_;rintro e w2 ⟨rfl,hb2⟩;clear l0 l1 l2 l3 l4 l5 l6;obtain⟨l0,l1,l2,l3,l4,l5,l6⟩:=HG1.out w2 hb2;have HA:=zh (fabove_any false _ _ 0 1 w2 (HRN1.out.below hb2) (HRD1.out.below hb2));rw[decide_eq_false (show ¬0<0 by omega)] at HA;have HB2:=zh (HB1.out.trans (hb2.mono HB1.out.size));clear hb2;go_wp2_with fail;refine HA.out.mono ?_;rintro e w3 ⟨rfl,hb3⟩;have hb03:=HB2.out.trans (hb3.mono HB2.out.size);have c3:=HQ3.out w3 hb03;have HB3:=zh hb03;clear hb3 hb03 l0 l1 l2 l3 l4 l5 l6;by_cases hc1:c=1
 ·have hn1:n=1:=by omega
  subst hc1;subst hn1;clear i0 i1 i2 i3 i4 h1 h21 hlc;go_wp2_with fail;clear c3;go_loopg [47] 0 (fun z v47 wr=>w3=wr/\v47=.int .i64 0)
  case atStart=>exact⟨rfl,rfl⟩
  case round =>
   obtain⟨rfl,rfl⟩:=hrel;go_wp2_with fail;go_ret;exact⟨rfl,HB0.out.trans (HB3.out.mono HB0.out.size)⟩
 ·obtain⟨M,hM⟩:∃M,n=M+1:=⟨n-1,by omega⟩;obtain⟨cc,hcc⟩:∃M,c=M+1:=⟨c-1,by omega⟩;subst hM;subst hcc
  have hcz:cc≠0:=by omega
  have hMI:(M:Int)<=20:=by omega
  have j0:(0:Int)<(M:Int)+1:=by omega
  have j1:(1:Int)<=(M:Int)+1:=by omega
  have j2:(M:Int)+1<=(cc:Int)+1:=by omega
  clear hc1 h1 h21 hlc i0 i1 i2 i3;go_wp2_with fail;clear c3;go_loopg [47] M (fun z v47 wr=>∃i:Nat,i<=M/\z=M-i/\v47=.int .i64 (i:Int)/\Hid (Below W0.heap.size W0 wr))
  case atStart=>exact⟨0,by omega,rfl,rfl,HB3.out⟩
  case round =>
   obtain⟨i,hi,rfl,rfl,HB⟩:=hrel;by_cases hlt:i<M
   ·have hil:i+1<ds.length:=by have:=HN.out;omega
    obtain⟨b',off',cs,hAe,hRb,-,hc,vn,vd,hcs,hvn,hvd⟩:=(HDS.out wr HB.out).at_ hil;injection hAe with hAe;injection hAe with hA1 hA2;subst hA1;subst hA2;obtain⟨hname,hl1,hl4,⟨p,hpar,hpi,dp,hdp,hdl⟩,hu1,hu64,hsh⟩:=HOK.out.rest (i+1) ds[i+1] (zG hil) (by omega);have hpl:p<ds.length:=(zL.1 hdp).1;obtain⟨b2,off2,cs2,hAe2,-,-,hcp,vn2,vd2,hcs2,-,-⟩:=(HDS.out wr HB.out).at_ hpl;injection hAe2 with hAe2;injection hAe2 with hA1 hA2;subst hA1;subst hA2;obtain⟨-,q1,-⟩:=seven_at hcp hcs2;rw[show ds[p]=dp from(zL.1 hdp).2,hdl] at q1;obtain⟨k0,k1,k2,k3,k4,k5,k6⟩:=seven_at (w:=wr) (p:=b) (o:=off+7+i*7) (fun t x hx=>by have:=hc t x hx;rw[show off+(i+1)*7+t=off+7+i*7+t by omega] at this;exact this) hcs;rw[hpar] at k2;rw[hsh] at k4 hvn hvd;obtain⟨A1,N1,d1,rfl⟩:=hvn.frm;obtain⟨A2,N2,d2,rfl⟩:=hvd.frm;obtain⟨nm',hnm⟩:=zx (ds[i+1].name);obtain⟨lev,hlev⟩:=zx (ds[i+1].level);obtain⟨up,hup⟩:=zx (ds[i+1].uplink);rw[<-hnm] at k0;rw[<-hlev] at k1 hl1 hl4 q1;rw[<-hup] at k3 hu1 hu64;obtain⟨W2,hW2⟩:=zx (wr.alloc (.cells #[.string nm',.int .i64 lev,.int .i64 (p:Int),.int .i64 up,.bool false,.slice A1 N1 d1,.slice A2 N2 d2] 100));obtain⟨g,hg⟩:=zx wr.heap.size
    have hb4:Below wr.heap.size wr W2:=by rw[hW2];exact(zB _ _).alloc (zR _) _
    have hgk:W2.heap[g]?=some (.cells #[.string nm',.int .i64 lev,.int .i64 (p:Int),.int .i64 up,.bool false,.slice A1 N1 d1,.slice A2 N2 d2] 100 (0,0)):=by rw[hW2,hg];exact zN _ _
    have hb04:=HB.out.trans (hb4.mono HB.out.size);obtain⟨-,m1,m2,m3,m4,m5,m6⟩:=cells7 hgk;have hRb0:=zM HRB.out HB.out.size;have q1':=(hb4.cell (p:=⟨b,off+p*7+1,none⟩) hRb0).trans q1;have HS0:=zh (show HeldD W2 q g b off p (M+1) (cc+1) lev up (.slice A1 N1 d1) (.slice A2 N2 d2) W2.drew from⟨HQ3.out W2 hb04,m1,m2,m3,m4,m5,m6,q1',(zB _ _).drew⟩);have HQG:=zh (show q<W2.heap.size/\g<W2.heap.size/\b<W2.heap.size from⟨zM HQL.out hb04.size,(zA.1 hgk).1,zM HRB.out hb04.size⟩);have HI1:=zh (fun w=>fin_any (p:Int) 0 (i:Int) w);rw[decide_eq_true (show(0:Int)<=(p:Int)/\(p:Int)<=(i:Int) by omega)] at HI1;have HI2:=zh (fun w=>fin_any lev 1 4 w);rw[decide_eq_true (show 1<=lev/\lev<=4 by omega)] at HI2;have HI3:=zh (fun w=>fin_any up 1 64 w);rw[decide_eq_true (show 1<=up/\up<=64 by omega)] at HI3;have HV1:=(hvn.mono (Bl.mono (Nat.le_trans HB0.out.size HB.out.size))).below hb4;have HV2:=(hvd.mono (Bl.mono (Nat.le_trans HB0.out.size HB.out.size))).below hb4;have HLI:=zh (fun w (h:Below W2.heap.size W2 w)=>flimits_any (.slice A1 N1 d1) (.slice A2 N2 d2) 0 1 w (HV1.below h) (HV2.below h) (by omega) (by decide));have HBW2:=zh hb04;have HW2:=zh hW2;have HG:=zh hg;have HIM:=zh (show i+1<=M from hlt)
    have t0:(0:Int)<=(p:Int):=by omega
    have t1:(p:Int)<(M:Int)+1:=by omega
    have t2:1<=lev:=hl1;have t3:lev<=4:=hl4;have t4:IntKind.i64.wrap (lev-1)=lev-1:=zI _ (by omega)
    have t5:(lev-1 != lev-1)=false:=by simp
    clear hc hcs hvn hvd hname hl1 hl4 hpar hpi hdp hdl hu1 hu64 hsh hpl hcp hcs2 q1 hnm hlev hup hb4 hgk hb04 m1 m2 m3 m4 m5 m6 hRb0 q1' HV1 HV2 hW2 hg hRb hil;go_upto_region 9 with fail;rw[<-HW2.out,<-HG.out];clear k0 k1 k2 k3 k4 k5 k6;refine region_tail (S:=(fun w'=>w'.cell? ⟨q,3,none⟩=some (.slice (some ⟨b,off,none⟩) (M+1) (cc+1))/\w'.cell? ⟨g,1,none⟩=some (.int .i64 lev)/\w'.cell? ⟨g,2,none⟩=some (.int .i64 (p:Int))/\w'.cell? ⟨g,3,none⟩=some (.int .i64 up)/\w'.cell? ⟨g,4,none⟩=some (.bool false)/\w'.cell? ⟨g,5,none⟩=some (.slice A1 N1 d1)/\w'.cell? ⟨g,6,none⟩=some (.slice A2 N2 d2)/\w'.cell? ⟨b,off+p*7+1,none⟩=some (.int .i64 (lev-1))/\Below W2.heap.size W2 w')) [] (by kernel_rfl) HS0.out (fun hHeld=>?_);refine tk 0 52 ?_;refine tk 1 53 ?_;refine tk 2 54 ?_;refine rd1 3 (fun K hK=>?_);go_simp;(go_at_call 42;refine(HI1.out _).mono ?_;rintro e w5 ⟨rfl,rfl⟩);go_wp2_with fail;refine hK.out _ _ ?_ (fun hHeld=>?_)
    ·(first|assumption|exact HeldD.below (by assumption) hb6 HQG.out.1 HQG.out.2.1 HQG.out.2.2)
    clear hK K;(try simp only[Act.put,z1,z2,z3]);refine tk 4 56 ?_;refine tk 5 57 ?_;refine tk 6 58 ?_;refine tk 7 59 ?_;refine tk 8 60 ?_;refine tk 9 61 ?_;refine tk 10 62 ?_;refine tk 11 63 ?_;refine tk 12 64 ?_;refine tk 13 65 ?_;refine tk 14 66 ?_;refine tk 15 67 ?_;refine tk 16 68 ?_;refine rd1 17 (fun K hK=>?_);go_simp;refine hK.out _ _ ?_ (fun hHeld=>?_)
    ·(first|assumption|exact HeldD.below (by assumption) hb6 HQG.out.1 HQG.out.2.1 HQG.out.2.2)
    clear hK K;(try simp only[Act.put,z1,z2,z3]);refine tk 18 70 ?_;refine tk 19 71 ?_;refine tk 20 72 ?_;refine rd1 21 (fun K hK=>?_);go_simp;(go_at_call 42;refine(HI2.out _).mono ?_;rintro e w5 ⟨rfl,rfl⟩);go_wp2_with fail;refine hK.out _ _ ?_ (fun hHeld=>?_)
    ·(first|assumption|exact HeldD.below (by assumption) hb6 HQG.out.1 HQG.out.2.1 HQG.out.2.2)
    clear hK K;(try simp only[Act.put,z1,z2,z3]);refine tk 22 74 ?_;refine rd1 23 (fun K hK=>?_);go_simp;refine hK.out _ _ ?_ (fun hHeld=>?_)
    ·(first|assumption|exact HeldD.below (by assumption) hb6 HQG.out.1 HQG.out.2.1 HQG.out.2.2)
    clear hK K;(try simp only[Act.put,z1,z2,z3]);refine tk 24 76 ?_;refine tk 25 77 ?_;refine tk 26 78 ?_;refine rd1 27 (fun K hK=>?_);go_simp;(go_at_call 42;refine(HI3.out _).mono ?_;rintro e w5 ⟨rfl,rfl⟩);go_wp2_with fail;refine hK.out _ _ ?_ (fun hHeld=>?_)
    ·(first|assumption|exact HeldD.below (by assumption) hb6 HQG.out.1 HQG.out.2.1 HQG.out.2.2)
    clear hK K;(try simp only[Act.put,z1,z2,z3]);refine tk 28 80 ?_;refine rd1 29 (fun K hK=>?_);go_simp;refine hK.out _ _ ?_ (fun hHeld=>?_)
    ·(first|assumption|exact HeldD.below (by assumption) hb6 HQG.out.1 HQG.out.2.1 HQG.out.2.2)
    clear hK K;(try simp only[Act.put,z1,z2,z3]);refine tk 30 82 ?_;refine tk 31 83 ?_;refine tk 32 84 ?_;refine rd1 33 (fun K hK=>?_);go_simp;(go_at_call 89;refine(HLI.out _ (HeldD.bl (by assumption))).mono ?_;rintro e w6 ⟨rfl,hb6⟩);go_wp2_with fail;refine hK.out _ _ ?_ (fun hHeld=>?_)
    ·(first|assumption|exact HeldD.below (by assumption) hb6 HQG.out.1 HQG.out.2.1 HQG.out.2.2)
    clear hK K;(try simp only[Act.put,z1,z2,z3]);refine tk 34 86 ?_;refine rd1 35 (fun K hK=>?_);go_simp;refine hK.out _ _ ?_ (fun hHeld=>?_)
    ·(first|assumption|exact HeldD.below (by assumption) hb6 HQG.out.1 HQG.out.2.1 HQG.out.2.2)
    clear hK K;(try simp only[Act.put,z1,z2,z3]);refine doneT (by kernel_rfl) ?_ _;have HBZ:=zh (HeldD.bl hHeld);clear hHeld hb6;go_wp2_with fail;go_roundg (M-(i+1))
    case measure=>have:=HIM.out;omega
    case rel=>exact⟨i+1,HIM.out,rfl,by go_num,HBW2.out.trans (HBZ.out.mono HBW2.out.size)⟩
   ·go_wp2_with fail;go_ret;exact⟨rfl,HB0.out.trans (HB.out.mono HB0.out.size)⟩
theorem nameL_inj{c c':UInt8}{i j:Nat}(hi:i<676)(hj:j<676)(h:(⟨(nameL c i).toArray⟩:ByteArray)=⟨(nameL c' j).toArray⟩):c=c'/\i=j:=by
 have h1:nameL c i=nameL c' j:=by
  have:=congrArg (fun b:ByteArray=>b.data.toList) h
  simpa using this
 unfold nameL at h1;simp only[List.cons.injEq,and_true] at h1;obtain⟨h2,h3,h4⟩:=h1;have h3:=congrArg UInt8.toNat h3;have h4:=congrArg UInt8.toNat h4;rw[UInt8.toNat_ofNat',UInt8.toNat_ofNat'] at h3 h4;exact⟨h2,by omega⟩
theorem nameL_low{c:UInt8}(i:Nat)(h1:97<=c.toNat)(h2:c.toNat<=122):LowN ⟨(nameL c i).toArray⟩:=by
 refine⟨by show 1<=(nameL c i).toArray.size;simp[nameL],by show(nameL c i).toArray.size<=16;simp[nameL],fun x hx=>?_⟩
 have hx:x∈nameL c i:=by simpa using hx
 unfold nameL at hx;simp at hx;rcases hx with rfl | rfl | rfl
 ·exact⟨h1,h2⟩
 ·rw[UInt8.toNat_add,UInt8.toNat_ofNat'];have:((97:UInt8).toNat)=97:=rfl;rw[this];omega
 ·rw[UInt8.toNat_add,UInt8.toNat_ofNat'];have:((97:UInt8).toNat)=97:=rfl;rw[this];omega
theorem nodup_names(L:List ByteArray)(c:Nat->UInt8)(n:Nat->Nat)(h:∀t (ht:t<L.length),L[t]=⟨(nameL (c t) (n t)).toArray⟩/\n t<676)(hinj:∀s t,s<t->t<L.length->c s≠c t\/n s≠n t):L.Nodup:=by
 refine List.pairwise_iff_getElem.2 fun s t hs ht hst e=>?_
 obtain⟨h1,h2⟩:=h s hs;obtain⟨h3,h4⟩:=h t ht;rw[h1,h3] at e;obtain⟨e1,e2⟩:=nameL_inj h2 h4 e;rcases hinj s t hst ht with h5 | h5
 ·exact h5 e1
 ·exact h5 e2
def nodeN(F:FltM):List ByteArray:=(F.doms.drop 1).map (·.name)++F.dves.map (·.name)
theorem nodeN_at{N:Nat}{F:FltM}(hok:FleetOk N F)(t:Nat)(ht:t<(nodeN F).length):(nodeN F)[t]=⟨(nameL (if t<F.doms.length-1 then 110 else 100) (if t<F.doms.length-1 then t+1 else t-(F.doms.length-1))).toArray⟩/\(if t<F.doms.length-1 then t+1 else t-(F.doms.length-1))<676:=by
 have hd:=hok.domN;have hv:=hok.dveN
 have hl:((F.doms.drop 1).map (·.name)).length=F.doms.length-1:=by simp
 have htl:t<(F.doms.length-1)+F.dves.length:=by
  unfold nodeN at ht;rw[zP,hl,List.length_map] at ht;exact ht
 by_cases h:t<F.doms.length-1
 ·rw[if_pos h,if_pos h];refine⟨?_,by omega⟩
  have h1:(nodeN F)[t]=(F.doms[t+1]'(by omega)).name:=by
   have h2:(nodeN F)[t]?=some (F.doms[t+1]'(by omega)).name:=by
    unfold nodeN;rw[List.getElem?_append_left (by rw[hl];exact h),List.getElem?_map,List.getElem?_drop,Nat.add_comm 1 t,zG (by omega)]
    rfl
   exact(zL.1 h2).2
  rw[h1];exact(hok.doms.rest (t+1) F.doms[t+1] (zG (by omega)) (by omega)).1
 ·rw[if_neg h,if_neg h];refine⟨?_,by omega⟩
  have h1:(nodeN F)[t]=(F.dves[t-(F.doms.length-1)]'(by omega)).name:=by
   have h2:(nodeN F)[t]?=some (F.dves[t-(F.doms.length-1)]'(by omega)).name:=by
    unfold nodeN;rw[List.getElem?_append_right (by rw[hl];omega),hl,List.getElem?_map,zG (by omega)]
    rfl
   exact(zL.1 h2).2
  rw[h1];exact(hok.dves (t-(F.doms.length-1)) _ (zG (by omega))).1
theorem nodeN_low{N:Nat}{F:FltM}(hok:FleetOk N F):∀s∈nodeN F,LowN s:=fun s hs=>by
 obtain⟨t,ht,rfl⟩:=List.getElem_of_mem hs;rw[(nodeN_at hok t ht).1];exact nameL_low _ (by split <;> decide) (by split <;> decide)
theorem nodeN_nodup{N:Nat}{F:FltM}(hok:FleetOk N F):(nodeN F).Nodup:=nodup_names _ _ _ (nodeN_at hok) fun s t hst ht=>by
 have hd:=hok.domN;by_cases h1:s<F.doms.length-1
 ·by_cases h2:t<F.doms.length-1
  ·rw[if_pos h1,if_pos h2,if_pos h1,if_pos h2];right;omega
  ·rw[if_pos h1,if_neg h2];left;decide
 ·rw[if_neg h1,if_neg (by omega),if_neg h1,if_neg (by omega)];right;omega
theorem nodeN_length(F:FltM):(nodeN F).length=(F.doms.length-1)+F.dves.length:=by unfold nodeN;simp
theorem polN_at{N:Nat}{F:FltM}(hok:FleetOk N F)(t:Nat)(ht:t<(F.pols.map (·.name)).length):(F.pols.map (·.name))[t]=⟨(nameL 112 (F.pols.length-t)).toArray⟩/\F.pols.length-t<676:=by
 have h2:=hok.polN;rw[List.length_map] at ht;rw[List.getElem_map];exact⟨(hok.pols t _ (zG ht)).2.1,by omega⟩
theorem polN_low{N:Nat}{F:FltM}(hok:FleetOk N F):∀s∈F.pols.map (·.name),LowN s:=fun s hs=>by
 obtain⟨t,ht,rfl⟩:=List.getElem_of_mem hs;rw[(polN_at hok t ht).1];exact nameL_low _ (by decide) (by decide)
theorem polN_nodup{N:Nat}{F:FltM}(hok:FleetOk N F):(F.pols.map (·.name)).Nodup:=nodup_names _ (fun _=>112) (fun t=>F.pols.length-t) (polN_at hok) fun s t hst ht=>by
 rw[List.length_map] at ht
 right;omega
theorem volN_at{N:Nat}{F:FltM}(hN:N<=12)(hok:FleetOk N F)(t:Nat)(ht:t<(F.vols.map (·.name)).length):(F.vols.map (·.name))[t]=⟨(nameL 118 (F.vols.length-t)).toArray⟩/\F.vols.length-t<676:=by
 have h2:=hok.volN;rw[List.length_map] at ht;rw[List.getElem_map];exact⟨(hok.vols t _ (zG ht)).2.1,by omega⟩
theorem volN_low{N:Nat}{F:FltM}(hN:N<=12)(hok:FleetOk N F):∀s∈F.vols.map (·.name),LowN s:=fun s hs=>by
 obtain⟨t,ht,rfl⟩:=List.getElem_of_mem hs;rw[(volN_at hN hok t ht).1];exact nameL_low _ (by decide) (by decide)
theorem volN_nodup{N:Nat}{F:FltM}(hN:N<=12)(hok:FleetOk N F):(F.vols.map (·.name)).Nodup:=nodup_names _ (fun _=>118) (fun t=>F.vols.length-t) (volN_at hN hok) fun s t hst ht=>by
 rw[List.length_map] at ht
 right;omega
theorem lawN_ok{N:Nat}{F:FltM}(hok:FleetOk N F):(∀s∈F.laws.map (·.name),LowN s)/\(F.laws.map (·.name)).Nodup/\F.laws.length=1:=by
 obtain⟨r,-,h⟩:=hok.laws;rw[h];refine⟨fun s hs=>?_,by simp,rfl⟩;simp at hs;subst hs;refine⟨by decide,by decide,fun x hx=>?_⟩;simp at hx;rcases hx with rfl | rfl | rfl | rfl <;> decide
theorem modN_ok{N:Nat}{F:FltM}(hok:FleetOk N F):(∀s∈F.models.map (·.name),LowN s)/\(F.models.map (·.name)).Nodup/\F.models.length=2:=by
 obtain⟨a,b,c,d,-,-,-,-,h⟩:=hok.models;rw[h];refine⟨fun s hs=>?_,by simp,rfl⟩;simp at hs;rcases hs with rfl | rfl
 ·refine⟨by decide,by decide,fun x hx=>?_⟩;simp at hx;rcases hx with rfl | rfl | rfl <;> decide
 ·refine⟨by decide,by decide,fun x hx=>?_⟩;simp at hx;rcases hx with rfl | rfl | rfl <;> decide
theorem modN_at{N:Nat}{F:FltM}(hok:FleetOk N F):∀x∈F.models,1<=x.ext/\x.ext<=16/\1<=x.port/\x.port<=64/\x.law=0:=by
 obtain⟨a,b,c,d,ha,hb,hc,hd,h⟩:=hok.models;rw[h];intro x hx;simp at hx;rcases hx with rfl | rfl <;> (refine⟨?_,?_,?_,?_,rfl⟩ <;> simp only <;> omega)
def OwnS(w:World)(base:Nat)(v:Value)(l:List ByteArray):Prop:=w.ownsRow base 9 1 v l.length (l.map Value.string)
theorem OwnS.nil(w:World)(base:Nat):OwnS w base (.slice none 0 0) []:=World.ownsRow_nil _ _ _ _
theorem OwnS.lt{w:World}{base:Nat}{v:Value}{l:List ByteArray}(h:OwnS w base v l):∀b,v.ownBlock=some b->base<=b/\b<w.heap.size:=World.ownsRow.lt h
theorem OwnS.below{w w2:World}{base:Nat}{v:Value}{l:List ByteArray}(h:OwnS w base v l)(hb:Below w.heap.size w w2):OwnS w2 base v l:=own_below h hb
theorem OwnS.form{w:World}{base:Nat}{v:Value}{l:List ByteArray}(h:OwnS w base v l):∃A c,v=.slice A l.length c:=own_form h
theorem info_strV:(Tryz.prog.info? 9).map (fun i=>(i.zero,i.size,i.bytes))=some (some (.string ⟨#[]⟩),1,16):=by kernel_rfl
theorem OwnS.slS{w:World}{base:Nat}{v:Value}{l:List ByteArray}(h:OwnS w base v l)(hs:∀s∈l,s.size<=maxLen):SlS 1 StrK w (Bl w.heap.size) v l:=by
 refine OwnK.slS (R:=Bl w.heap.size) strK ⟨l.map Value.string,h,fun j s hj=>⟨[.string s],rfl,fun i u hu=>?_,rfl,hs s (List.mem_of_getElem? hj)⟩⟩ (fun _ h=>h) (fun b hb=>(h.lt b hb).2)
 have hi:i=0:=by have:=(zL.1 hu).1;simp at this;exact this
 subst hi;simp at hu;rw[Nat.mul_one,Nat.add_zero,List.getElem?_map,hj,<-hu];rfl
theorem app_s{ops:Array Oper}{rest:List Oper}{o:Oper}{a:Act}{Q:Exit->Act->World->Prop}{w:World}(x0:ByteArray)(s x:Operand)(hgd:o.guard=none)(ho:o.op=.call { callee:=.builtin .append,args:=#[s,x],argTypes:=#[110,110] })
  (base:Nat) (v:Value) (n:Nat) (xs:List ByteArray) (hl:xs.length=n) (hs:a.eval s=v) (hown:w.ownsRow base 9 1 v n (xs.map Value.string))
  (hx:a.eval x=.slice (some ⟨w.heap.size,0,none⟩) 1 1) (hn:n+1<=16777216) (hbase:base<=w.heap.size)
  (h:∀v' w',OwnS w' base v' (xs++[x0])->w.grownBy w' v.ownBlock->(v'.ownBlock=v.ownBlock\/v'.ownBlock=some (w.heap.size+1))->wpList Tryz.prog ops Q rest (a.put o.dst v') w') :
  wpList Tryz.prog ops Q (o :: rest) a (w.alloc (.cells #[.string x0] 9)):=by
 obtain⟨i0,hi0,hz0,hz1,hz2⟩:=info_parts info_strV;refine wpList_append1 hgd s x _ ho base i0 _ 1 16 Tryz.underlying110 hi0 hz0 hz1 hz2 rfl (by omega) (by omega) v n _ hs hown hx rfl (by simp;rfl) hn hbase (fun v' w' h1=>h v' w' ?_);unfold OwnS;rw[zP,hl,List.map_append];exact h1
theorem step_sl1{w:World}{ops:Array Oper}{rest:List Oper}{o:Oper}{a:Act}{Q:Exit->Act->World->Prop}(hg:o.guard=none)(s:Operand)(hop:o.op=Op.slice 30 s (some (.const (.int .i64 1))) none none)(b off M cc:Nat)(hs:a.eval s=.slice (some ⟨b,off,none⟩) (M+1) (cc+1))(hM:M<=cc)
  (hK:∀AP,(cc≠0->AP=some ⟨b,off+7,none⟩)->wpList Tryz.prog ops Q rest (a.put o.dst (.slice AP M cc)) w):wpList Tryz.prog ops Q (o :: rest) a w:=by
 refine wpList_plain hg fun K' hK'=>?_
 unfold Oper.wp
 have j1:(1:Int)<=(M:Int)+1:=by omega
 have j2:(M:Int)+1<=(cc:Int)+1:=by omega
 simp[execOp,hop,hs,Result.andThen];rw[show a.eval (Operand.const (Value.int IntKind.i64 1))=.int .i64 1 from rfl];by_cases hcz:cc=0
 ·subst hcz
  obtain rfl:M=0:=by omega
  go_simp;exact hK' _ _ (hK _ (fun h=>absurd rfl h))
 ·go_simp;exact hK' _ _ (hK _ (fun _=>rfl))
theorem below_setCellsV{B b:Nat}{a:World}(hb:B<=b):∀(vs:List Value) (o:Nat) (w:World),Below B a w->Below B a (w.setCells b o vs)
 | [],_,_,h=>h
 | v :: r,o,w,h=>by
  rw[World.setCells];exact below_setCellsV hb r (o+1) _ (h.setCell hb v)
theorem there_new{w:World}{b:Nat}{cs:Array Value}{T:TypeId}{n:Nat}(h:w.heap[b]?=some (.cells cs T (0,0)))(hn:n<=cs.size):w.there b 0 n:=fun j hj=>by
 rw[Nat.zero_add];exact⟨by rw[cell_of_row _ _ _ _ _ _ h,Array.getElem?_eq_getElem (by omega)];rfl,frozen_of_row _ _ _ _ _ h⟩
theorem range_same{w w':World}{b o:Nat}{cs:List Value}(h:w.rangeAt b o cs)(e:w'.heap[b]?=w.heap[b]?):w'.rangeAt b o cs:=fun j v hv=>(World.cell?_of_block (w:=w) (a:=⟨b,o+j,none⟩) e).trans (h j v hv)
theorem own_keptV{w w3 w5:World}{v:Value}{l:List ByteArray}{g B:Nat}{e:TypeId}(hg:w3.grownBy w5 v.ownBlock)(ho:w.ownsRow B e 1 v l.length (l.map Value.string))(hgs:g=w.heap.size)(hlt:g<w3.heap.size):w5.heap[g]?=w3.heap[g]?:=by
 subst hgs;refine hg.block _ hlt (fun e=>?_);have:=(World.ownsRow.lt ho _ e.symm).2;omega
theorem wpList_load_midW{ops:Array Oper}{rest:List Oper}{op:Oper}{a:Act}{w:World}{Q:Exit->Act->World->Prop}(hw:Region.wanted op (yielded ops a.tmps)=true)(ty:TypeId)(x:Operand)(ho:op.op=.load ty x)
  (b o:Nat) (hx:a.eval x=.pointer (some ⟨b,o,none⟩)) (cs:List Value) (d:TypeDesc) (hc:w.rangeAt b o cs)
  (hu:Tryz.prog.underlying ty=some d) (hd:d.isRow=true) (hi:(Tryz.prog.info? ty).map (·.size)=some cs.length)
  (h:wpList Tryz.prog ops Q rest (a.put op.dst (.agg cs.toArray)) w):wpList Tryz.prog ops Q (op :: rest) a w :=
 wpList_step fun K hK=>by
  rw[if_pos hw];exact wp_load_mid ty x ho b o hx cs d hc hu hd hi (hK _ _ h)
theorem uniq_own{w w':World}{base:Nat}{v:Value}{l l':List ByteArray}(h:OwnS w base v l)(e:l=l')(hb:Below w.heap.size w w')(hl:∀s∈l',LowN s)(hd:l'.Nodup)(hn:l'.length<=1000) :
  Calls Tryz.prog 46 #[v] w' fun e w2=>e=.returned (.bool true)/\Below w'.heap.size w' w2:=by
 subst e;exact funique_any v l w' ((h.below hb).slS (fun s hs=>by have:=(hl s hs).2.1;unfold maxLen;omega)) hl hd hn
theorem take_more{α:Type}{l:List α}{j:Nat}{x:α}(h:l[j]?=some x):l.take (j+1)=l.take j++[x]:=by
 obtain⟨h1,h2⟩:=zL.1 h;rw[List.take_succ_eq_append_getElem h1,h2]
theorem nodeN_dom{F:FltM}{t:Nat}{x:DomM}(h:F.doms[t+1]?=some x):(nodeN F)[t]?=some x.name:=by
 have:=(zL.1 h).1;unfold nodeN;rw[List.getElem?_append_left (by simp;omega),List.getElem?_map,List.getElem?_drop,Nat.add_comm 1 t,h];rfl
theorem nodeN_dve{F:FltM}{t M:Nat}{x:DveM}(hM:M+1=F.doms.length)(h:F.dves[t]?=some x):(nodeN F)[M+t]?=some x.name:=by
 unfold nodeN;rw[List.getElem?_append_right (by simp;omega),List.getElem?_map,show M+t-((F.doms.drop 1).map (·.name)).length=t by simp;omega,h];rfl
theorem map_name{α:Type}{l:List α}{f:α->ByteArray}{t:Nat}{x:α}(h:l[t]?=some x):(l.map f)[t]?=some (f x):=by rw[List.getElem?_map,h];rfl
theorem cells3v{W:World}{g:Nat}{a b c:Value}{t:TypeId}(h:W.heap[g]?=some (.cells #[a,b,c] t (0,0))):W.cell? ⟨g,0,none⟩=some a/\W.cell? ⟨g,1,none⟩=some b/\W.cell? ⟨g,2,none⟩=some c:=by
 refine⟨?_,?_,?_⟩ <;> (rw[cell_of_row _ _ _ _ _ _ h];rfl)
theorem cells2{W:World}{g:Nat}{a b:Value}{t:TypeId}(h:W.heap[g]?=some (.cells #[a,b] t (0,0))):W.cell? ⟨g,0,none⟩=some a/\W.cell? ⟨g,1,none⟩=some b:=by
 refine⟨?_,?_⟩ <;> (rw[cell_of_row _ _ _ _ _ _ h];rfl)
theorem three_at{cs:List Value}{a b c:Value}{w:World}{p o:Nat}(h:∀i c,cs[i]?=some c->w.cell? ⟨p,o+i,none⟩=some c)(k:cs=[a,b,c]) :
  w.cell? ⟨p,o,none⟩=some a/\w.cell? ⟨p,o+1,none⟩=some b/\w.cell? ⟨p,o+2,none⟩=some c:=by
 subst k;exact⟨h 0 _ rfl,h 1 _ rfl,h 2 _ rfl⟩
theorem two_at{cs:List Value}{a b:Value}{w:World}{p o:Nat}(h:∀i c,cs[i]?=some c->w.cell? ⟨p,o+i,none⟩=some c)(k:cs=[a,b]) :
  w.cell? ⟨p,o,none⟩=some a/\w.cell? ⟨p,o+1,none⟩=some b:=by
 subst k;exact⟨h 0 _ rfl,h 1 _ rfl⟩
theorem box_kept{w w5:World}{o:Obj}{v:Value}{l:List ByteArray}{g B:Nat}{e:TypeId}(hg:(w.alloc o).grownBy w5 v.ownBlock)(ho:w.ownsRow B e 1 v l.length (l.map Value.string))(hgs:g=w.heap.size):w5.heap[g]?=some o:=by
 subst hgs;refine(hg.block _ (by simp) (fun e=>?_)).trans (zN w o);have:=(World.ownsRow.lt ho _ e.symm).2;omega
theorem OwnS.at_len{w:World}{base:Nat}{v:Value}{l:List ByteArray}(h:OwnS w base v l)(n:Nat)(hn:l.length=n):∃A c,v=.slice A n c:=by
 subst hn;exact h.form
theorem OwnS.at_own{w:World}{base n:Nat}{A:Option Addr}{c:Nat}{l:List ByteArray}(h:OwnS w base (.slice A n c) l):w.ownsRow base 9 1 (.slice A n c) n (l.map Value.string):=by
 obtain⟨A',c',e⟩:=h.form;injection e with e1 e2 e3;have h':w.ownsRow base 9 1 (.slice A n c) l.length (l.map Value.string):=h;rw[<-e2] at h';exact h'
theorem one_frc2{w:World}{R:Nat->Prop}{v:Value}{x:Frc}(h:SlS 3 FrcK w R v [x]):∃b off c vn vd,v=.slice (some ⟨b,off,none⟩) 1 c/\1<=c/\R b/\w.cell? ⟨b,off,none⟩=some (.bool x.neg)/\w.cell? ⟨b,off+1,none⟩=some vn/\w.cell? ⟨b,off+2,none⟩=some vd/\LS w R vn (natL x.num)/\LS w R vd (natL x.den):=by
 obtain⟨A,c,e,hc,-⟩:=h.form;obtain⟨b,off,c',vn,vd,e2,hR,k⟩:=one_frc h;rw[e] at e2;injection e2 with e3 e4 e5;subst e5;exact⟨b,off,c,vn,vd,by rw[e,e3];rfl,hc,hR,k⟩
end Go.Proofs.YtgfaieppacabjaaGreat
