/- Parts. -/
import Derived.Test.YtgfaieppacabjaaGreatMq14
set_option linter.unusedSectionVars false
set_option maxRecDepth 100000
set_option maxHeartbeats 12800000
set_option linter.unusedVariables false
set_option linter.unusedSimpArgs false
namespace Go.Proofs.YtgfaieppacabjaaGreat
open Go.RowKit
theorem fone_any(va vb:Value)(n m:Nat)(w:World)(ha:LS w (Bl w.heap.size) va (natL n))(hb:LS w (Bl w.heap.size) vb (natL m))(hm:0<m)(hle:n<=m) :
  Calls Tryz.prog 139 #[.agg #[.bool false,va,vb]] w fun e w'=>e=.returned (.bool true)/\Below w.heap.size w w':=by
 obtain⟨An,Nn,cn,rfl⟩:=ha.frm;obtain⟨Ad,Nd,cd,rfl⟩:=hb.frm;have n32:=ha.lt32;have m32:=hb.lt32;obtain⟨W0,hW0⟩:=zx (w.alloc (.cells #[.bool false,.slice An Nn cn,.slice Ad Nd cd] 26));obtain⟨q,hq⟩:=zx w.heap.size
 have hb0:Below w.heap.size w W0:=by rw[hW0];exact(zB _ _).alloc (zR _) _
 have hbk:W0.heap[q]?=some (.cells #[.bool false,.slice An Nn cn,.slice Ad Nd cd] 26 (0,0)):=by rw[hW0,hq];exact zN _ _
 obtain⟨c0,c1,c2,-⟩:=cells3 hbk;have hql:q<W0.heap.size:=(zA.1 hbk).1;have HA0:=zh (ha.below hb0);have HBV:=zh (hb.below hb0);have HM:=zh (fmake_any 1 1 W0 (by omega) (by omega) (by omega) (by decide));have HW0:=zh hW0;have HQ:=zh hq;have HB0:=zh hb0;have HQL:=zh hql;clear ha hb hW0 hq hb0 hbk hql;go_enter Tryz.func139,Tryz.ntmps139;go_wp2_with fail;rw[<-HW0.out,<-HQ.out];refine HM.out.mono ?_;rintro e w1 ⟨un,um,rfl,hun,hum,hb1⟩;obtain⟨A1,N1,e1,rfl⟩:=hun.frm;obtain⟨A2,N2,e2,rfl⟩:=hum.frm;obtain⟨W1,hW1⟩:=zx (w1.alloc (.cells #[.bool false,.slice A1 N1 e1,.slice A2 N2 e2] 26));obtain⟨g,hgq⟩:=zx w1.heap.size
 have hb2:Below w1.heap.size w1 W1:=by rw[hW1];exact(zB _ _).alloc (zR _) _
 have hb12:=hb1.trans (hb2.mono hb1.size)
 have hbk:W1.heap[g]?=some (.cells #[.bool false,.slice A1 N1 e1,.slice A2 N2 e2] 26 (0,0)):=by rw[hW1,hgq];exact zN _ _
 obtain⟨l0,l1,l2,-⟩:=cells3 hbk;have k0:W1.cell? ⟨q,0,none⟩=some (.bool false):=(hb12.cell (p:=⟨q,0,none⟩) HQL.out).trans c0;have k1:W1.cell? ⟨q,1,none⟩=some (.slice An Nn cn):=(hb12.cell (p:=⟨q,1,none⟩) HQL.out).trans c1;have k2:W1.cell? ⟨q,2,none⟩=some (.slice Ad Nd cd):=(hb12.cell (p:=⟨q,2,none⟩) HQL.out).trans c2;have HC:=zh (fcmp_any _ _ _ _ n m 1 1 W1 (HA0.out.below hb12) (HBV.out.below hb12) ((hun.mono Fr.bl).below hb2) ((hum.mono Fr.bl).below hb2) hm (by omega) (by omega) (by omega))
 have hcm:cmpI (n*1) (1*m)<=0:=by unfold cmpI;split <;> (try split) <;> omega
 obtain⟨C,hC⟩:=zx (cmpI (n*1) (1*m));rw[<-hC] at HC hcm;have HB1:=zh (HB0.out.trans (hb12.mono HB0.out.size));have HW1:=zh hW1;have HGQ:=zh hgq;clear hun hum hb1 hb2 hb12 hW1 hgq hbk hC c0 c1 c2;go_upto_region 2 with fail;rw[<-HW1.out,<-HGQ.out];go_wp2_with fail;refine HC.out.mono ?_;rintro e w2 ⟨rfl,hb2⟩;have HB2:=zh (HB1.out.trans (hb2.mono HB1.out.size));clear hb2 k0 k1 k2 l0 l1 l2;go_wp2_with fail;go_ret;exact⟨ret_bool (by simp),HB2.out⟩
theorem one_frc{w:World}{R:Nat->Prop}{v:Value}{x:Frc}(h:SlS 3 FrcK w R v [x]):∃b off c vn vd,v=.slice (some ⟨b,off,none⟩) 1 c/\R b/\w.cell? ⟨b,off,none⟩=some (.bool x.neg)/\w.cell? ⟨b,off+1,none⟩=some vn/\w.cell? ⟨b,off+2,none⟩=some vd/\LS w R vn (natL x.num)/\LS w R vd (natL x.den):=by
 obtain⟨A,c,rfl,-,-⟩:=h.form;obtain⟨b,off,cs,rfl,hR,-,hc,vn,vd,hcs,hn,hd⟩:=h.at_ (k:=0) (by simp);obtain⟨k0,k1,k2⟩:=three hc hcs;exact⟨b,off,c,vn,vd,rfl,hR,k0,k1,k2,hn,hd⟩
theorem one_row{w:World}{R:Nat->Prop}{v:Value}{l:List Frc}(h:SlS 1 RowFK w R v [l]):∃b off c u,v=.slice (some ⟨b,off,none⟩) 1 c/\R b/\w.cell? ⟨b,off,none⟩=some u/\SlS 3 FrcK w R u l:=by
 obtain⟨A,c,rfl,-,-⟩:=h.form;obtain⟨b,off,cs,rfl,hR,-,hc,u,hcs,hu⟩:=h.at_ (k:=0) (by simp);have h0:=hc 0 u (by rw[hcs];rfl);exact⟨b,off,c,u,rfl,hR,h0,hu⟩
theorem box3'{w wf:World}{g:Nat}{a b c:Value}{T:TypeId}(hk:wf.heap[g]?=some (.cells #[a,b,c] T (0,0)))(hb:Below w.heap.size w wf)(hg:w.heap.size<=g)(v0 v1 v2:Value) :
  (((wf.setCell ⟨g,0,none⟩ v0).setCell ⟨g,1,none⟩ v1).setCell ⟨g,2,none⟩ v2).heap[g]?=some (.cells #[v0,v1,v2] T (0,0))/\Below w.heap.size w (((wf.setCell ⟨g,0,none⟩ v0).setCell ⟨g,1,none⟩ v1).setCell ⟨g,2,none⟩ v2) /\
   ∀x,x≠g->(((wf.setCell ⟨g,0,none⟩ v0).setCell ⟨g,1,none⟩ v1).setCell ⟨g,2,none⟩ v2).heap[x]?=wf.heap[x]? :=
 ⟨store3 hk,below_set3 hb hg _ _ _,fun x hx=>kept_set3 wf g v0 v1 v2 (fun y=>y=x) (fun y hy e=>hx (by rw[<-hy,e])) x rfl⟩
theorem fsum1_any(v:Value)(c d:Nat)(w:World)(h:SlS 3 FrcK w (Bl w.heap.size) v [⟨false,c,d⟩])(hc:0<c)(hd:0<d)(hg:Nat.gcd c d=1) :
  Calls Tryz.prog 92 #[v] w fun e w'=>∃un um,e=.returned (.tuple #[.agg #[.bool false,un,um],.int .i64 0])/\LS w' (Fr w.heap.size w'.heap.size) un (natL c)/\LS w' (Fr w.heap.size w'.heap.size) um (natL d)/\Below w.heap.size w w':=by
 obtain⟨b1,o1,c1,vn,vd,rfl,hR,k0,k1,k2,hn,hdd⟩:=one_frc h;have c32:=hn.lt32;have d32:=hdd.lt32;obtain⟨An,Nn,cn,rfl⟩:=hn.frm;obtain⟨Ad,Nd,cd,rfl⟩:=hdd.frm;obtain⟨W0,hW0⟩:=zx (w.alloc (.cells #[.bool false,.slice none 0 0,.slice none 0 0] 26));obtain⟨g,hgq⟩:=zx w.heap.size
 have hb0:Below w.heap.size w W0:=by rw[hW0];exact(zB _ _).alloc (zR _) _
 have hbk:W0.heap[g]?=some (.cells #[.bool false,.slice none 0 0,.slice none 0 0] 26 (0,0)):=by rw[hW0,hgq];exact zN _ _
 have hgl:g<W0.heap.size:=(zA.1 hbk).1;have HM:=zh (nmake_any 1 W0 (by omega));have K0:=zh k0;have K1:=zh k1;have K2:=zh k2;have HN:=zh hn;have HD:=zh hdd;have HR:=zh hR;have HW0:=zh hW0;have HGQ:=zh hgq;have HB0:=zh hb0;have HBK:=zh hbk;have HGL:=zh hgl;clear h hW0 hgq hb0 hbk hgl k0 k1 k2 hn hdd hR;go_enter Tryz.func92,Tryz.ntmps92;go_wp2_with fail;rw[<-HW0.out,<-HGQ.out];refine HM.out.mono ?_;rintro e w1 ⟨u1,rfl,hu1,hb1⟩;obtain⟨A1,N1,e1,rfl⟩:=hu1.frm;obtain⟨W1,hW1⟩:=zx (w1.alloc (.cells #[.bool false,.slice none 0 0,.slice A1 N1 e1] 26));obtain⟨p,hp⟩:=zx w1.heap.size
 have hb2:Below w1.heap.size w1 W1:=by rw[hW1];exact(zB _ _).alloc (zR _) _
 have hb12:=hb1.trans (hb2.mono hb1.size)
 have hpk:W1.heap[p]?=some (.cells #[.bool false,.slice none 0 0,.slice A1 N1 e1] 26 (0,0)):=by rw[hW1,hp];exact zN _ _
 have hbw:=HB0.out.trans (hb12.mono HB0.out.size);have q0:W1.cell? ⟨b1,o1,none⟩=some (.bool false):=(hbw.cell (p:=⟨b1,o1,none⟩) HR.out).trans K0.out;have q1:W1.cell? ⟨b1,o1+1,none⟩=some (.slice An Nn cn):=(hbw.cell (p:=⟨b1,o1+1,none⟩) HR.out).trans K1.out;have q2:W1.cell? ⟨b1,o1+2,none⟩=some (.slice Ad Nd cd):=(hbw.cell (p:=⟨b1,o1+2,none⟩) HR.out).trans K2.out;obtain⟨l0,l1,l2,lf0,lf1,lf2⟩:=cells3 hpk;have HU:=zh ((hu1.mono Fr.bl).below hb2);have HPK:=zh hpk;have HB1:=zh hb12;have HBW:=zh hbw;have HW1:=zh hW1;have HP:=zh (show p=w1.heap.size/\W0.heap.size<=p/\p<W1.heap.size/\W1.heap.size=p+1 from⟨hp,by rw[hp];exact hb1.size,(zA.1 hpk).1,by rw[hW1,hp];simp⟩);clear hu1 hb1 hb2 hb12 hbw hpk hp hW1;go_upto_region 2 with fail;rw[<-HW1.out,<-HP.out.1];go_wp2_with fail;go_loopg [6,7,8,13] 1 (fun z v6 v7 v8 v13 wr=>(z=1/\v13=.int .i64 0/\W1=wr)\/(z=0/\v13=.int .i64 1/\Hid (Below w.heap.size w wr)/\Hid (wr.heap[g]?=some (.cells #[.bool false,.slice none 0 0,.slice none 0 0] 26 (0,0)))/\Hid (∃un um,wr.heap[p]?=some (.cells #[.bool false,un,um] 26 (0,0))/\LS wr (Fr W1.heap.size wr.heap.size) un (natL c)/\LS wr (Fr W1.heap.size wr.heap.size) um (natL d))))
 case atStart=>exact .inl ⟨rfl,rfl,rfl⟩
 case round =>
  rcases hrel with ⟨rfl,rfl,rfl⟩ | ⟨rfl,rfl,hbr,hgk,hpk⟩
  ·obtain⟨W2,hW2⟩:=zx (W1.alloc (.cells #[.bool false,.slice An Nn cn,.slice Ad Nd cd] 26));obtain⟨x,hx⟩:=zx W1.heap.size
   have hb3:Below W1.heap.size W1 W2:=by rw[hW2];exact(zB _ _).alloc (zR _) _
   have hxk:W2.heap[x]?=some (.cells #[.bool false,.slice An Nn cn,.slice Ad Nd cd] 26 (0,0)):=by rw[hW2,hx];exact zN _ _
   obtain⟨m0,m1,m2,-⟩:=cells3 hxk;have hpk2:=(hb3.block p HP.out.2.2.1).trans HPK.out;obtain⟨n0,n1,n2,nf0,nf1,nf2⟩:=cells3 hpk2;have hbw2:=HBW.out.trans (hb3.mono HBW.out.size);have HA:=zh (fadd0_any (.slice none 0 0) (.slice A1 N1 e1) (.slice An Nn cn) (.slice Ad Nd cd) 1 c d W2 (by rw[natL_zero];exact LS.nil _ _) (HU.out.below hb3) (HN.out.below hbw2) (HD.out.below hbw2) (by omega) hc hd (by omega) (by omega) (by rw[Nat.mul_one,Nat.one_mul];exact hg));rw[Nat.mul_one,Nat.one_mul] at HA;have HB2:=zh hb3;have HX:=zh hx;have HW2:=zh hW2;have HPK2:=zh hpk2;have HBW2:=zh hbw2;clear hb3 hxk hpk2 hbw2 hx hW2;go_upto_region 5 with fail;rw[<-HW2.out,<-HX.out];clear l0 l1 l2 lf0 lf1 lf2 q0 q1 q2;go_wp2_with fail;refine HA.out.mono ?_;rintro e w4 ⟨un,um,rfl,hun,hum,hb4⟩;obtain⟨A3,N3,e3,rfl⟩:=hun.frm;obtain⟨A4,N4,e4,rfl⟩:=hum.frm;obtain⟨W4,hW4⟩:=zx (w4.alloc (.cells #[.bool false,.slice A3 N3 e3,.slice A4 N4 e4] 26));obtain⟨y,hy⟩:=zx w4.heap.size
   have hb5:Below w4.heap.size w4 W4:=by rw[hW4];exact(zB _ _).alloc (zR _) _
   have hyk:W4.heap[y]?=some (.cells #[.bool false,.slice A3 N3 e3,.slice A4 N4 e4] 26 (0,0)):=by rw[hW4,hy];exact zN _ _
   obtain⟨y0,y1,y2,-⟩:=cells3 hyk;have hb45:=hb4.trans (hb5.mono hb4.size);have hs2:=HB2.out.size;have hs4:=hb4.size;have hpk5:=(hb45.block p (zM HP.out.2.2.1 hs2)).trans HPK2.out;obtain⟨l0,l1,l2,lf0,lf1,lf2⟩:=cells3 hpk5
   have hyp:y≠p:=by have:=HP.out;omega
   have HPK5:=zh hpk5;have HBW5:=zh (HBW2.out.trans (hb45.mono HBW2.out.size));have hgk5:W4.heap[g]?=some (.cells #[.bool false,.slice none 0 0,.slice none 0 0] 26 (0,0)):=(hb45.block g (by have:=HGL.out;have:=HB1.out.size;omega)).trans ((HB2.out.block g (by have:=HGL.out;have:=HB1.out.size;omega)).trans ((HB1.out.block g HGL.out).trans HBK.out));have HGK5:=zh hgk5;have HUN:=zh ((hun.bel hb5).mono (Fr.wider hs2 (zR _)));have HUM:=zh ((hum.bel hb5).mono (Fr.wider hs2 (zR _)));have HY:=zh hy;have HW4:=zh hW4
   have hgp:g≠p:=by have:=HGL.out;have:=HP.out;omega
   have hpw:w.heap.size<=p:=by have:=HP.out;have:=HB0.out.size;omega
   have HGP:=zh (And.intro hgp hpw);clear hun hum hb4 hb5 hyk hb45 hpk5 hgk5 hy hW4 hgp hpw n0 n1 n2 nf0 nf1 nf2 m0 m1 m2 hs2 hs4;go_upto_region 6 with fail;rw[<-HW4.out,<-HY.out];go_wp2_with fail;have hX:=box3' HPK5.out HBW5.out HGP.out.2 (.bool false) (.slice A3 N3 e3) (.slice A4 N4 e4);go_roundg 0
   case measure=>omega
   case rel =>
    refine .inr ⟨rfl,rfl,hX.2.1,?_,⟨_,_,hX.1,?_,?_⟩⟩
    ·exact(hX.2.2 g HGP.out.1).trans HGK5.out
    ·exact(HUN.out.keep (kept_set3 W4 p _ _ _ _ (fun b hb e=>by have:=hb.1;have:=HP.out;omega))).mono (Fr.wider (zR _) (by simp))
    ·exact(HUM.out.keep (kept_set3 W4 p _ _ _ _ (fun b hb e=>by have:=hb.1;have:=HP.out;omega))).mono (Fr.wider (zR _) (by simp))
  ·obtain⟨un,um,hpk2,hun,hum⟩:=hpk.out;obtain⟨A3,N3,e3,rfl⟩:=hun.frm;obtain⟨A4,N4,e4,rfl⟩:=hum.frm;obtain⟨k0,k1,k2,-⟩:=cells3 hpk2;obtain⟨m0,m1,m2,f0,f1,f2⟩:=cells3 hgk.out
   have hgw:w.heap.size<=g:=by rw[HGQ.out];exact zR _
   have hs:=HB0.out.size;have hs1:=HB1.out.size;have HX:=zh (box3 hgk.out hbr.out hgw (.bool false) (.slice A3 N3 e3) (.slice A4 N4 e4) hun (fun b hb=>⟨by have:=hb.1;have:=HGL.out;omega,by have:=hb.1;omega,hb.2⟩) hum (fun b hb=>⟨by have:=hb.1;have:=HGL.out;omega,by have:=hb.1;omega,hb.2⟩))
   have hgp:p≠g:=by have:=HGL.out;have:=HP.out;omega
   clear hpk hun hum hpk2 hbr hgk hgw hs hs1 l0 l1 l2 lf0 lf1 lf2 q0 q1 q2;go_wp2_with fail;obtain⟨Wf,hWf⟩:=zx (((wr.setCell ⟨g,0,none⟩ (.bool false)).setCell ⟨g,1,none⟩ (.slice A3 N3 e3)).setCell ⟨g,2,none⟩ (.slice A4 N4 e4));obtain⟨x0,x1,x2,hl1,hl2,hbf⟩:=HX.out Wf hWf;rw[<-hWf];clear hWf m0 m1 m2 f0 f1 f2;exact bodyPost_ret (v:=.tuple #[.agg #[.bool false,.slice A3 N3 e3,.slice A4 N4 e4],.int .i64 0]) (by simp[results,Tryz.results92,go_sem,x0,x1,x2]) rfl ⟨_,_,rfl,hl1,hl2,hbf⟩
theorem mk_bool1:∀w:World,(Instr.makeSlice 158 (.int .i64 1) (.int .i64 1)).run Tryz.prog w=.ok (.slice (some ⟨w.heap.size,0,none⟩) 1 1) (w.alloc (.cells #[.bool false] 4)):=by
 intro w;obtain⟨i0,hi0,hz0,hz1,hz2⟩:=info_parts info_bool;have h:=run_make (P:=Tryz.prog) w 158 4 i0 _ Tryz.underlying158 hi0 hz0 .i64 .i64 (1:Int) (1:Int) (by omega) (by omega) (by rw[hz2];decide) (by omega);rw[hz1] at h
 simpa[madeCells_one,Value.cells] using h
structure LawE (w:World) (r bs os bl ol be oe br orr:Nat) (cr:Nat) (sn sd rn rd en ed:Value):Prop where
 r0:w.cell? ⟨bl,ol,none⟩=some (.slice (some ⟨br,orr,none⟩) 1 cr)
 s0:w.cell? ⟨bs,os,none⟩=some (.bool false)
 s1:w.cell? ⟨bs,os+1,none⟩=some sn
 s2:w.cell? ⟨bs,os+2,none⟩=some sd
 x0:w.cell? ⟨br,orr,none⟩=some (.bool false)
 x1:w.cell? ⟨br,orr+1,none⟩=some rn
 x2:w.cell? ⟨br,orr+2,none⟩=some rd
 e0:w.cell? ⟨be,oe,none⟩=some (.bool false)
 e1:w.cell? ⟨be,oe+1,none⟩=some en
 e2:w.cell? ⟨be,oe+2,none⟩=some ed
 sN:LS w (Bl w.heap.size) sn (natL 1)
 sD:LS w (Bl w.heap.size) sd (natL 1)
 rN:LS w (Bl w.heap.size) rn (natL 0)
 rD:LS w (Bl w.heap.size) rd (natL 1)
 eN:LS w (Bl w.heap.size) en (natL 1)
 eD:LS w (Bl w.heap.size) ed (natL (100+r))
theorem slS_one_frc{w:World}{b o c:Nat}{neg:Bool}{vn vd:Value}{n d:Nat}(h0:w.cell? ⟨b,o,none⟩=some (.bool neg))(h1:w.cell? ⟨b,o+1,none⟩=some vn)(h2:w.cell? ⟨b,o+2,none⟩=some vd)(hn:LS w (Bl w.heap.size) vn (natL n))(hd:LS w (Bl w.heap.size) vd (natL d))(hc:1<=c) :
  SlS 3 FrcK w (Bl w.heap.size) (.slice (some ⟨b,o,none⟩) 1 c) [⟨neg,n,d⟩]:=by
 refine⟨_,c,rfl,hc,by unfold maxLen;simp,fun _=>⟨b,o,rfl,block_lt_of_cell h0,fun k a hk=>?_⟩⟩
 match k,hk with
 | 0,hk =>
  simp at hk;subst hk;refine⟨[.bool neg,vn,vd],rfl,fun i x hx=>?_,vn,vd,rfl,hn,hd⟩
  match i,hx with
  | 0,hx=>simp at hx;subst hx;simpa using h0
  | 1,hx=>simp at hx;subst hx;simpa using h1
  | 2,hx=>simp at hx;subst hx;simpa using h2
  | i+3,hx=>simp at hx
 | k+1,hk=>simp at hk
theorem fend1_any(b:Bool)(w:World):Calls Tryz.prog 135 #[.bool b] w fun e w'=>e=.returned (.bool b)/\w=w':=by
 go_enter Tryz.func135,Tryz.ntmps135;go_wp2_with fail;go_ret;exact⟨rfl,rfl⟩
theorem fallb_any(g:Nat)(w:World)(h:w.cell? ⟨g,0,none⟩=some (.bool true)) :
  Calls Tryz.prog 134 #[.slice (some ⟨g,0,none⟩) 1 1,.func (.func 135) #[] #[]] w fun e w'=>e=.returned (.bool true)/\Below w.heap.size w w':=by
 have HG:=zh (block_lt_of_cell h);have HH:=zh h;clear h;go_enter Tryz.func134,Tryz.ntmps134;go_wp2_with fail;go_loopg [9] 1 (fun z v9 wr=>z+1<=2/\v9=.int .i64 ((1-z:Nat):Int)/\Hid (Below w.heap.size w wr))
 case atStart=>exact⟨by omega,rfl,zB _ _⟩
 case round =>
  obtain⟨hz,rfl,HB⟩:=hrel;rcases Nat.eq_zero_or_pos gk with hz0 | hz0
  ·subst hz0;go_wp2_with fail;go_ret;exact⟨rfl,HB.out⟩
  ·obtain rfl:gk=1:=by omega
   have h0:=(HB.out.cell (p:=⟨g,0,none⟩) HG.out).trans HH.out;go_wp2_with fail;refine(fend1_any true wr).mono ?_;rintro e w2 ⟨rfl,rfl⟩;go_wp2_with fail;go_roundg 0
   case measure=>omega
   case rel=>exact⟨by omega,rfl,HB.out⟩
section
variable {w w' : World} {r bs os bl ol be oe br orr cr : Nat} {sn sd rn rd en ed : Value}
theorem LawE.below(h:LawE w r bs os bl ol be oe br orr cr sn sd rn rd en ed)(hb:Below w.heap.size w w'):LawE w' r bs os bl ol be oe br orr cr sn sd rn rd en ed:=by
 have m:∀b o x,w.cell? ⟨b,o,none⟩=some x->w'.cell? ⟨b,o,none⟩=some x:=fun b o x hx=>(hb.cell (p:=⟨b,o,none⟩) (block_lt_of_cell hx)).trans hx
 exact⟨m _ _ _ h.r0,m _ _ _ h.s0,m _ _ _ h.s1,m _ _ _ h.s2,m _ _ _ h.x0,m _ _ _ h.x1,m _ _ _ h.x2,m _ _ _ h.e0,m _ _ _ h.e1,m _ _ _ h.e2,h.sN.below hb,h.sD.below hb,h.rN.below hb,h.rD.below hb,h.eN.below hb,h.eD.below hb⟩
theorem LawE.start(h:LawE w r bs os bl ol be oe br orr cr sn sd rn rd en ed)(c:Nat)(hc:1<=c):SlS 3 FrcK w (Bl w.heap.size) (.slice (some ⟨bs,os,none⟩) 1 c) [⟨false,1,1⟩]:=slS_one_frc h.s0 h.s1 h.s2 h.sN h.sD hc
theorem LawE.row(h:LawE w r bs os bl ol be oe br orr cr sn sd rn rd en ed)(hc:1<=cr):SlS 3 FrcK w (Bl w.heap.size) (.slice (some ⟨br,orr,none⟩) 1 cr) [⟨false,0,1⟩]:=slS_one_frc h.x0 h.x1 h.x2 h.rN h.rD hc
theorem LawE.exit(h:LawE w r bs os bl ol be oe br orr cr sn sd rn rd en ed)(c:Nat)(hc:1<=c):SlS 3 FrcK w (Bl w.heap.size) (.slice (some ⟨be,oe,none⟩) 1 c) [⟨false,1,100+r⟩]:=slS_one_frc h.e0 h.e1 h.e2 h.eN h.eD hc
end
theorem bool1_cell{w:World}{g:Nat}{b:Bool}(h:w.heap[g]?=some (.cells #[.bool b] 4 (0,0))):w.cell? ⟨g,0,none⟩=some (.bool b)/\w.frozen? ⟨g,0,none⟩=false :=
 ⟨by rw[cell_of_row _ _ _ _ _ _ h];rfl,frozen_of_row _ _ _ _ _ h⟩
theorem cells4{W:World}{g:Nat}{a b c d:Value}{t:TypeId}(h:W.heap[g]?=some (.cells #[a,b,c,d] t (0,0))):W.cell? ⟨g,0,none⟩=some a/\W.cell? ⟨g,1,none⟩=some b/\W.cell? ⟨g,2,none⟩=some c/\W.cell? ⟨g,3,none⟩=some d:=by
 refine⟨?_,?_,?_,?_⟩ <;> (rw[cell_of_row _ _ _ _ _ _ h];rfl)
theorem fends_any(n:ByteArray)(r bs os bl ol be oe br orr cs cl ce cr:Nat)(sn sd rn rd en ed:Value)(w:World)(h:LawE w r bs os bl ol be oe br orr cr sn sd rn rd en ed) :
  Calls Tryz.prog 93 #[.agg #[.string n,.slice (some ⟨bs,os,none⟩) 1 cs,.slice (some ⟨bl,ol,none⟩) 1 cl,.slice (some ⟨be,oe,none⟩) 1 ce]] w fun e w'=>e=.returned (.bool true)/\Below w.heap.size w w':=by
 obtain⟨A1,N1,d1,rfl⟩:=h.rN.frm;obtain⟨A2,N2,d2,rfl⟩:=h.rD.frm;obtain⟨A3,N3,d3,rfl⟩:=h.eN.frm;obtain⟨A4,N4,d4,rfl⟩:=h.eD.frm;obtain⟨W0,hW0⟩:=zx (w.alloc (.cells #[.string n,.slice (some ⟨bs,os,none⟩) 1 cs,.slice (some ⟨bl,ol,none⟩) 1 cl,.slice (some ⟨be,oe,none⟩) 1 ce] 96));obtain⟨q,hq⟩:=zx w.heap.size
 have hb0:Below w.heap.size w W0:=by rw[hW0];exact(zB _ _).alloc (zR _) _
 have hqk:W0.heap[q]?=some (.cells #[.string n,.slice (some ⟨bs,os,none⟩) 1 cs,.slice (some ⟨bl,ol,none⟩) 1 cl,.slice (some ⟨be,oe,none⟩) 1 ce] 96 (0,0)):=by rw[hW0,hq];exact zN _ _
 obtain⟨c0,c1,c2,c3⟩:=cells4 hqk;have hql:q<W0.heap.size:=(zA.1 hqk).1;obtain⟨W1,hW1⟩:=zx (W0.alloc (.cells #[.bool false] 4));obtain⟨g,hg⟩:=zx W0.heap.size
 have hgk:W1.heap[g]?=some (.cells #[.bool false] 4 (0,0)):=by rw[hW1,hg];exact zN _ _
 have hb1:Below W0.heap.size W0 W1:=by rw[hW1];exact(zB _ _).alloc (zR _) _
 have hmk:=mk_bool1;have HE:=zh (h.below hb0);have HC:=zh (And.intro c1 (And.intro c2 c3));have HW0:=zh hW0;have HQ:=zh hq;have HB0:=zh hb0;have HQL:=zh hql;have HW1:=zh hW1;have HG:=zh hg;have HGK:=zh hgk;have HB1:=zh hb1;clear h hW0 hq hb0 hqk hql hW1 hg hgk hb1 c0 c1 c2;go_enter Tryz.func93,Tryz.ntmps93;go_upto_region 1 with fail;rw[<-HW0.out,<-HQ.out];go_upto_region 2 with fail;rw[<-HW1.out,<-HG.out];clear hmk c3;go_wp2_with fail;go_loopg [4] 2 (fun z v4 wr=>∃t:Nat,t<=2/\z=2-t/\v4=.int .i64 (t:Int)/\Hid (wr.heap[g]?=some (.cells #[.bool (decide (0<t))] 4 (0,0)))/\Hid (Below W0.heap.size W0 wr))
 case atStart=>exact⟨0,by omega,rfl,rfl,HGK.out,HB1.out⟩
 case round =>
  obtain⟨t,ht,rfl,rfl,HT,HB⟩:=hrel;by_cases hlt:t<2
  ·have q2:(t:Int)<=1:=by omega
   have HTL:=zh hlt;obtain⟨wo,rfl⟩:=zx (wr:World);go_wp2_with fail;go_loopg [20] 1 (fun z v20 wr=>(z=1/\v20=.int .i64 0/\wo=wr)\/(z=0/\v20=.int .i64 1/\Hid (wr.heap[g]?=some (.cells #[.bool true] 4 (0,0)))/\Hid (Below W0.heap.size W0 wr)))
   case atStart=>exact .inl ⟨rfl,rfl,rfl⟩
   case round =>
    rcases hrel with ⟨rfl,rfl,rfl⟩ | ⟨rfl,rfl,HT2,HB2⟩
    ·have c2:wo.cell? ⟨q,2,none⟩=_:=(HB.out.cell (p:=⟨q,2,none⟩) HQL.out).trans HC.out.2.1;have c3:wo.cell? ⟨q,3,none⟩=_:=(HB.out.cell (p:=⟨q,3,none⟩) HQL.out).trans HC.out.2.2;have he:=HE.out.below HB.out;obtain⟨g0,gf⟩:=bool1_cell HT.out;have e0:=he.e0;have e1:=he.e1;have e2:=he.e2;have HA:=zh (fabove_any false _ _ 1 (100+r) wo he.eN he.eD);rw[decide_eq_true (show 0<1 by omega)] at HA;have HGG:=zh (show W0.heap.size<=g from by rw[HG.out];exact zR _);clear he;by_cases h0:t=0
     ·have hd:decide (0<t)=false:=by rw[h0];rfl
      rw[hd] at g0 HT;clear hd h0;go_wp2_with fail;refine HA.out.mono ?_;rintro e w2 ⟨rfl,hb2⟩;have hgk2:=(hb2.block g (block_lt_of_cell g0)).trans HT.out;obtain⟨g1,gf1⟩:=bool1_cell hgk2;have HBZ:=zh (HB.out.trans (hb2.mono HB.out.size));have HGK2:=zh hgk2;clear g0 gf e0 e1 e2 c2 c3 hb2 hgk2;obtain⟨w3,hw3⟩:=zx (w2.setCell ⟨g,0,none⟩ (.bool true))
      have hg3:w3.heap[g]?=some (.cells #[.bool true] 4 (0,0)):=by rw[hw3];exact heap_setCell_same w2 g 0 _ _ _ HGK2.out
      have hb3:Below W0.heap.size W0 w3:=by rw[hw3];exact HBZ.out.setCell HGG.out _
      have HW3:=zh hw3;have HG3:=zh hg3;have HB3:=zh hb3;have f2:w3.cell? ⟨q,2,none⟩=_:=(hb3.cell (p:=⟨q,2,none⟩) HQL.out).trans HC.out.2.1;have r0:=(HE.out.below hb3).r0;clear hw3 hg3 hb3;go_upto_region 9 with fail;rw[<-HW3.out];clear g1 gf1;go_wp2_with fail;clear f2 r0;go_loopg [44] 1 (fun z v44 wr=>z+1<=2/\v44=.int .i64 ((1-z:Nat):Int)/\Hid (wr.heap[g]?=some (.cells #[.bool true] 4 (0,0)))/\Hid (Below W0.heap.size W0 wr))
      case atStart=>exact⟨by omega,rfl,HG3.out,HB3.out⟩
      case round =>
       obtain⟨hz,rfl,HT4,HB4⟩:=hrel;rcases Nat.eq_zero_or_pos gk with hz0 | hz0
       ·subst hz0;go_wp2_with fail;go_roundg 0
        case measure=>omega
        case rel=>exact .inr ⟨rfl,rfl,HT4.out,HB4.out⟩
       ·obtain rfl:gk=1:=by omega
        have he:=HE.out.below HB4.out;have x0:=he.x0;have x1:=he.x1;have x2:=he.x2;obtain⟨W4,hW4⟩:=zx (wr.alloc (.cells #[.bool false,.slice A1 N1 d1,.slice A2 N2 d2] 26))
        have hb5:Below wr.heap.size wr W4:=by rw[hW4];exact(zB _ _).alloc (zR _) _
        have hgl:=(zA.1 HT4.out).1;have hg5:=(hb5.block g hgl).trans HT4.out;obtain⟨g5,gf5⟩:=bool1_cell hg5;have HB5:=zh (HB4.out.trans (hb5.mono HB4.out.size));have HG5:=zh hg5;have HW4:=zh hW4;clear he hW4 hb5 hgl hg5;go_upto_region 12 with fail;rw[<-HW4.out];clear x0 x1 x2;go_wp2_with fail;go_roundg 0
        case measure=>omega
        case rel=>exact⟨by omega,rfl,heap_setCell_same W4 g 0 _ _ _ HG5.out,HB5.out.setCell HGG.out _⟩
     ·have hd:decide (0<t)=true:=by simp;omega
      rw[hd] at g0 HT;clear hd h0;obtain⟨w3,hw3⟩:=zx (wo.setCell ⟨g,0,none⟩ (.bool true))
      have hg3:w3.heap[g]?=some (.cells #[.bool true] 4 (0,0)):=by rw[hw3];exact heap_setCell_same wo g 0 _ _ _ HT.out
      have hb3:Below W0.heap.size W0 w3:=by rw[hw3];exact HB.out.setCell HGG.out _
      have HW3:=zh hw3;have HG3:=zh hg3;have HB3:=zh hb3;have f2:w3.cell? ⟨q,2,none⟩=_:=(hb3.cell (p:=⟨q,2,none⟩) HQL.out).trans HC.out.2.1;have r0:=(HE.out.below hb3).r0;clear hw3 hg3 hb3;go_upto_region 9 with fail;rw[<-HW3.out];clear g0 gf e0 e1 e2 c2 c3;go_wp2_with fail;clear f2 r0;go_loopg [44] 1 (fun z v44 wr=>z+1<=2/\v44=.int .i64 ((1-z:Nat):Int)/\Hid (wr.heap[g]?=some (.cells #[.bool true] 4 (0,0)))/\Hid (Below W0.heap.size W0 wr))
      case atStart=>exact⟨by omega,rfl,HG3.out,HB3.out⟩
      case round =>
       obtain⟨hz,rfl,HT4,HB4⟩:=hrel;rcases Nat.eq_zero_or_pos gk with hz0 | hz0
       ·subst hz0;go_wp2_with fail;go_roundg 0
        case measure=>omega
        case rel=>exact .inr ⟨rfl,rfl,HT4.out,HB4.out⟩
       ·obtain rfl:gk=1:=by omega
        have he:=HE.out.below HB4.out;have x0:=he.x0;have x1:=he.x1;have x2:=he.x2;obtain⟨W4,hW4⟩:=zx (wr.alloc (.cells #[.bool false,.slice A1 N1 d1,.slice A2 N2 d2] 26))
        have hb5:Below wr.heap.size wr W4:=by rw[hW4];exact(zB _ _).alloc (zR _) _
        have hgl:=(zA.1 HT4.out).1;have hg5:=(hb5.block g hgl).trans HT4.out;obtain⟨g5,gf5⟩:=bool1_cell hg5;have HB5:=zh (HB4.out.trans (hb5.mono HB4.out.size));have HG5:=zh hg5;have HW4:=zh hW4;clear he hW4 hb5 hgl hg5;go_upto_region 12 with fail;rw[<-HW4.out];clear x0 x1 x2;go_wp2_with fail;go_roundg 0
        case measure=>omega
        case rel=>exact⟨by omega,rfl,heap_setCell_same W4 g 0 _ _ _ HG5.out,HB5.out.setCell HGG.out _⟩
    ·clear HB HT;go_wp2_with fail;go_roundg (2-(t+1))
     case measure=>have:=HTL.out;omega
     case rel=>exact⟨t+1,HTL.out,rfl,by go_num,by rw[decide_eq_true (Nat.succ_pos t)];exact HT2.out,HB2.out⟩
  ·have h2:t=2:=by omega
   subst h2;obtain⟨g0,gf⟩:=bool1_cell HT.out;have HBR:=zh HB.out;go_wp2_with fail;refine(fallb_any g wr (by have:=g0;simpa using this)).mono ?_;rintro e w2 ⟨rfl,hb2⟩;have HBZ:=zh (HB0.out.trans ((HBR.out.trans (hb2.mono HBR.out.size)).mono HB0.out.size));clear hb2 g0 gf;go_wp2_with fail;go_ret;exact⟨rfl,HBZ.out⟩
theorem fin_any(n lo hi:Int)(w:World):Calls Tryz.prog 42 #[.int .i64 n,.int .i64 lo,.int .i64 hi] w fun e w'=>e=.returned (.bool (decide (lo<=n/\n<=hi)))/\w=w':=by
 by_cases h1:lo<=n
 ·by_cases h2:n<=hi
  ·go_enter Tryz.func42,Tryz.ntmps42;go_wp2_with fail;go_ret;exact⟨ret_bool (by simp[h1,h2]),rfl⟩
  ·go_enter Tryz.func42,Tryz.ntmps42;go_wp2_with fail;go_ret;exact⟨ret_bool (by simp[h1,h2]),rfl⟩
 ·go_enter Tryz.func42,Tryz.ntmps42;go_wp2_with fail;go_ret;exact⟨ret_bool (by simp;intro h;omega),rfl⟩
theorem flaw_any(n:ByteArray)(r bs os bl ol be oe br orr cs cl ce cr:Nat)(sn sd rn rd en ed:Value)(w:World)(h:LawE w r bs os bl ol be oe br orr cr sn sd rn rd en ed)(hcs:1<=cs)(hce:1<=ce)(hcr:1<=cr) :
  Calls Tryz.prog 44 #[.agg #[.string n,.slice (some ⟨bs,os,none⟩) 1 cs,.slice (some ⟨bl,ol,none⟩) 1 cl,.slice (some ⟨be,oe,none⟩) 1 ce]] w fun e w'=>e=.returned (.bool true)/\Below w.heap.size w w':=by
 obtain⟨A1,N1,d1,rfl⟩:=h.rN.frm;obtain⟨A2,N2,d2,rfl⟩:=h.rD.frm;obtain⟨W0,hW0⟩:=zx (w.alloc (.cells #[.string n,.slice (some ⟨bs,os,none⟩) 1 cs,.slice (some ⟨bl,ol,none⟩) 1 cl,.slice (some ⟨be,oe,none⟩) 1 ce] 96));obtain⟨q,hq⟩:=zx w.heap.size
 have hb0:Below w.heap.size w W0:=by rw[hW0];exact(zB _ _).alloc (zR _) _
 have hqk:W0.heap[q]?=some (.cells #[.string n,.slice (some ⟨bs,os,none⟩) 1 cs,.slice (some ⟨bl,ol,none⟩) 1 cl,.slice (some ⟨be,oe,none⟩) 1 ce] 96 (0,0)):=by rw[hW0,hq];exact zN _ _
 have hql:q<W0.heap.size:=(zA.1 hqk).1;have HF:=zh (fun(w':World) (hb:Below W0.heap.size W0 w')=>cells4 ((hb.block q hql).trans hqk));have HE:=zh (fun(w':World) (hb:Below W0.heap.size W0 w')=>(h.below hb0).below hb);have HS:=zh (fun(w':World) (hb:Below W0.heap.size W0 w')=>fall_lim _ _ w' (((h.below hb0).below hb).start cs hcs) (fun W x vn vd hx hn hd=>by rw[List.mem_singleton.1 hx] at hn hd ⊢;exact flimits_any vn vd 1 1 W hn hd (by omega) (by decide)));have HX:=zh (fun(w':World) (hb:Below W0.heap.size W0 w')=>fall_lim _ _ w' (((h.below hb0).below hb).exit ce hce) (fun W x vn vd hx hn hd=>by rw[List.mem_singleton.1 hx] at hn hd ⊢;exact flimits_any vn vd 1 (100+r) W hn hd (by show 0<100+r;omega) (Nat.gcd_one_left _)));have HRW:=zh (fun(w':World) (hb:Below W0.heap.size W0 w')=>fall_lim _ _ w' (((h.below hb0).below hb).row hcr) (fun W x vn vd hx hn hd=>by rw[List.mem_singleton.1 hx] at hn hd ⊢;exact flimits_any vn vd 0 1 W hn hd (by omega) (by decide)));have HSU:=zh (fun(w':World) (hb:Below W0.heap.size W0 w')=>fsum1_any _ 1 1 w' (((h.below hb0).below hb).start cs hcs) (by omega) (by omega) (by decide));have HW0:=zh hW0;have HQ:=zh hq;have HB0:=zh hb0;obtain⟨c0,c1,c2,c3⟩:=HF.out W0 (zB _ _);have HC:=zh (show 1<=cs/\1<=ce/\1<=cr from⟨hcs,hce,hcr⟩);clear h hW0 hq hb0 hqk hql hcs hce hcr;go_enter Tryz.func44,Tryz.ntmps44;go_wp2_with fail;rw[<-HW0.out,<-HQ.out];refine(fin_any 1 1 4 W0).mono ?_;rintro e w1 ⟨rfl,rfl⟩
 have hd:decide ((1:Int)<=1/\(1:Int)<=4)=true:=by decide
 rw[hd];clear hd;go_wp2_with fail;refine(HS.out _ (zB _ _)).mono ?_;rintro e w1 ⟨rfl,hb1⟩;obtain⟨k0,k1,k2,k3⟩:=HF.out w1 hb1;have HB1:=zh hb1;clear hb1 c0 c1 c2 c3;go_wp2_with fail;refine(HX.out _ HB1.out).mono ?_;rintro e w2 ⟨rfl,hb2⟩;have hb02:=HB1.out.trans (hb2.mono HB1.out.size);obtain⟨c0,c1,c2,c3⟩:=HF.out w2 hb02;have r0:=(HE.out w2 hb02).r0;have x0:=(HE.out w2 hb02).x0;have x1:=(HE.out w2 hb02).x1;have x2:=(HE.out w2 hb02).x2;have HB2:=zh hb02;clear hb2 hb02 k0 k1 k2 k3;go_wp2_with fail;clear c0 c1 c2 c3;go_loopg [47] 1 (fun z v47 wr=>z+1<=2/\v47=.int .i64 ((1-z:Nat):Int)/\Hid (Below W0.heap.size W0 wr))
 case atStart=>exact⟨by omega,rfl,HB2.out⟩
 case round =>
  clear r0 x0 x1 x2;obtain⟨hz,rfl,HB⟩:=hrel;rcases Nat.eq_zero_or_pos gk with hz0 | hz0
  ·subst hz0;obtain⟨c0,c1,c2,c3⟩:=HF.out wr HB.out;go_wp2_with fail;refine(HSU.out _ HB.out).mono ?_;rintro e w3 ⟨un,um,rfl,hun,hum,hb3⟩;obtain⟨A3,N3,d3,rfl⟩:=hun.frm;obtain⟨A4,N4,d4,rfl⟩:=hum.frm;obtain⟨W3,hW3⟩:=zx (w3.alloc (.cells #[.bool false,.slice A3 N3 d3,.slice A4 N4 d4] 26));obtain⟨g,hg⟩:=zx w3.heap.size
   have hb4:Below w3.heap.size w3 W3:=by rw[hW3];exact(zB _ _).alloc (zR _) _
   have hgk:W3.heap[g]?=some (.cells #[.bool false,.slice A3 N3 d3,.slice A4 N4 d4] 26 (0,0)):=by rw[hW3,hg];exact zN _ _
   have hb03:=HB.out.trans ((hb3.trans (hb4.mono hb3.size)).mono HB.out.size);have HN3:=zh ((hun.mono Fr.bl).below hb4);have HM3:=zh ((hum.mono Fr.bl).below hb4);have HB3:=zh hb03;have HGK:=zh hgk;have HW3:=zh hW3;have HG:=zh hg;clear hun hum hb3 hb4 hW3 hg hgk hb03 c0 c1 c2 c3;go_upto_region 11 with fail;rw[<-HW3.out,<-HG.out];go_wp2_with fail;refine(fmake_any 1 1 W3 (by omega) (by omega) (by omega) (by decide)).mono ?_;rintro e w4 ⟨u5,u6,rfl,hu5,hu6,hb4⟩;obtain⟨A5,N5,d5,rfl⟩:=hu5.frm;obtain⟨A6,N6,d6,rfl⟩:=hu6.frm;obtain⟨W4,hW4⟩:=zx (w4.alloc (.cells #[.bool false,.slice A5 N5 d5,.slice A6 N6 d6] 26));obtain⟨g4,hg4⟩:=zx w4.heap.size
   have hb5:Below w4.heap.size w4 W4:=by rw[hW4];exact(zB _ _).alloc (zR _) _
   have hgk4:W4.heap[g4]?=some (.cells #[.bool false,.slice A5 N5 d5,.slice A6 N6 d6] 26 (0,0)):=by rw[hW4,hg4];exact zN _ _
   have hb45:=hb4.trans (hb5.mono hb4.size);have hgk3:=(hb45.block g (zA.1 HGK.out).1).trans HGK.out;obtain⟨m0,m1,m2,-⟩:=cells3 hgk3;obtain⟨n0,n1,n2,-⟩:=cells3 hgk4;have hb04:=HB3.out.trans (hb45.mono HB3.out.size);have HCM:=zh (fcmp_any _ _ _ _ 1 1 1 1 W4 (HN3.out.below hb45) (HM3.out.below hb45) ((hu5.mono Fr.bl).below hb5) ((hu6.mono Fr.bl).below hb5) (by omega) (by omega) (by omega) (by omega));rw[show cmpI (1*1) (1*1)=0 from rfl] at HCM;have HB4:=zh hb04;have HW4:=zh hW4;have HG4:=zh hg4;clear hu5 hu6 hb4 hb5 hW4 hg4 hgk4 hb45 hgk3 hb04;go_upto_region 12 with fail;rw[<-HW4.out,<-HG4.out];go_wp2_with fail;refine HCM.out.mono ?_;rintro e w5 ⟨rfl,hb5⟩;have hb05:=HB4.out.trans (hb5.mono HB4.out.size);obtain⟨c0,c1,c2,c3⟩:=HF.out w5 hb05;have HEN:=zh (fends_any n r bs os bl ol be oe br orr cs cl ce cr _ _ _ _ _ _ w5 (HE.out w5 hb05));have HB5:=zh hb05;clear hb5 hb05 m0 m1 m2 n0 n1 n2;go_wp2_with fail;refine HEN.out.mono ?_;rintro e w6 ⟨rfl,hb6⟩;have HB6:=zh (HB0.out.trans ((HB5.out.trans (hb6.mono HB5.out.size)).mono HB0.out.size));clear hb6 c0 c1 c2 c3;go_wp2_with fail;go_ret;exact⟨rfl,HB6.out⟩
  ·obtain rfl:gk=1:=by omega
   have r0:=(HE.out wr HB.out).r0;go_wp2_with fail;refine(HRW.out wr HB.out).mono ?_;rintro e w3 ⟨rfl,hb3⟩;have hb03:=HB.out.trans (hb3.mono HB.out.size);have x0:=(HE.out w3 hb03).x0;have x1:=(HE.out w3 hb03).x1;have x2:=(HE.out w3 hb03).x2;have HA:=zh (fabove_any false _ _ 0 1 w3 (HE.out w3 hb03).rN (HE.out w3 hb03).rD);rw[decide_eq_false (show ¬0<0 by omega)] at HA;have HB3:=zh hb03;clear hb3 hb03 r0;go_wp2_with fail;refine HA.out.mono ?_;rintro e w4 ⟨rfl,hb4⟩;have HB4:=zh (HB3.out.trans (hb4.mono HB3.out.size));clear hb4 x0 x1 x2;go_wp2_with fail;go_roundg 0
   case measure=>omega
   case rel=>exact⟨by omega,rfl,HB4.out⟩
open Go.ChangeMaps Go.MapKept Go.WideShapes
open Go.Maps (Keyed string_keyed)
open Go.WideMaps (keyOf_string_mk)
def LowN(s:ByteArray):Prop:=1<=s.size/\s.size<=16/\∀x∈s.data.toList,97<=x.toNat/\x.toNat<=122
theorem fletter_any(c:UInt8)(w:World)(h1:97<=c.toNat)(h2:c.toNat<=122):Calls Tryz.prog 140 #[.int .u8 (c.toNat:Int)] w fun e w'=>e=.returned (.bool true)/\w=w':=by
 have q1:(97:Int)<=(c.toNat:Int):=by omega
 have q2:(c.toNat:Int)<=122:=by omega
 go_enter Tryz.func140,Tryz.ntmps140;go_wp2_with fail;go_ret;exact⟨ret_bool (by simp[q1,q2]),rfl⟩
theorem finner_any(c:UInt8)(w:World)(h1:97<=c.toNat)(h2:c.toNat<=122):Calls Tryz.prog 141 #[.int .u8 (c.toNat:Int)] w fun e w'=>e=.returned (.bool true)/\w=w':=by
 have HL:=zh (fletter_any c w h1 h2);go_enter Tryz.func141,Tryz.ntmps141;go_wp2_with fail;refine HL.out.mono ?_;rintro e w1 ⟨rfl,rfl⟩;go_wp2_with fail;go_ret;exact⟨rfl,rfl⟩
theorem fname_any(s:ByteArray)(w:World)(h:LowN s):Calls Tryz.prog 96 #[.string s] w fun e w'=>e=.returned (.bool true)/\w=w':=by
 obtain⟨h1,h2,h3⟩:=h
 have hE:s.toList.isEmpty=false:=by
  rw[ByteArray.toList_eq]
  cases hl:s.data.toList with
  | nil =>
   have:s.size=0:=by show s.data.size=0;rw[<-Array.length_toList,hl];rfl
   omega
  | cons a l=>rfl
 have HA:=zh h3
 have hel:∀i (hi:i<s.size),97<=(s[i]'hi).toNat/\(s[i]'hi).toNat<=122:=fun i hi=>h3 _ (by rw[<-Array.mem_def];exact Array.getElem_mem hi)
 have HEL:=zh hel
 have q1:(0:Int)<(s.size:Int):=by omega
 have q2:¬((16:Int)<(s.size:Int)):=by omega
 clear h3 hel;go_enter Tryz.func96,Tryz.ntmps96;go_wp2_with fail;refine(fletter_any _ w (HEL.out 0 (by omega)).1 (HEL.out 0 (by omega)).2).mono ?_;rintro e w1 ⟨rfl,rfl⟩;go_wp2_with fail;go_loopg [3] s.size (fun z v3 wr=>w=wr/\∃j:Nat,j<=s.size/\z=s.size-j/\v3=.int .i64 (j:Int))
 case atStart=>exact⟨rfl,0,by omega,rfl,rfl⟩
 case round =>
  obtain⟨rfl,j,hj,rfl,rfl⟩:=hrel;by_cases hlt:j<s.size
  ·go_wp2_with fail;refine(finner_any _ w (HEL.out j hlt).1 (HEL.out j hlt).2).mono ?_;rintro e w1 ⟨rfl,rfl⟩;go_wp2_with fail;go_roundg (s.size-(j+1))
   case measure=>omega
   case rel=>exact⟨rfl,j+1,by omega,rfl,by go_num⟩
  ·go_wp2_with fail;go_ret;exact⟨rfl,rfl⟩
def MapSV(w:World)(b n:Nat)(f:ByteArray->Option Value):Prop :=
 ∃D,w.ownsMap Tryz.prog 9 rawR b n D/\∀s l,keyOf Tryz.prog 9 (.string s)=some l->Maps.has D l=(f s).isSome/\∀z,D.atKey l (.held z)=.held ((f s).getD z)
theorem str_law:Keyed Tryz.prog 9:=string_keyed Tryz.underlying9
def updS(f:ByteArray->Option Value)(x:ByteArray)(v:Value):ByteArray->Option Value:=fun a=>if a=x then some v else f a
theorem updS_same(f:ByteArray->Option Value)(x:ByteArray)(v:Value):updS f x v x=some v:=if_pos rfl
theorem updS_other{f:ByteArray->Option Value}{x a:ByteArray}{v:Value}(h:a≠x):updS f x v a=f a:=if_neg h
theorem MapSV.made(w:World):MapSV (w.alloc (.map #[] 0)) w.heap.size 0 (fun _=>none) :=
 ⟨_,World.ownsMap_made w Tryz.prog 9 rawR,fun x l _=>⟨rfl,fun z=>rfl⟩⟩
theorem MapSV.look{w:World}{b n:Nat}{f:ByteArray->Option Value}{t e:TypeId}{z:Value}(h:MapSV w b n f)(ht:Tryz.prog.underlying t=some (.map 9 e))(hz:(zeroValue e).run Tryz.prog w=.ok z w)(s:ByteArray)(hs:s.size<=maxLen) :
  (Instr.lookup t (.map (some b)) (.string s) false).run Tryz.prog w=.ok ((f s).getD z) w:=by
 obtain⟨D,h1,h2⟩:=h;have hl:=keyOf_string_mk (P:=Tryz.prog) Tryz.underlying9 hs;obtain⟨v,ps,hrun,hv⟩:=h1.lookup str_law ht hz (zd:=.held z) (zp:=[]) rfl hl;rw[(h2 s _ hl).2 z] at hv;rw[hrun,held_inj (rawR_inj hv)]
theorem MapSV.store{w:World}{b n:Nat}{f:ByteArray->Option Value}{t e:TypeId}(h:MapSV w b n f)(ht:Tryz.prog.underlying t=some (.map 9 e))(hn:n<maxLen)(s:ByteArray)(hs:s.size<=maxLen)(v:Value) :
  ∃w',(Instr.mapUpdate t (.map (some b)) (.string s) v).run Tryz.prog w=.ok () w'/\MapSV w' b (n+1) (updS f s v)/\w.grownBy w' (some b):=by
 obtain⟨D,h1,h2⟩:=h;have hl:=keyOf_string_mk (P:=Tryz.prog) Tryz.underlying9 hs;obtain⟨w',hrun,r1,r2⟩:=h1.update str_law ht hn hl (d:=.held v) (ps:=[]) rfl;refine⟨w',hrun,⟨_,r1,fun a l' hl'=>?_⟩,r2⟩;by_cases hk:a=s
 ·subst hk;have e:=hl';rw[hl] at e;injection e with e;subst e;rw[updS_same];exact⟨Maps.has_put_same h1.isMap (str_law.key hl') _,fun z=>Maps.atKey_put_same h1.isMap (str_law.key hl') _ _⟩
 ·rw[updS_other hk]
  have hne:l'≠.string s.data.toList:=fun e=>hk (by
   rw[e] at hl';have:=str_law.inj hl' hl
   injection this)
  exact⟨by rw[Maps.has_put_other hne];exact(h2 a l' hl').1,fun z=>by rw[Maps.atKey_put_other hne];exact(h2 a l' hl').2 z⟩
theorem sv_store{w:World}{ops:Array Oper}{rest:List Oper}{o:Oper}{a:Act}{Q:Exit->Act->World->Prop}(hg:o.guard=none)(m xo vo:Operand)(t e:TypeId)(hop:o.op=Op.mapUpdate t m xo vo)(ht:Tryz.prog.underlying t=some (.map 9 e))(b n:Nat)(f:ByteArray->Option Value)(s:ByteArray)(v:Value)
  (hm:a.eval m=.map (some b)) (hxo:a.eval xo=.string s) (hvo:a.eval vo=v) (h:MapSV w b n f) (hn:n<maxLen) (hs:s.size<=maxLen)
  (hK:∀w',MapSV w' b (n+1) (updS f s v)->w.grownBy w' (some b)->wpList Tryz.prog ops Q rest (a.put o.dst undef) w'):wpList Tryz.prog ops Q (o :: rest) a w:=by
 refine wpList_plain hg fun K' hK'=>?_
 obtain⟨w',hrun,r1,r2⟩:=h.store ht hn s hs v;unfold Oper.wp;simp[execOp,hop,hm,hxo,hvo,hrun,Result.andThen];exact hK' _ _ (hK w' r1 r2)
theorem zero_bool(w:World):(zeroValue 4).run Tryz.prog w=.ok (.bool false) w:=by kernel_rfl
theorem funique_any(v:Value)(l:List ByteArray)(w:World)(h:SlS 1 StrK w (Bl w.heap.size) v l)(hl:∀s∈l,LowN s)(hd:l.Nodup)(hn:l.length<=1000) :
  Calls Tryz.prog 46 #[v] w fun e w'=>e=.returned (.bool true)/\Below w.heap.size w w':=by
 obtain⟨A,c,rfl,-,hm⟩:=h.form;unfold maxLen at hm;obtain⟨W0,hW0⟩:=zx (w.alloc (.map #[] 0));obtain⟨b,hb⟩:=zx w.heap.size
 have hb0:Below w.heap.size w W0:=by rw[hW0];exact(zB _ _).alloc (zR _) _
 have HM0:=zh (show MapSV W0 b 0 (fun _=>none) from by rw[hW0,hb];exact MapSV.made w);have HS:=zh (fun(w':World) (hb:Below w.heap.size w w')=>SlS.keep strK h (kept_below hb));have hmm:=@run_makeMap Tryz.prog;have HL:=zh hl;have HD:=zh hd;have HN:=zh hn;have HW0:=zh hW0;have HB:=zh hb;have HB0:=zh hb0;clear h hl hd hn hW0 hb hb0;go_enter Tryz.func46,Tryz.ntmps46;go_wp2_with fail;rw[<-HW0.out,<-HB.out];clear hmm;go_loopg [9] l.length (fun z v9 wr=>∃j:Nat,j<=l.length/\z=l.length-j/\v9=.int .i64 (j:Int)/\Hid (Below w.heap.size w wr)/\Hid (∃f,MapSV wr b j f/\∀s,s∉l.take j->f s=none))
 case atStart=>exact⟨0,by omega,rfl,rfl,HB0.out,⟨_,HM0.out,fun _ _=>rfl⟩⟩
 case round =>
  obtain⟨j,hj,rfl,rfl,HBR,HF⟩:=hrel;by_cases hlt:j<l.length
  ·obtain⟨f,hf,hfn⟩:=HF.out;obtain⟨p,off,cs,rfl,hR,-,hc,hk,hsz⟩:=(HS.out wr HBR.out).at_ hlt;have hcell:=hc 0 (.string l[j]) (by rw[hk];rfl);simp only[Nat.mul_one,Nat.add_zero] at hcell;have hlow:=HL.out l[j] (List.getElem_mem hlt)
   have hnot:l[j]∉l.take j:=fun hm=>by
    obtain⟨i,hi,he⟩:=List.getElem_of_mem hm;rw[List.length_take] at hi;rw[List.getElem_take] at he;exact(List.pairwise_iff_getElem.1 HD.out i j (by omega) hlt (by omega)) he
   have hnx:∀s,s∉l.take (j+1)->s≠l[j]/\s∉l.take j:=fun s hs=>by
    rw[List.take_succ_eq_append_getElem hlt] at hs;exact⟨fun e=>hs (List.mem_append.2 (.inr (by rw[e];exact List.mem_singleton.2 rfl))),fun hm=>hs (List.mem_append.2 (.inl hm))⟩
   have hlk:=hf.look Tryz.underlying159 (zero_bool wr) l[j] hsz;rw[hfn _ hnot] at hlk
   have hj0:j<=1000:=by have:=HN.out;omega
   have hjm:j<maxLen:=by unfold maxLen;omega
   generalize l[j]=x at *;have HNM:=zh (fname_any x wr hlow);have HFF:=zh hf;have HFN:=zh hfn;have HNX:=zh hnx;have HSZ:=zh hsz;have HJM:=zh hjm;have hlk2:(Instr.lookup 159 (.map (some b)) (.string x) false).run Tryz.prog wr=.ok (.bool false) wr:=hlk;clear hc hk hlow hnot hlk hf hfn hnx hsz hjm;go_wp2_with fail;refine HNM.out.mono ?_;rintro e w1 ⟨rfl,rfl⟩;go_wp2_with (at_mapUpdate;refine sv_store rfl _ _ _ _ _ rfl Tryz.underlying159 b j f x (.bool true) (by rfl) (by rfl) (by rfl) HFF.out HJM.out HSZ.out ?_;intro w2 hm2 hg2);have HM2:=zh hm2;have HB2:=zh (show Below w.heap.size w w2 from HBR.out.grown hg2 HBR.out.size (fun q e=>by injection e with e;have:=HB.out;omega));clear hm2 hg2 hcell hlk2;go_wp2_with fail;go_roundg (l.length - (j+1))
   case measure=>omega
   case rel=>exact⟨j+1,by omega,rfl,by go_num,HB2,⟨_,HM2.out,fun s hs=>by rw[updS_other (HNX.out s hs).1];exact HFN.out s (HNX.out s hs).2⟩⟩
  ·go_wp2_with fail;go_ret;exact⟨rfl,HBR.out⟩
theorem fnumk_any(n:Int)(w:World)(h:0<=n/\n<=8):Calls Tryz.prog 137 #[.int .i64 n] w fun e w'=>e=.returned (.bool true)/\w=w':=by
 have HI:=zh (fin_any n 0 8 w);rw[decide_eq_true h] at HI;go_enter Tryz.func137,Tryz.ntmps137;go_wp2_with fail;refine HI.out.mono ?_;rintro e w1 ⟨rfl,rfl⟩;go_wp2_with fail;go_ret;exact⟨rfl,rfl⟩
theorem falli_any(v:Value)(xs:List Int)(w:World)(R:Nat->Prop)(h:IntS w R v xs)(hx:∀x∈xs,0<=x/\x<=8) :
  Calls Tryz.prog 136 #[v,.func (.func 137) #[] #[]] w fun e w'=>e=.returned (.bool true)/\w=w':=by
 obtain⟨A,c,rfl,-,hm⟩:=h.form7;unfold maxLen at hm;have HL:=zh h;have HX:=zh hx;clear h hx;go_enter Tryz.func136,Tryz.ntmps136;go_wp2_with fail;go_loopg [9] xs.length (fun z v9 wr=>w=wr/\∃j:Nat,j<=xs.length/\z=xs.length-j/\v9=.int .i64 (j:Int))
 case atStart=>exact⟨rfl,0,by omega,rfl,rfl⟩
 case round =>
  obtain⟨rfl,j,hj,rfl,rfl⟩:=hrel;by_cases hlt:j<xs.length
  ·obtain⟨b,off,rfl,hR,hc,-⟩:=HL.out.at7 hlt;have HK:=zh (fnumk_any xs[j] w (HX.out _ (List.getElem_mem hlt)));generalize xs[j]=x at *;go_wp2_with fail;refine HK.out.mono ?_;rintro e w1 ⟨rfl,rfl⟩;go_wp2_with fail;go_roundg (xs.length - (j+1))
   case measure=>omega
   case rel=>exact⟨rfl,j+1,by omega,rfl,by go_num⟩
  ·go_wp2_with fail;go_ret;exact⟨rfl,rfl⟩
theorem fnumbers_any(k m q s3 s4:Int)(w:World)(hk:k=1\/k=2)(hm:0<=m/\m<=4)(hq:k<=q/\q<=k+m)(h3:0<=s3/\s3<=3)(h4:0<=s4/\s4<=2) :
  Calls Tryz.prog 94 #[.int .i64 k,.int .i64 m,.int .i64 q,.agg #[.int .i64 0,.int .i64 0,.int .i64 0,.int .i64 s3,.int .i64 s4]] w fun e w'=>e=.returned (.bool true)/\Below w.heap.size w w':=by
 obtain⟨W0,hW0⟩:=zx (w.alloc (.cells #[.int .i64 0,.int .i64 0,.int .i64 0,.int .i64 s3,.int .i64 s4] 52));obtain⟨g,hg⟩:=zx w.heap.size
 have hb0:Below w.heap.size w W0:=by rw[hW0];exact(zB _ _).alloc (zR _) _
 have hgk:W0.heap[g]?=some (.cells #[.int .i64 0,.int .i64 0,.int .i64 0,.int .i64 s3,.int .i64 s4] 52 (0,0)):=by rw[hW0,hg];exact zN _ _
 have c0:W0.cell? ⟨g,0,none⟩=some (.int .i64 0):=by rw[cell_of_row _ _ _ _ _ _ hgk];rfl
 have hint:IntS W0 (Bl W0.heap.size) (.slice (some ⟨g,0,none⟩) 5 5) [0,0,0,s3,s4]:=by
  refine⟨⟨_,5,rfl,zR _,by unfold maxLen;simp,fun _=>⟨g,0,rfl,(zA.1 hgk).1,fun i x hx=>?_⟩⟩,fun x hx=>?_⟩
  ·rw[Nat.zero_add,cell_of_row _ _ _ _ _ _ hgk]
   match i,hx with
   | 0,hx=>simp at hx;subst hx;rfl
   | 1,hx=>simp at hx;subst hx;rfl
   | 2,hx=>simp at hx;subst hx;rfl
   | 3,hx=>simp at hx;subst hx;rfl
   | 4,hx=>simp at hx;subst hx;rfl
   | i+5,hx=>simp at hx
  ·simp at hx;unfold I64;rcases hx with rfl | rfl | rfl <;> omega
 have HA:=zh (falli_any _ _ W0 _ hint (fun x hx=>by simp at hx;rcases hx with rfl | rfl | rfl <;> omega));have H1:=zh (fin_any k 1 6 W0);rw[decide_eq_true (show 1<=k/\k<=6 by omega)] at H1;have H2:=zh (fin_any m 0 4 W0);rw[decide_eq_true (show 0<=m/\m<=4 by omega)] at H2;have H3:=zh (fin_any q k (k+m) W0);rw[decide_eq_true (show k<=q/\q<=k+m from hq)] at H3;have HW0:=zh hW0;have HG:=zh hg;have HB0:=zh hb0
 have k1:1<=k:=by omega
 have k2:k<=2:=by omega
 have m1:0<=m:=hm.1;have m2:m<=4:=hm.2;clear hk hm hq h3 h4 hW0 hg hb0 hgk hint;go_enter Tryz.func94,Tryz.ntmps94;go_wp2_with fail;rw[<-HW0.out,<-HG.out];refine H1.out.mono ?_;rintro e w1 ⟨rfl,rfl⟩;go_wp2_with fail;refine H2.out.mono ?_;rintro e w1 ⟨rfl,rfl⟩;go_wp2_with fail;refine H3.out.mono ?_;rintro e w1 ⟨rfl,rfl⟩;go_wp2_with fail;refine HA.out.mono ?_;rintro e w1 ⟨rfl,rfl⟩;go_wp2_with fail;go_ret;exact⟨rfl,HB0.out⟩
theorem frates_any(m:Int)(vr tn td hn hd:Value)(w:World)(hm:0<=m/\m<=4)(hr:SlS 3 FrcK w (Bl w.heap.size) vr (List.replicate (max m 1).toNat ⟨false,1,2⟩))(htn:LS w (Bl w.heap.size) tn (natL 1))(htd:LS w (Bl w.heap.size) td (natL 1000))(hhn:LS w (Bl w.heap.size) hn (natL 30))(hhd:LS w (Bl w.heap.size) hd (natL 1)) :
  Calls Tryz.prog 95 #[.int .i64 m,vr,.agg #[.bool false,tn,td],.agg #[.bool false,hn,hd]] w fun e w'=>e=.returned (.bool true)/\Below w.heap.size w w':=by
 obtain⟨A1,N1,d1,rfl⟩:=htn.frm;obtain⟨A2,N2,d2,rfl⟩:=htd.frm;obtain⟨A3,N3,d3,rfl⟩:=hhn.frm;obtain⟨A4,N4,d4,rfl⟩:=hhd.frm;obtain⟨Ar,cr,hvr,-,-⟩:=hr.form;obtain⟨M,hM⟩:∃M:Nat,M=(max m 1).toNat:=⟨_,rfl⟩;rw[List.length_replicate,<-hM] at hvr;subst hvr
 have hMm:(M:Int)=max m 1:=by rw[hM];omega
 obtain⟨W0,hW0⟩:=zx ((w.alloc (.cells #[.bool false,.slice A1 N1 d1,.slice A2 N2 d2] 26)).alloc (.cells #[.bool false,.slice A3 N3 d3,.slice A4 N4 d4] 26));obtain⟨q,hq⟩:=zx w.heap.size;obtain⟨p,hp⟩:=zx (w.heap.size+1)
 have hb0:Below w.heap.size w W0:=by rw[hW0];exact((zB _ _).alloc (zR _) _).alloc (by simp) _
 have hpk:W0.heap[p]?=some (.cells #[.bool false,.slice A3 N3 d3,.slice A4 N4 d4] 26 (0,0)):=by
  rw[hW0];exact heap_alloc_at _ _ _ (by rw[hp];simp)
 have hqk:W0.heap[q]?=some (.cells #[.bool false,.slice A1 N1 d1,.slice A2 N2 d2] 26 (0,0)):=by
  rw[hW0,hq];exact(zH _ _ _ (by simp)).trans (zN w _)
 have hpl:p<W0.heap.size:=(zA.1 hpk).1;have hql:q<W0.heap.size:=(zA.1 hqk).1;have HC:=zh (fun(w':World) (hb:Below W0.heap.size W0 w')=>And.intro (cells3 ((hb.block q hql).trans hqk)) (cells3 ((hb.block p hpl).trans hpk)));have H1:=zh (fun(w':World) (hb:Below W0.heap.size W0 w')=>(htn.below hb0).below hb);have H2:=zh (fun(w':World) (hb:Below W0.heap.size W0 w')=>(htd.below hb0).below hb);have H3:=zh (fun(w':World) (hb:Below W0.heap.size W0 w')=>(hhn.below hb0).below hb);have H4:=zh (fun(w':World) (hb:Below W0.heap.size W0 w')=>(hhd.below hb0).below hb);have HR:=zh (fall_rate _ _ W0 (SlS.below frcK hr hb0) (fun W x vn vd hx hn hd=>by rw[(List.mem_replicate.1 hx).2] at hn hd ⊢;exact frate_any vn vd 1 2 W hn hd (by omega) (by omega) (by decide)));have HW0:=zh hW0;have HQ:=zh (show q=w.heap.size/\p=w.heap.size+1 from⟨hq,hp⟩);have HB0:=zh hb0
 have hmx:(if m<=1 then(1:Int) else m)=(M:Int):=by split <;> omega
 have hmx2:(if(1:Int)<m then m else 1)=(M:Int):=by split <;> omega
 have hmx3:(if m<1 then(1:Int) else m)=(M:Int):=by split <;> omega
 have hmx4:max m 1=(M:Int):=hMm.symm;obtain⟨m1,m2⟩:=hm;clear hr htn htd hhn hhd hW0 hq hp hb0 hpk hqk hpl hql hM hMm;go_enter Tryz.func95,Tryz.ntmps95;go_wp2_with fail;rw[<-HW0.out,<-HQ.out.2,<-HQ.out.1];refine HR.out.mono ?_;rintro e w1 ⟨rfl,hb1⟩;obtain⟨⟨c0,c1,c2,-⟩,-⟩:=HC.out w1 hb1;have HL1:=zh (flimits_any _ _ 1 1000 w1 (H1.out w1 hb1) (H2.out w1 hb1) (by omega) (by decide));have HB1:=zh hb1;clear hb1 hmx hmx2 hmx3 hmx4;go_wp2_with fail;refine HL1.out.mono ?_;rintro e w2 ⟨rfl,hb2⟩;have hb02:=HB1.out.trans (hb2.mono HB1.out.size);clear c0 c1 c2;obtain⟨⟨c0,c1,c2,-⟩,-⟩:=HC.out w2 hb02;have HL2:=zh (fone_any _ _ 1 1000 w2 (H1.out w2 hb02) (H2.out w2 hb02) (by omega) (by omega));have HB2:=zh hb02;clear hb2 hb02;go_wp2_with fail;refine HL2.out.mono ?_;rintro e w3 ⟨rfl,hb3⟩;have hb03:=HB2.out.trans (hb3.mono HB2.out.size);clear c0 c1 c2;obtain⟨-,⟨c0,c1,c2,-⟩⟩:=HC.out w3 hb03;have HL3:=zh (flimits_any _ _ 30 1 w3 (H3.out w3 hb03) (H4.out w3 hb03) (by omega) (by decide));have HB3:=zh hb03;clear hb3 hb03;go_wp2_with fail;refine HL3.out.mono ?_;rintro e w4 ⟨rfl,hb4⟩;have HB4:=zh (HB0.out.trans ((HB3.out.trans (hb4.mono HB3.out.size)).mono HB0.out.size));clear hb4 c0 c1 c2;go_wp2_with fail;go_ret;exact⟨rfl,HB4.out⟩
theorem mk_bool2:∀w:World,(Instr.makeSlice 158 (.int .i64 2) (.int .i64 2)).run Tryz.prog w=.ok (.slice (some ⟨w.heap.size,0,none⟩) 2 2) (w.alloc (.cells #[.bool false,.bool false] 4)):=by
 intro w;obtain⟨i0,hi0,hz0,hz1,hz2⟩:=info_parts info_bool;have h:=run_make (P:=Tryz.prog) w 158 4 i0 _ Tryz.underlying158 hi0 hz0 .i64 .i64 (2:Int) (2:Int) (by omega) (by omega) (by rw[hz2];decide) (by omega);rw[hz1] at h;simp[madeCells_one,Value.cells] at h;exact h
theorem bool2_cell{w:World}{g:Nat}{a b:Bool}(h:w.heap[g]?=some (.cells #[.bool a,.bool b] 4 (0,0))):w.cell? ⟨g,0,none⟩=some (.bool a)/\w.cell? ⟨g,1,none⟩=some (.bool b)/\w.frozen? ⟨g,0,none⟩=false/\w.frozen? ⟨g,1,none⟩=false :=
 ⟨by rw[cell_of_row _ _ _ _ _ _ h];rfl,by rw[cell_of_row _ _ _ _ _ _ h];rfl,frozen_of_row _ _ _ _ _ h,frozen_of_row _ _ _ _ _ h⟩
theorem pol_cells{w:World}{g:Nat}{n:ByteArray}{k m q s3 s4:Int}{vm vr tn td hn hd:Value}{T:TypeId}(h:w.heap[g]?=some (.cells #[.string n,.int .i64 k,.int .i64 m,.int .i64 q,.int .i64 0,.int .i64 0,.int .i64 0,.int .i64 s3,.int .i64 s4,vm,vr,.bool false,tn,td,.bool false,hn,hd] T (0,0))) :
  (w.cell? ⟨g,1,none⟩=some (.int .i64 k)/\w.cell? ⟨g,2,none⟩=some (.int .i64 m)/\w.cell? ⟨g,3,none⟩=some (.int .i64 q)/\w.cell? ⟨g,4,none⟩=some (.int .i64 0)/\w.cell? ⟨g,5,none⟩=some (.int .i64 0)/\w.cell? ⟨g,6,none⟩=some (.int .i64 0)/\w.cell? ⟨g,7,none⟩=some (.int .i64 s3)/\w.cell? ⟨g,8,none⟩=some (.int .i64 s4)) /\
  (w.cell? ⟨g,9,none⟩=some vm/\w.cell? ⟨g,10,none⟩=some vr/\w.cell? ⟨g,11,none⟩=some (.bool false)/\w.cell? ⟨g,12,none⟩=some tn/\w.cell? ⟨g,13,none⟩=some td/\w.cell? ⟨g,14,none⟩=some (.bool false)/\w.cell? ⟨g,15,none⟩=some hn/\w.cell? ⟨g,16,none⟩=some hd):=by
 refine⟨⟨?_,?_,?_,?_,?_,?_,?_,?_⟩,?_,?_,?_,?_,?_,?_,?_,?_⟩ <;> (rw[cell_of_row _ _ _ _ _ _ h];rfl)
theorem fpolicy_any(x:PolM)(vm vr tn td hn hd:Value)(w:World)(hw:PolWell x)(hm:IntS w (Bl w.heap.size) vm x.models)(hr:SlS 3 FrcK w (Bl w.heap.size) vr x.repair)(htn:LS w (Bl w.heap.size) tn (natL x.target.num))(htd:LS w (Bl w.heap.size) td (natL x.target.den))(hhn:LS w (Bl w.heap.size) hn (natL x.horizon.num))(hhd:LS w (Bl w.heap.size) hd (natL x.horizon.den)) :
  Calls Tryz.prog 45 #[.agg #[.string x.name,.int .i64 x.k,.int .i64 x.m,.int .i64 x.q,.int .i64 0,.int .i64 0,.int .i64 0,.int .i64 x.s3,.int .i64 x.s4,vm,vr,.bool x.target.neg,tn,td,.bool x.horizon.neg,hn,hd],.int .i64 2] w fun e w'=>e=.returned (.bool true)/\Below w.heap.size w w':=by
 obtain⟨wk,wm1,wm2,wq1,wq2,w31,w32,w41,w42,wmod,wrep,wtar,whor⟩:=hw;obtain⟨name,k,m,q,s3,s4,models,repair,target,horizon⟩:=x;simp only at *;subst wrep wtar whor;obtain⟨A1,N1,d1,rfl⟩:=htn.frm;obtain⟨A2,N2,d2,rfl⟩:=htd.frm;obtain⟨A3,N3,d3,rfl⟩:=hhn.frm;obtain⟨A4,N4,d4,rfl⟩:=hhd.frm;obtain⟨Ar,cr,hvr,-,-⟩:=hr.form;obtain⟨M,hM⟩:∃M:Nat,M=(List.replicate (max m 1).toNat (⟨false,1,2⟩:Frc)).length:=⟨_,rfl⟩;rw[<-hM] at hvr;subst hvr;obtain⟨Am,cm,hvm,-,-⟩:=hm.form7;obtain⟨L,hL⟩:∃L:Nat,L=models.length:=⟨_,rfl⟩;rw[<-hL] at hvm;subst hvm
 have hL12:L=1\/L=2:=by rcases wmod with h | h <;> (rw[hL,h];simp)
 have hmi:∀x∈models,0<=x/\x<=1:=by rcases wmod with h | h <;> (rw[h];intro x hx;simp at hx;omega)
 have hmd:∀i (h:i<models.length),models[i]=(i:Int):=by
  rcases wmod with h | h
  ·subst h;intro i hi;match i,hi with
   | 0,_=>rfl
   | 1,_=>rfl
  ·subst h;intro i hi;match i,hi with
   | 0,_=>rfl
 obtain⟨W0,hW0⟩:=zx (w.alloc (.cells #[.string name,.int .i64 k,.int .i64 m,.int .i64 q,.int .i64 0,.int .i64 0,.int .i64 0,.int .i64 s3,.int .i64 s4,.slice Am L cm,.slice Ar M cr,.bool false,.slice A1 N1 d1,.slice A2 N2 d2,.bool false,.slice A3 N3 d3,.slice A4 N4 d4] 55));obtain⟨p,hp⟩:=zx w.heap.size
 have hb0:Below w.heap.size w W0:=by rw[hW0];exact(zB _ _).alloc (zR _) _
 have hpk:W0.heap[p]?=some (.cells #[.string name,.int .i64 k,.int .i64 m,.int .i64 q,.int .i64 0,.int .i64 0,.int .i64 0,.int .i64 s3,.int .i64 s4,.slice Am L cm,.slice Ar M cr,.bool false,.slice A1 N1 d1,.slice A2 N2 d2,.bool false,.slice A3 N3 d3,.slice A4 N4 d4] 55 (0,0)):=by rw[hW0,hp];exact zN _ _
 have hpl:p<W0.heap.size:=(zA.1 hpk).1;have HC:=zh (fun(w':World) (hb:Below W0.heap.size W0 w')=>pol_cells ((hb.block p hpl).trans hpk));have HNU:=zh (fnumbers_any k m q s3 s4 W0 wk ⟨wm1,wm2⟩ ⟨wq1,wq2⟩ ⟨w31,w32⟩ ⟨w41,w42⟩);have HRA:=zh (fun(w':World) (hb:Below W0.heap.size W0 w')=>frates_any m _ _ _ _ _ w' ⟨wm1,wm2⟩ (SlS.below frcK (SlS.below frcK hr hb0) hb) ((htn.below hb0).below hb) ((htd.below hb0).below hb) ((hhn.below hb0).below hb) ((hhd.below hb0).below hb));have HIN:=zh (fun(w':World) (hb:Below W0.heap.size W0 w')=>((hm.keep (kept_below hb0)).mono (Bl.mono hb0.size)).keep (kept_below hb));have HMD:=zh hmd;have HLL:=zh hL;have HW0:=zh hW0;have HP:=zh hp;have HB0:=zh hb0;obtain⟨⟨c1,c2,c3,c4,c5,c6,c7,c8⟩,-⟩:=HC.out W0 (zB _ _);have hmk:=mk_bool2
 have L1:(1:Int)<=(L:Int):=by omega
 have L2:(L:Int)<=2:=by omega
 have hL0:((L:Int)==0)=false:=by simp;omega
 clear hm hr htn htd hhn hhd hW0 hp hb0 hpk hpl hM hL hL12 hmi hmd wmod wk wm1 wm2 wq1 wq2 w31 w32 w41 w42;go_enter Tryz.func45,Tryz.ntmps45;go_wp2_with fail;rw[<-HW0.out,<-HP.out];refine HNU.out.mono ?_;rintro e w1 ⟨rfl,hb1⟩;have HB1:=zh hb1;clear c1 c2 c3 c4 c5 c6 c7 c8;obtain⟨⟨-,c2,-⟩,c9,c10,c11,c12,c13,c14,c15,c16⟩:=HC.out w1 hb1;have HR1:=zh (HRA.out w1 hb1);clear hb1;go_wp2_with fail;refine HR1.out.mono ?_;rintro e w2 ⟨rfl,hb2⟩;have hb02:=HB1.out.trans (hb2.mono HB1.out.size);obtain⟨W2,hW2⟩:=zx (w2.alloc (.cells #[.bool false,.bool false] 4));obtain⟨g,hg⟩:=zx w2.heap.size
 have hb3:Below w2.heap.size w2 W2:=by rw[hW2];exact(zB _ _).alloc (zR _) _
 have hgk:W2.heap[g]?=some (.cells #[.bool false,.bool false] 4 (0,0)):=by rw[hW2,hg];exact zN _ _
 have hb03:=hb02.trans (hb3.mono hb02.size);have HG:=zh (show W0.heap.size<=g from by rw[hg];exact hb02.size);have HGK:=zh hgk;have HB3:=zh hb03;have HW2:=zh hW2;have HGE:=zh hg;clear c2 c9 c10 c11 c12 c13 c14 c15 c16 hb2 hb02 hb3 hb03 hW2 hg hgk;go_upto_region 4 with fail;rw[<-HW2.out,<-HGE.out];clear hmk;obtain⟨-,c9,-⟩:=HC.out W2 HB3.out;go_wp2_with fail;clear c9;go_loopg [41] L (fun z v41 wr=>∃j:Nat,j<=L/\z=L-j/\v41=.int .i64 (j:Int)/\Hid (Below W0.heap.size W0 wr)/\Hid (wr.heap[g]?=some (.cells #[.bool (decide (0<j)),.bool (decide (1<j))] 4 (0,0))))
 case atStart=>exact⟨0,by omega,rfl,rfl,HB3.out,HGK.out⟩
 case round =>
  obtain⟨j,hj,rfl,rfl,HB,HK⟩:=hrel;by_cases hlt:j<L
  ·obtain⟨b,off,rfl,hR,hc,-⟩:=(HIN.out wr HB.out).at7 (k:=j) (by rw[<-HLL.out];exact hlt);rw[HMD.out j (by rw[<-HLL.out];exact hlt)] at hc;have HF:=zh (fin_any (j:Int) 0 1 wr);rw[decide_eq_true (show(0:Int)<=(j:Int)/\(j:Int)<=1 by omega)] at HF;obtain⟨g0,g1,f0,f1⟩:=bool2_cell HK.out;rcases Nat.eq_zero_or_pos j with h0 | h0
   ·subst h0;have hc0:wr.cell? ⟨b,off,none⟩=some (.int .i64 0):=hc;have HF0:=zh (show Calls Tryz.prog 42 #[.int .i64 0,.int .i64 0,.int .i64 1] wr fun e w'=>e=.returned (.bool true)/\wr=w' from HF.out);clear hc HF;go_wp2_with fail;refine HF0.out.mono ?_;rintro e w4 ⟨rfl,rfl⟩;go_wp2_with fail;go_roundg (L-(0+1))
    case measure=>omega
    case rel=>exact⟨0+1,by omega,rfl,by go_num,HB.out.setCell HG.out _,heap_setCell_same wr g 0 _ _ _ HK.out⟩
   ·obtain rfl:j=1:=by omega
    have hc0:wr.cell? ⟨b,off+1,none⟩=some (.int .i64 1):=hc;have HF0:=zh (show Calls Tryz.prog 42 #[.int .i64 1,.int .i64 0,.int .i64 1] wr fun e w'=>e=.returned (.bool true)/\wr=w' from HF.out);clear hc HF;go_wp2_with fail;refine HF0.out.mono ?_;rintro e w4 ⟨rfl,rfl⟩;go_wp2_with fail;go_roundg (L-(1+1))
    case measure=>omega
    case rel=>exact⟨1+1,by omega,rfl,by go_num,HB.out.setCell HG.out _,heap_setCell_same wr g 1 _ _ _ HK.out⟩
  ·go_wp2_with fail;go_ret;exact⟨rfl,HB0.out.trans (HB.out.mono HB0.out.size)⟩
theorem cells7{W:World}{g:Nat}{a b c d e f h:Value}{t:TypeId}(k:W.heap[g]?=some (.cells #[a,b,c,d,e,f,h] t (0,0))):W.cell? ⟨g,0,none⟩=some a/\W.cell? ⟨g,1,none⟩=some b/\W.cell? ⟨g,2,none⟩=some c/\W.cell? ⟨g,3,none⟩=some d/\W.cell? ⟨g,4,none⟩=some e/\W.cell? ⟨g,5,none⟩=some f/\W.cell? ⟨g,6,none⟩=some h:=by
 refine⟨?_,?_,?_,?_,?_,?_,?_⟩ <;> (rw[cell_of_row _ _ _ _ _ _ k];rfl)
theorem seven_at{cs:List Value}{a b c d e f g:Value}{w:World}{p o:Nat}(h:∀i c,cs[i]?=some c->w.cell? ⟨p,o+i,none⟩=some c)(k:cs=[a,b,c,d,e,f,g]) :
  w.cell? ⟨p,o,none⟩=some a/\w.cell? ⟨p,o+1,none⟩=some b/\w.cell? ⟨p,o+2,none⟩=some c/\w.cell? ⟨p,o+3,none⟩=some d/\w.cell? ⟨p,o+4,none⟩=some e/\w.cell? ⟨p,o+5,none⟩=some f/\w.cell? ⟨p,o+6,none⟩=some g:=by
 subst k;exact⟨h 0 _ rfl,h 1 _ rfl,h 2 _ rfl,h 3 _ rfl,h 4 _ rfl,h 5 _ rfl,h 6 _ rfl⟩
def HeldD(W2:World)(q g b off p n c:Nat)(lev up:Int)(v5 v6:Value)(w':World):Prop :=
 w'.cell? ⟨q,3,none⟩=some (.slice (some ⟨b,off,none⟩) n c)/\w'.cell? ⟨g,1,none⟩=some (.int .i64 lev)/\w'.cell? ⟨g,2,none⟩=some (.int .i64 (p:Int))/\w'.cell? ⟨g,3,none⟩=some (.int .i64 up)/\w'.cell? ⟨g,4,none⟩=some (.bool false)/\w'.cell? ⟨g,5,none⟩=some v5/\w'.cell? ⟨g,6,none⟩=some v6/\w'.cell? ⟨b,off+p*7+1,none⟩=some (.int .i64 (lev-1))/\Below W2.heap.size W2 w'
theorem HeldD.bl{W2 wc:World}{q g b off p n c:Nat}{lev up:Int}{v5 v6:Value}(h:HeldD W2 q g b off p n c lev up v5 v6 wc):Below W2.heap.size W2 wc:=h.2.2.2.2.2.2.2.2
theorem HeldD.below{W2 wc w':World}{q g b off p n c:Nat}{lev up:Int}{v5 v6:Value}(h:HeldD W2 q g b off p n c lev up v5 v6 wc)(hb:Below wc.heap.size wc w')(hq:q<W2.heap.size)(hg:g<W2.heap.size)(hbb:b<W2.heap.size):HeldD W2 q g b off p n c lev up v5 v6 w':=by
 obtain⟨h1,h2,h3,h4,h5,h6,h7,h8,hB⟩:=h;have hs:=hB.size
 have m:∀x i,x<W2.heap.size->w'.cell? ⟨x,i,none⟩=wc.cell? ⟨x,i,none⟩:=fun x i hx=>hb.cell (p:=⟨x,i,none⟩) (zM hx hs)
 exact⟨(m _ _ hq).trans h1,(m _ _ hg).trans h2,(m _ _ hg).trans h3,(m _ _ hg).trans h4,(m _ _ hg).trans h5,(m _ _ hg).trans h6,(m _ _ hg).trans h7,(m _ _ hbb).trans h8,hB.trans (hb.mono hs)⟩
end Go.Proofs.YtgfaieppacabjaaGreat
