/- The stripes that are lost or unavailable: the reference, walked. -/
import Derived.Test.YtcfkllnpkmebpaaGreatDoorMp15
import Derived.Test.YtcfkllnpkmebpaaGreatDoorMp18
import Derived.Test.YtcfkllnpkmebpaaGreatDoorMp01
import Derived.BigQuiet
import Derived.Deep.QuietTactic
import Derived.Test.YtcfkllnpkmebpaaGreatDoorMp10
import Derived.Test.YtcfkllnpkmebpaaGreatDoorMp04
set_option maxRecDepth 100000
set_option maxHeartbeats 12800000
namespace Go.Proofs.YtcfkllnpkmebpaaGreatDoor
open Go.RowKit
set_option linter.unusedVariables false
set_option linter.unusedSimpArgs false
theorem rvalidate_any(N:Nat) (hN:N≤12) (vl vm vd vv vp vo:Value) (F:FltM) (w:World) (hf:FleetS w (Bl w.heap.size) vl vm vd vv vp vo F) (hok:FleetOk N F) :
  Calls Tryz.prog 36 #[.agg #[.int .i64 F.ext,vl,vm,vd,vv,vp,vo]] w fun e w'=>e=.returned (.int .i64 0)∧Below w.heap.size w w':=by
 obtain⟨W0,hW0⟩:=zx (w.alloc (.cells #[.int .i64 F.ext,vl,vm,vd,vv,vp,vo] 35));obtain⟨z,hz⟩:=zx w.heap.size
 have hb0:Below w.heap.size w W0:=by rw[hW0];exact(Below.refl _ _).alloc (Nat.le_refl _) _
 have hzk:W0.heap[z]?=some (.cells #[.int .i64 F.ext,vl,vm,vd,vv,vp,vo] 35 (0,0)):=by rw[hW0,hz];exact heap_alloc_new _ _
 obtain⟨c0,c1,c2,c3,c4,c5,c6⟩:=cells7 hzk;have HV:=zh (rvalidf_any N hN vl vm vd vv vp vo F W0 (hf.below hb0) hok);have HW0:=zh hW0;have HZ:=zh hz;have HB0:=zh hb0;obtain⟨EX,hEX⟩:=zx F.ext;rw[←hEX] at HV HW0 c0 ⊢;clear hf hok hW0 hz hb0 hzk hEX;go_enter Tryz.func36,Tryz.ntmps36;go_wp2_with fail;rw[←HW0.out];refine HV.out.mono ?_;rintro e w1 ⟨rfl,hb1⟩;have HB1:=zh hb1;clear c0 c1 c2 c3 c4 c5 c6 hb1;go_wp2_with fail;go_ret;exact⟨rfl,HB0.out.trans (HB1.out.mono HB0.out.size)⟩
theorem pol_field1(a0 a1 a2 a3 a4 a5 a6 a7 a8 a9 a10 a11 a12 a13 a14 a15 a16:Value) (w:World):(Instr.field 85 (.agg #[a0,a1,a2,a3,a4,a5,a6,a7,a8,a9,a10,a11,a12,a13,a14,a15,a16]) 1).run Tryz.prog w=.ok a1 w:=by kernel_rfl
def condR(lost:Bool) (a u k:Int):Bool:=if lost then decide (a<k) else !decide (a<k)&&decide (u<k)
def HeldY(W0:World) (z y:Nat) (a b c d e f g p q r:Value) (w':World):Prop :=
 w'.cell? ⟨z,0,none⟩=some a∧w'.cell? ⟨z,1,none⟩=some b∧w'.cell? ⟨z,2,none⟩=some c∧w'.cell? ⟨z,3,none⟩=some d∧w'.cell? ⟨z,4,none⟩=some e∧w'.cell? ⟨z,5,none⟩=some f∧w'.cell? ⟨z,6,none⟩=some g ∧
 w'.cell? ⟨y,0,none⟩=some p∧w'.cell? ⟨y,1,none⟩=some q∧w'.cell? ⟨y,2,none⟩=some r∧Below W0.heap.size W0 w'
theorem HeldY.bl{W0 wc:World} {z y:Nat} {a b c d e f g p q r:Value} (h:HeldY W0 z y a b c d e f g p q r wc):Below W0.heap.size W0 wc:=h.2.2.2.2.2.2.2.2.2.2
theorem HeldY.below{W0 wc w2:World} {z y:Nat} {a b c d e f g p q r:Value} (h:HeldY W0 z y a b c d e f g p q r wc) (hb:Below wc.heap.size wc w2) (h1:z<W0.heap.size) (h2:y<W0.heap.size):HeldY W0 z y a b c d e f g p q r w2:=by
 have hs:=h.bl.size;have hB:=h.bl;obtain⟨c0,c1,c2,c3,c4,c5,c6,d0,d1,d2,-⟩:=h
 have k:∀i,w2.cell? ⟨z,i,none⟩=wc.cell? ⟨z,i,none⟩:=fun i=>hb.cell (p:=⟨z,i,none⟩) (Nat.lt_of_lt_of_le h1 hs)
 have k':∀i,w2.cell? ⟨y,i,none⟩=wc.cell? ⟨y,i,none⟩:=fun i=>hb.cell (p:=⟨y,i,none⟩) (Nat.lt_of_lt_of_le h2 hs)
 exact⟨(k _).trans c0,(k _).trans c1,(k _).trans c2,(k _).trans c3,(k _).trans c4,(k _).trans c5,(k _).trans c6,(k' _).trans d0,(k' _).trans d1,(k' _).trans d2,hB.trans (hb.mono hs)⟩
theorem HeldY.start{W0 wz:World} {z y:Nat} {a b c d e f g p q r:Value} (h:HeldY W0 z y a b c d e f g p q r wz):HeldY wz z y a b c d e f g p q r wz.drew:=by
 obtain⟨c0,c1,c2,c3,c4,c5,c6,d0,d1,d2,-⟩:=h;exact⟨c0,c1,c2,c3,c4,c5,c6,d0,d1,d2,(Below.refl _ _).drew⟩
theorem stripes_any(lost:Bool) (N:Nat) (hN:N≤12) (vl vm vd vv vp vo vp0 vo0 va0:Value) (F:FltM) (r:Re) (w:World) (hf:FleetS w (Bl w.heap.size) vl vm vd vv vp vo F) (hok:FleetOk N F) (h:ReS w (Bl w.heap.size) vp0 vo0 va0 r) (hp:r.plat.length≤1000) (hl:∀l∈r.plat,l.length≤1000) :
  Calls Tryz.prog 91 #[.agg #[.int .i64 F.ext,vl,vm,vd,vv,vp,vo],.agg #[vp0,vo0,va0],.bool lost] w fun e w'=>∃u,e=.returned u∧OwnKy w' w.heap.size u (keyL F r (condR lost) F.ext.toNat F.vols.length 0)∧Below w.heap.size w w':=by
 obtain⟨pb,pof,ob,oof,cp,co,rfl,rfl,hRp,hRo,hPA⟩:=polAt hf hok;have HVA:=zh (fun(w':World) (hb:Below w.heap.size w w')=>rvalidate_any N hN vl vm vd vv _ _ F w' (hf.below hb) hok);have HPI:=zh (fun w1 h1=>pieces_any vp0 vo0 va0 r w1 h1 hp hl);have HRE:=zh (fun(w':World) (hb:Below w.heap.size w w')=>h.below hb);have HPD:=zh (pieces_drive r (by omega))
 obtain⟨EX,hEX,hEX1,hEX2⟩:∃n:Nat,F.ext=(n:Int)∧1≤n∧n≤2:=by rcases hok.ext with e | e <;> rw[e] <;> first | exact⟨1,rfl,by omega,by omega⟩ | exact⟨2,rfl,by omega,by omega⟩
 have hno:F.vols.length≤12:=by have:=hok.volN;omega
 obtain⟨KL,hKL⟩:∃f:Nat→Nat→List (Nat×Nat),f=keyL F r (condR lost) EX:=⟨_,rfl⟩;have HKS:=zh (fun v s=>(show KL v (s+1)=KL v s++(if keyP F r (condR lost) (v,s)=true then [(v,s)] else []) from by rw[hKL];exact keyL_succ F r (condR lost) EX v s));have HKN:=zh (fun v=>(show KL v EX=KL (v+1) 0 from by rw[hKL];unfold keyL;rw[keysTo_next]));have HK0:=zh (show KL 0 0=[] from by rw[hKL];rfl)
 have HLE:=zh (fun v s (hv:v<13) (hs:s<13)=>(show(KL v s).length≤100 from by
  have h1:=keyL_len F r (condR lost) EX v s;rw[hKL];have h2:v * EX≤12 * 2:=Nat.mul_le_mul (by omega) hEX2
  omega))
 rw[hEX] at HVA ⊢;rw[show((EX:Int)).toNat=EX from by omega,show keyL F r (condR lost) EX F.vols.length 0=KL F.vols.length 0 from by rw[hKL]];obtain⟨NO,hNO⟩:=zx F.vols.length;obtain⟨NP,hNP⟩:=zx F.pols.length
 have hnp:NP≤2:=by rw[hNP];exact hok.polN
 rw[←hNO] at hno HVA ⊢;rw[←hNP] at HVA ⊢;have HKQ:=zh (fun v (hv:v<NO)=>kmq_ok hok (show v<F.vols.length from by rw[←hNO];exact hv));have HPA:=zh hPA;have HNN:=zh (show NO=F.vols.length∧NP=F.pols.length∧NO≤12∧NP≤2 from⟨hNO,hNP,hno,hnp⟩);have HBB:=zh (show pb<w.heap.size∧ob<w.heap.size from⟨hRp,hRo⟩);obtain⟨W0,hW0⟩:=zx ((w.alloc (.cells #[.int .i64 (EX:Int),vl,vm,vd,vv,.slice (some ⟨pb,pof,none⟩) NP cp,.slice (some ⟨ob,oof,none⟩) NO co] 35)).alloc (.cells #[vp0,vo0,va0] 40));obtain⟨z,hz⟩:=zx w.heap.size;obtain⟨y,hy⟩:=zx (w.heap.size+1)
 have hb0:Below w.heap.size w W0:=by rw[hW0];exact((Below.refl _ _).alloc (Nat.le_refl _) _).alloc (by simp) _
 have hyk:W0.heap[y]?=some (.cells #[vp0,vo0,va0] 40 (0,0)):=by
  rw[hW0];exact heap_alloc_at _ _ _ (by rw[hy];simp)
 have hzk:W0.heap[z]?=some (.cells #[.int .i64 (EX:Int),vl,vm,vd,vv,.slice (some ⟨pb,pof,none⟩) NP cp,.slice (some ⟨ob,oof,none⟩) NO co] 35 (0,0)):=by
  rw[hW0,hz];exact(Below.heap_alloc _ _ _ (by simp)).trans (heap_alloc_new w _)
 have hyl:y<W0.heap.size:=(Array.getElem?_eq_some_iff.1 hyk).1;have hzl:z<W0.heap.size:=(Array.getElem?_eq_some_iff.1 hzk).1;have HC:=zh (fun(w':World) (hb:Below W0.heap.size W0 w')=>And.intro (cells7 ((hb.block z hzl).trans hzk)) (cells3 ((hb.block y hyl).trans hyk)));have HZL:=zh (And.intro hzl hyl);have HW0:=zh hW0;have HZ:=zh hz;have HY:=zh hy;have HB0:=zh hb0;obtain⟨⟨c0,c1,c2,c3,c4,c5,c6⟩,-⟩:=HC.out W0 (Below.refl _ _);have HEXB:=zh (And.intro hEX1 hEX2);clear hf hok h hPA hRp hRo hW0 hz hy hb0 hyk hzk hyl hzl hKL hEX hNO hNP hnp hEX1;go_enter Tryz.func91,Tryz.ntmps91;go_wp2_with fail;rw[←HW0.out,←HY.out,←HZ.out];refine(HVA.out _ HB0.out).mono ?_;rintro e w1 ⟨rfl,hb1⟩;have HB1:=zh hb1;clear c0 c1 c2 c3 c4 c5 c6 hb1;obtain⟨-,d0,d1,d2,-⟩:=HC.out w1 HB1.out;go_wp2_with fail;have hre:=HRE.out w1 (HB0.out.trans (HB1.out.mono HB0.out.size));refine(HPI.out _ hre).mono ?_;rintro e w2 ⟨vf,rfl,hof,hb2⟩;have HB2:=zh (HB1.out.trans (hb2.mono HB1.out.size));have HOF:=zh (OwnFd.slBl hof HPD.out);clear d0 d1 d2 hb2 hre hof;obtain⟨⟨c0,c1,c2,c3,c4,c5,c6⟩,-⟩:=HC.out w2 HB2.out;go_wp2_with fail;clear c0 c1 c2 c3 c4 c5 c6;go_loopg [7,9] NO (fun z v7 v9 wr=>∃v:Nat,v≤NO∧z=NO - v∧v9=.int .i64 (v:Int)∧Hid (OwnKy wr w2.heap.size v7 (KL v 0))∧Hid (Below w2.heap.size w2 wr))
 case atStart=>exact⟨0,by omega,rfl,rfl,by rw[HK0.out];exact OwnKy.nil _ _,Below.refl _ _⟩
 case round =>
  obtain⟨v,hv,rfl,rfl,HO,HBR⟩:=hrel;have h0R:=HB2.out.trans (HBR.out.mono HB2.out.size);obtain⟨⟨c0,c1,c2,c3,c4,c5,c6⟩,-⟩:=HC.out wr h0R;by_cases hlt:v<NO
  ·-- L1{
   obtain⟨hpl,nm,hvol,a0,a4,a5,a6,a7,a8,a9,a10,a11,a12,a13,a14,a15,a16,hpol,hone⟩:=HPA.out v (by rw[←HNN.out.1];exact hlt);obtain⟨kk,m1,m2,q1,q2⟩:=HKQ.out v hlt;obtain⟨KK,hK⟩:=zx (kOf F v);obtain⟨MM,hMM⟩:=zx (mOf F v);obtain⟨QQ,hQ⟩:=zx (qOf F v);obtain⟨p,hpp⟩:=zx (volP F v);rw[←hK,←hMM,←hQ] at hpol hone;rw[←hpp] at hvol hpl hpol;rw[←hK] at kk;rw[←hMM] at m1 m2;have hnp:=HNN.out.2.2.2
   have hpn:p<NP:=by rw[HNN.out.2.1];exact hpl
   have HCTV:=zh (fun(s:Nat) (on:Bool) (w':World) (hb:Below w.heap.size w w') (hb2:Below w2.heap.size w2 w')=>(rcounts_any (EX:Int) KK MM QQ vl vm vd vv vf vp0 vo0 va0 a0 a4 a5 a6 a7 a8 a9 a10 a11 a12 a13 a14 a15 a16 r (pieces r) (s:Int) on nm pb pof ob oof NP NO cp co v p w' hlt hpn (by omega) (by omega) (range_same hvol (hb.block ob HBB.out.2)) (range_same hpol (hb.block pb HBB.out.1)) hone (by omega) (by omega) (HRE.out w' hb) (SlS.below fdK HOF.out hb2)));have HPOV:=zh (fun(w':World) (hb:Below w.heap.size w w')=>(rpolicy_any (EX:Int) KK MM QQ vl vm vd vv a0 a4 a5 a6 a7 a8 a9 a10 a11 a12 a13 a14 a15 a16 nm pb pof ob oof NP NO cp co v p w' hlt hpn (by omega) (by omega) (range_same hvol (hb.block ob HBB.out.2)) (range_same hpol (hb.block pb HBB.out.1)) hone));have HKM:=zh (show KK=kOf F v∧MM=mOf F v from⟨hK,hMM⟩);have HLT:=zh hlt;clear hvol hpol hone kk q1 q2 hK hMM hQ hpp hpl m1 m2 hnp hpn;go_wp2_with fail;clear c0 c1 c2 c3 c4 c5 c6;go_loopg [7,10] EX (fun z v7 v10 wx=>∃s:Nat,s≤EX∧z=EX - s∧v10=.int .i64 (s:Int)∧Hid (OwnKy wx w2.heap.size v7 (KL v s))∧Hid (Below w2.heap.size w2 wx))
   case atStart=>exact⟨0,by omega,rfl,rfl,HO.out,HBR.out⟩
   case round =>
    clear HO HBR h0R;obtain⟨s,hs,rfl,rfl,HO,HBR⟩:=hrel;have h0x:=HB2.out.trans (HBR.out.mono HB2.out.size);obtain⟨⟨c0,c1,c2,c3,c4,c5,c6⟩,y0,y1,y2,-⟩:=HC.out wr h0x;by_cases hls:s<EX
    ·-- L2{
     have i1:I64 (v:Int):=by have:=HNN.out;unfold I64;omega
     have i2:I64 (s:Int):=by have:=HEXB.out;unfold I64;omega
     have hb0x:=HB0.out.trans (h0x.mono HB0.out.size);have HVE:=zh (version_any va0 r.acks (v:Int) (s:Int) wr _ (HRE.out wr hb0x).2.2 i1 i2);obtain⟨OB,hOB⟩:=zx ((verOf r.acks (v:Int) (s:Int)).isSome);obtain⟨VX,hVX⟩:=zx ((verOf r.acks (v:Int) (s:Int)).getD 0);rw[←hOB,←hVX] at HVE;obtain⟨NA,hNA⟩:=zx (cntI r v s false (KK+MM));obtain⟨NU,hNU⟩:=zx (cntI r v s true (KK+MM));obtain⟨GB,hGB⟩:=zx (decide (NA<KK));obtain⟨UB,hUB⟩:=zx (decide (NU<KK));have HKP:=zh (show keyP F r (condR lost) (v,s)=(OB&&condR lost NA NU KK) from by rw[hOB,hNA,hNU];unfold keyP;simp only;rw[HKM.out.1,HKM.out.2]);have HGB:=zh hGB.symm;have HUB:=zh hUB.symm;have HCT:=zh (fun(on:Bool) (w':World) (hb:Below wr.heap.size wr w')=>(HCTV.out s on w' (hb0x.trans (hb.mono hb0x.size)) (HBR.out.trans (hb.mono HBR.out.size))));have HPO:=zh (fun(w':World) (hb:Below wr.heap.size wr w')=>HPOV.out w' (hb0x.trans (hb.mono hb0x.size)))
     have hct:∀on w' (hb:Below wr.heap.size wr w'),Calls Tryz.prog 131 #[.agg #[.int .i64 (EX:Int),vl,vm,vd,vv,.slice (some ⟨pb,pof,none⟩) NP cp,.slice (some ⟨ob,oof,none⟩) NO co],.agg #[vp0,vo0,va0],vf,.int .i64 (v:Int),.int .i64 (s:Int),.bool on] w' fun e w''=>e=.returned (.int .i64 (if on then NU else NA))∧Below w'.heap.size w' w'':=fun on w' hb=>by
      have h1:=HCT.out on w' hb
      cases on with
      | true=>rw[if_pos rfl,hNU];exact h1
      | false=>rw[if_neg (by decide),hNA];exact h1
     have hctF:∀w' (hb:Below wr.heap.size wr w'),Calls Tryz.prog 131 #[.agg #[.int .i64 (EX:Int),vl,vm,vd,vv,.slice (some ⟨pb,pof,none⟩) NP cp,.slice (some ⟨ob,oof,none⟩) NO co],.agg #[vp0,vo0,va0],vf,.int .i64 (v:Int),.int .i64 (s:Int),.bool false] w' fun e w''=>e=.returned (.int .i64 NA)∧Below w'.heap.size w' w'':=fun w' hb=>hct false w' hb
     have hctT:∀w' (hb:Below wr.heap.size wr w'),Calls Tryz.prog 131 #[.agg #[.int .i64 (EX:Int),vl,vm,vd,vv,.slice (some ⟨pb,pof,none⟩) NP cp,.slice (some ⟨ob,oof,none⟩) NO co],.agg #[vp0,vo0,va0],vf,.int .i64 (v:Int),.int .i64 (s:Int),.bool true] w' fun e w''=>e=.returned (.int .i64 NU)∧Below w'.heap.size w' w'':=fun w' hb=>hct true w' hb
     clear HCT;have HCF:=zh hctF;have HCU:=zh hctT;have HLT:=zh hls;have HLV:=zh (show v<NO∧v<13∧EX≤2 from⟨by have:=HLT.out;omega,by have:=HNN.out;omega,HEXB.out.2⟩);have HZY:=zh (show z<wr.heap.size∧y<wr.heap.size from⟨Nat.lt_of_lt_of_le HZL.out.1 h0x.size,Nat.lt_of_lt_of_le HZL.out.2 h0x.size⟩);have HS12:=zh (show HeldY wr z y (.int .i64 (EX:Int)) vl vm vd vv (.slice (some ⟨pb,pof,none⟩) NP cp) (.slice (some ⟨ob,oof,none⟩) NO co) vp0 vo0 va0 wr.drew from⟨c0,c1,c2,c3,c4,c5,c6,y0,y1,y2,(Below.refl _ _).drew⟩);obtain⟨n8,hn8⟩:=zx ((KL v s).length);obtain⟨A8,c8,hv8⟩:=HO.out.form;rw[←hn8] at hv8;have HN8:=zh hn8;subst hv8;have HOW2:=zh (fun(w':World) (hb:Below wr.heap.size wr w')=>(show w'.ownsRow w2.heap.size 67 2 (.slice A8 n8 c8) n8 ((KL v s).flatMap keyC) from by (have h1:=HO.out.below hb;unfold OwnKy at h1;rw[←hn8] at h1;exact h1)));clear hOB hVX hNA hNU hGB hUB hct hctF hctT hn8 i1 i2 hb0x h0x;go_wp2_with fail;refine HVE.out.mono ?_;rintro e w3 ⟨rfl,rfl⟩;clear c0 c1 c2 c3 c4 c5 c6 y0 y1 y2
     have hfd:=fun w=>pol_field1 a0 (.int .i64 KK) (.int .i64 MM) (.int .i64 QQ) a4 a5 a6 a7 a8 a9 a10 a11 a12 a13 a14 a15 a16 w
     go_upto_region 12 with fail;refine region_tail (S:=(fun w'=>w'.cell? ⟨z,0,none⟩=some (.int .i64 (EX:Int))∧w'.cell? ⟨z,1,none⟩=some (vl)∧w'.cell? ⟨z,2,none⟩=some (vm)∧w'.cell? ⟨z,3,none⟩=some (vd)∧w'.cell? ⟨z,4,none⟩=some (vv)∧w'.cell? ⟨z,5,none⟩=some (.slice (some ⟨pb,pof,none⟩) NP cp)∧w'.cell? ⟨z,6,none⟩=some (.slice (some ⟨ob,oof,none⟩) NO co)∧w'.cell? ⟨y,0,none⟩=some vp0∧w'.cell? ⟨y,1,none⟩=some vo0∧w'.cell? ⟨y,2,none⟩=some va0∧Below wr.heap.size wr w')) [] (by kernel_rfl) HS12.out (fun hHeld=>?_);refine tk 0 40 ?_;refine tk 1 41 ?_;refine tk 2 42 ?_;refine tk 3 43 ?_;refine tk 4 44 ?_;refine tk 6 46 ?_;refine tk 7 47 ?_;refine readyT (rs:=[5]) (by kernel_rfl) (by simp) ?_;refine AllReadyT.cons rfl (fun K hK=>?_) ?_
     ·go_simp;(go_at_call 131;refine(HCF.out _ (HeldY.bl (by assumption))).mono ?_;rintro e w5 ⟨rfl,hb5⟩);go_wp2_with fail;refine hK.out _ _ ?_ (fun hHeld=>?_)
      ·(first|assumption|exact HeldY.below (by assumption) hb5 HZY.out.1 HZY.out.2|exact HeldY.below (by assumption) hb6 HZY.out.1 HZY.out.2)
      clear hK K;(try simp only[Act.put,z1,z2,z3]);refine readyT (rs:=[8]) (by kernel_rfl) (by simp) ?_;refine AllReadyT.cons rfl (fun K hK=>?_) ?_
      ·go_simp;(go_at_call 132;refine(HPO.out _ (HeldY.bl (by assumption))).mono ?_;rintro e w6 ⟨rfl,hb6⟩);go_wp2_with fail;refine hK.out _ _ ?_ (fun hHeld=>?_)
       ·(first|assumption|exact HeldY.below (by assumption) hb5 HZY.out.1 HZY.out.2|exact HeldY.below (by assumption) hb6 HZY.out.1 HZY.out.2)
       clear hK K;(try simp only[Act.put,z1,z2,z3]);refine tk 9 49 ?_;refine tk 10 50 ?_;refine tk 11 13 ?_;refine doneT (by kernel_rfl) ?_ _;have HBZ:=zh (HeldY.bl hHeld);obtain⟨wz,hwz⟩:=zx (w6:World);rw[←hwz] at HBZ hHeld ⊢;rw[HGB.out];clear hwz hb5 hb6
       cases OB with
       | false =>
        go_upto_region 13 with fail
        go_quiet (fail)
        have HBE:=zh (HBZ.out.trans ((Below.drewN' (Below.refl wz.heap.size wz) nq).mono HBZ.out.size))
        have HKV:keyP F r (condR lost) (v,s)=false:=by rw[HKP.out];rfl
        go_wp2_with fail;go_roundg (EX - (s+1))
        case measure=>have:=HLT.out;omega
        case rel=>exact⟨s+1,by have:=HLT.out;omega,rfl,by go_num,by rw[HKS.out,HKV,if_neg (by decide),List.append_nil];exact HO.out.below HBE.out,HBR.out.trans (HBE.out.mono HBR.out.size)⟩
       | true =>
        cases lost with
        | true =>
         cases GB with
         | true =>
          go_upto_region 13 with fail
          go_quiet (fail)
          have HBE:=zh (HBZ.out.trans ((Below.drewN' (Below.refl wz.heap.size wz) nq).mono HBZ.out.size))
          have HKV:keyP F r (condR true) (v,s)=true:=by rw[HKP.out];unfold condR;rw[HGB.out];rfl
          go_wp2_with (at_builtin;refine app_ky v s (.tmp 79) (.tmp 83) rfl rfl w2.heap.size (.slice A8 n8 c8) n8 (KL v s) HN8.out.symm (by rfl) (HOW2.out _ HBE.out) (by rfl) (by have:=HLE.out v s HLV.out.2.1 (by have:=HLT.out;have:=HLV.out;omega);have:=HN8.out;omega) (Nat.le_trans HBR.out.size HBE.out.size) ?_;intro v9 w9 hown9 hg9 hat9;have HO9:=zh hown9;have HG9:=zh hg9;clear hown9 hg9 hat9);go_roundg (EX - (s+1))
          case measure=>have:=HLT.out;omega
          case rel=>exact⟨s+1,by have:=HLT.out;omega,rfl,by go_num,by rw[HKS.out,HKV,if_pos rfl];exact HO9.out,(HBR.out.trans (HBE.out.mono HBR.out.size)).grown HG9.out (Nat.le_trans HBR.out.size HBE.out.size) (fun b e=>(HO.out.lt b e).1)⟩
         | false =>
          go_upto_region 13 with fail
          go_quiet (fail)
          have HBE:=zh (HBZ.out.trans ((Below.drewN' (Below.refl wz.heap.size wz) nq).mono HBZ.out.size))
          have HKV:keyP F r (condR true) (v,s)=false:=by rw[HKP.out];unfold condR;rw[HGB.out];rfl
          go_wp2_with fail;go_roundg (EX - (s+1))
          case measure=>have:=HLT.out;omega
          case rel=>exact⟨s+1,by have:=HLT.out;omega,rfl,by go_num,by rw[HKS.out,HKV,if_neg (by decide),List.append_nil];exact HO.out.below HBE.out,HBR.out.trans (HBE.out.mono HBR.out.size)⟩
        | false =>
         cases GB with
         | true =>
          go_upto_region 13 with fail
          go_quiet (fail)
          have HBE:=zh (HBZ.out.trans ((Below.drewN' (Below.refl wz.heap.size wz) nq).mono HBZ.out.size))
          have HKV:keyP F r (condR false) (v,s)=false:=by rw[HKP.out];unfold condR;rw[HGB.out];rfl
          go_wp2_with fail;go_roundg (EX - (s+1))
          case measure=>have:=HLT.out;omega
          case rel=>exact⟨s+1,by have:=HLT.out;omega,rfl,by go_num,by rw[HKS.out,HKV,if_neg (by decide),List.append_nil];exact HO.out.below HBE.out,HBR.out.trans (HBE.out.mono HBR.out.size)⟩
         | false =>
          go_upto_region 13 with fail;have HSZ:=zh (show HeldY wz z y (.int .i64 (EX:Int)) vl vm vd vv (.slice (some ⟨pb,pof,none⟩) NP cp) (.slice (some ⟨ob,oof,none⟩) NO co) vp0 vo0 va0 wz.drew from HeldY.start (W0:=wr) hHeld);have HZZ:=zh (show z<wz.heap.size∧y<wz.heap.size from⟨Nat.lt_of_lt_of_le HZY.out.1 HBZ.out.size,Nat.lt_of_lt_of_le HZY.out.2 HBZ.out.size⟩);clear hHeld;refine region_tail (S:=(fun w'=>w'.cell? ⟨z,0,none⟩=some (.int .i64 (EX:Int))∧w'.cell? ⟨z,1,none⟩=some (vl)∧w'.cell? ⟨z,2,none⟩=some (vm)∧w'.cell? ⟨z,3,none⟩=some (vd)∧w'.cell? ⟨z,4,none⟩=some (vv)∧w'.cell? ⟨z,5,none⟩=some (.slice (some ⟨pb,pof,none⟩) NP cp)∧w'.cell? ⟨z,6,none⟩=some (.slice (some ⟨ob,oof,none⟩) NO co)∧w'.cell? ⟨y,0,none⟩=some vp0∧w'.cell? ⟨y,1,none⟩=some vo0∧w'.cell? ⟨y,2,none⟩=some va0∧Below wz.heap.size wz w')) [] (by kernel_rfl) HSZ.out (fun hHeld=>?_);refine tk 0 51 ?_;refine tk 1 52 ?_;refine tk 2 53 ?_;refine tk 3 54 ?_;refine takeT (i:=4) (d:=55) (v:=undef) rfl rfl (by kernel_rfl) (by kernel_rfl) (by kernel_rfl) (by kernel_rfl) (fun _ _ _ h=>h) (Or.inr ⟨by kernel_rfl,rfl⟩) (by assumption) ?_;(try simp only[Act.put,z1,z2,z3]);refine tk 5 56 ?_;refine tk 6 57 ?_;refine tk 7 58 ?_;refine tk 8 59 ?_;refine tk 9 60 ?_;refine tk 10 61 ?_;refine tk 11 62 ?_;refine tk 12 63 ?_;refine tk 13 64 ?_;refine tk 14 65 ?_;refine tk 15 66 ?_;refine tk 16 67 ?_;refine tk 17 68 ?_;refine tk 18 69 ?_;refine tk 20 71 ?_;refine tk 21 72 ?_;refine readyT (rs:=[19]) (by kernel_rfl) (by simp) ?_;refine AllReadyT.cons rfl (fun K hK=>?_) ?_
          ·go_simp;(go_at_call 131;refine(HCU.out _ (HBZ.out.trans ((HeldY.bl (by assumption)).mono HBZ.out.size))).mono ?_;rintro e w7 ⟨rfl,hb7⟩);go_wp2_with fail;refine hK.out _ _ ?_ (fun hHeld=>?_)
           ·(first|assumption|exact HeldY.below (by assumption) hb7 HZZ.out.1 HZZ.out.2|exact HeldY.below (by assumption) hb8 HZZ.out.1 HZZ.out.2)
           clear hK K;(try simp only[Act.put,z1,z2,z3]);refine readyT (rs:=[22]) (by kernel_rfl) (by simp) ?_;refine AllReadyT.cons rfl (fun K hK=>?_) ?_
           ·go_simp;(go_at_call 132;refine(HPO.out _ (HBZ.out.trans ((HeldY.bl (by assumption)).mono HBZ.out.size))).mono ?_;rintro e w8 ⟨rfl,hb8⟩);go_wp2_with fail;refine hK.out _ _ ?_ (fun hHeld=>?_)
            ·(first|assumption|exact HeldY.below (by assumption) hb7 HZZ.out.1 HZZ.out.2|exact HeldY.below (by assumption) hb8 HZZ.out.1 HZZ.out.2)
            clear hK K;(try simp only[Act.put,z1,z2,z3]);refine tk 23 74 ?_;refine tk 24 75 ?_;refine tk 25 76 ?_;refine tk 26 77 ?_;refine tk 27 78 ?_;refine doneT (by kernel_rfl) ?_ _;have HBE:=zh (HBZ.out.trans ((HeldY.bl hHeld).mono HBZ.out.size));clear hHeld hb7 hb8;rw[HUB.out]
            cases UB with
            | true =>
             have HKV:keyP F r (condR false) (v,s)=true:=by rw[HKP.out];unfold condR;rw[HGB.out,HUB.out];rfl
             go_wp2_with (at_builtin;refine app_ky v s (.tmp 79) (.tmp 83) rfl rfl w2.heap.size (.slice A8 n8 c8) n8 (KL v s) HN8.out.symm (by rfl) (HOW2.out _ HBE.out) (by rfl) (by have:=HLE.out v s HLV.out.2.1 (by have:=HLT.out;have:=HLV.out;omega);have:=HN8.out;omega) (Nat.le_trans HBR.out.size HBE.out.size) ?_;intro v9 w9 hown9 hg9 hat9;have HO9:=zh hown9;have HG9:=zh hg9;clear hown9 hg9 hat9);go_roundg (EX - (s+1))
             case measure=>have:=HLT.out;omega
             case rel=>exact⟨s+1,by have:=HLT.out;omega,rfl,by go_num,by rw[HKS.out,HKV,if_pos rfl];exact HO9.out,(HBR.out.trans (HBE.out.mono HBR.out.size)).grown HG9.out (Nat.le_trans HBR.out.size HBE.out.size) (fun b e=>(HO.out.lt b e).1)⟩
            | false =>
             have HKV:keyP F r (condR false) (v,s)=false:=by rw[HKP.out];unfold condR;rw[HGB.out,HUB.out];rfl
             go_wp2_with fail;go_roundg (EX - (s+1))
             case measure=>have:=HLT.out;omega
             case rel=>exact⟨s+1,by have:=HLT.out;omega,rfl,by go_num,by rw[HKS.out,HKV,if_neg (by decide),List.append_nil];exact HO.out.below HBE.out,HBR.out.trans (HBE.out.mono HBR.out.size)⟩
           exact AllReadyT.nil
          exact AllReadyT.nil
      exact AllReadyT.nil
     exact AllReadyT.nil
    ·-- R2{
     obtain rfl:EX=s:=by omega
     go_wp2_with fail;go_roundg (NO - (v+1))
     case measure=>have:=HLT.out;omega
     case rel=>exact⟨v+1,by have:=HLT.out;omega,rfl,by go_num,by rw[←HKN.out];exact HO.out,HBR.out⟩
  ·-- R1{
   obtain rfl:NO=v:=by omega
   go_wp2_with fail;go_ret;exact⟨_,rfl,HO.out.base (Nat.le_trans HB0.out.size HB2.out.size),HB0.out.trans (h0R.mono HB0.out.size)⟩
theorem fvalidate_empty(w:World):Calls Tryz.prog 48 #[.agg #[.int .i64 0,.slice none 0 0,.slice none 0 0,.slice none 0 0,.slice none 0 0,.slice none 0 0,.slice none 0 0]] w fun e w'=>e=.returned (.int .i64 1)∧Below w.heap.size w w':=by
 have HI:=zh (fun w=>fin_any 0 1 4 w);rw[decide_eq_false (show ¬((1:Int)≤0∧(0:Int)≤4) by omega)] at HI;go_enter Tryz.func48,Tryz.ntmps48;go_wp2_with fail;refine(HI.out _).mono ?_;rintro e w1 ⟨rfl,rfl⟩;go_wp2_with fail;go_ret;exact⟨rfl,(Below.refl _ _).alloc (Nat.le_refl _) _⟩
theorem rlost_any(N:Nat) (hN:N≤12) (vl vm vd vv vp vo vp0 vo0 va0:Value) (F:FltM) (r:Re) (w:World) (hf:FleetS w (Bl w.heap.size) vl vm vd vv vp vo F) (hok:FleetOk N F) (h:ReS w (Bl w.heap.size) vp0 vo0 va0 r) (hp:r.plat.length≤1000) (hl:∀l∈r.plat,l.length≤1000) :
  Calls Tryz.prog 37 #[.agg #[.int .i64 F.ext,vl,vm,vd,vv,vp,vo],.agg #[vp0,vo0,va0]] w fun e w'=>∃u,e=.returned u∧OwnKy w' w.heap.size u (keyL F r (condR true) F.ext.toNat F.vols.length 0)∧Below w.heap.size w w':=by
 obtain⟨W0,hW0⟩:=zx ((w.alloc (.cells #[.int .i64 F.ext,vl,vm,vd,vv,vp,vo] 35)).alloc (.cells #[vp0,vo0,va0] 40));obtain⟨z,hz⟩:=zx w.heap.size;obtain⟨y,hy⟩:=zx (w.heap.size+1)
 have hb0:Below w.heap.size w W0:=by rw[hW0];exact((Below.refl _ _).alloc (Nat.le_refl _) _).alloc (by simp) _
 have hyk:W0.heap[y]?=some (.cells #[vp0,vo0,va0] 40 (0,0)):=by
  rw[hW0];exact heap_alloc_at _ _ _ (by rw[hy];simp)
 have hzk:W0.heap[z]?=some (.cells #[.int .i64 F.ext,vl,vm,vd,vv,vp,vo] 35 (0,0)):=by
  rw[hW0,hz];exact(Below.heap_alloc _ _ _ (by simp)).trans (heap_alloc_new w _)
 obtain⟨c0,c1,c2,c3,c4,c5,c6⟩:=cells7 hzk;obtain⟨d0,d1,d2,-⟩:=cells3 hyk;have HV:=zh (stripes_any true N hN vl vm vd vv vp vo vp0 vo0 va0 F r W0 (hf.below hb0) hok (h.below hb0) hp hl);have HW0:=zh hW0;have HZ:=zh hz;have HY:=zh hy;have HB0:=zh hb0;obtain⟨EX,hEX⟩:=zx F.ext;obtain⟨KL,hKL⟩:=zx (keyL F r (condR true) F.ext.toNat F.vols.length 0);rw[←hKL] at HV ⊢;rw[←hEX] at HV HW0 c0 ⊢;clear hf hok h hp hl hW0 hz hy hb0 hzk hyk hEX hKL;go_enter Tryz.func37,Tryz.ntmps37;go_upto_region 1 with fail;rw[←HW0.out,←HY.out,←HZ.out];go_wp2_with fail;refine HV.out.mono ?_;rintro e w1 ⟨u,rfl,ho,hb1⟩;have HB1:=zh hb1;have HO:=zh ho;clear c0 c1 c2 c3 c4 c5 c6 d0 d1 d2 hb1 ho;go_wp2_with fail;go_ret;exact⟨_,rfl,HO.out.base HB0.out.size,HB0.out.trans (HB1.out.mono HB0.out.size)⟩
theorem runav_any(N:Nat) (hN:N≤12) (vl vm vd vv vp vo vp0 vo0 va0:Value) (F:FltM) (r:Re) (w:World) (hf:FleetS w (Bl w.heap.size) vl vm vd vv vp vo F) (hok:FleetOk N F) (h:ReS w (Bl w.heap.size) vp0 vo0 va0 r) (hp:r.plat.length≤1000) (hl:∀l∈r.plat,l.length≤1000) :
  Calls Tryz.prog 38 #[.agg #[.int .i64 F.ext,vl,vm,vd,vv,vp,vo],.agg #[vp0,vo0,va0]] w fun e w'=>∃u,e=.returned u∧OwnKy w' w.heap.size u (keyL F r (condR false) F.ext.toNat F.vols.length 0)∧Below w.heap.size w w':=by
 obtain⟨W0,hW0⟩:=zx ((w.alloc (.cells #[.int .i64 F.ext,vl,vm,vd,vv,vp,vo] 35)).alloc (.cells #[vp0,vo0,va0] 40));obtain⟨z,hz⟩:=zx w.heap.size;obtain⟨y,hy⟩:=zx (w.heap.size+1)
 have hb0:Below w.heap.size w W0:=by rw[hW0];exact((Below.refl _ _).alloc (Nat.le_refl _) _).alloc (by simp) _
 have hyk:W0.heap[y]?=some (.cells #[vp0,vo0,va0] 40 (0,0)):=by
  rw[hW0];exact heap_alloc_at _ _ _ (by rw[hy];simp)
 have hzk:W0.heap[z]?=some (.cells #[.int .i64 F.ext,vl,vm,vd,vv,vp,vo] 35 (0,0)):=by
  rw[hW0,hz];exact(Below.heap_alloc _ _ _ (by simp)).trans (heap_alloc_new w _)
 obtain⟨c0,c1,c2,c3,c4,c5,c6⟩:=cells7 hzk;obtain⟨d0,d1,d2,-⟩:=cells3 hyk;have HV:=zh (stripes_any false N hN vl vm vd vv vp vo vp0 vo0 va0 F r W0 (hf.below hb0) hok (h.below hb0) hp hl);have HW0:=zh hW0;have HZ:=zh hz;have HY:=zh hy;have HB0:=zh hb0;obtain⟨EX,hEX⟩:=zx F.ext;obtain⟨KL,hKL⟩:=zx (keyL F r (condR false) F.ext.toNat F.vols.length 0);rw[←hKL] at HV ⊢;rw[←hEX] at HV HW0 c0 ⊢;clear hf hok h hp hl hW0 hz hy hb0 hzk hyk hEX hKL;go_enter Tryz.func38,Tryz.ntmps38;go_upto_region 1 with fail;rw[←HW0.out,←HY.out,←HZ.out];go_wp2_with fail;refine HV.out.mono ?_;rintro e w1 ⟨u,rfl,ho,hb1⟩;have HB1:=zh hb1;have HO:=zh ho;clear c0 c1 c2 c3 c4 c5 c6 d0 d1 d2 hb1 ho;go_wp2_with fail;go_ret;exact⟨_,rfl,HO.out.base HB0.out.size,HB0.out.trans (HB1.out.mono HB0.out.size)⟩
def hdlB(lost:Bool) (nm:ByteArray) (s need:Nat):ByteArray :=
 ((((if lost then(⟨#[108,111,115,116,32]⟩:ByteArray) else⟨#[97,119,97,121,32]⟩)++nm)++(⟨#[32]⟩:ByteArray)++(⟨(Lib.decDigits s).toArray⟩:ByteArray))++(⟨#[32,110,101,101,100,115,32]⟩:ByteArray))++(⟨(Lib.decDigits need).toArray⟩:ByteArray)
theorem dec_all:((List.range 100).all fun s=>decide ((Lib.decDigits s).length≤2))=true:=by decide +kernel
theorem dec_short(s:Nat) (h:s<100):(⟨(Lib.decDigits s).toArray⟩:ByteArray).size≤2:=by
 have:=List.all_eq_true.1 dec_all s (by simpa using h);rw[decide_eq_true_eq] at this;show(Lib.decDigits s).toArray.size≤2
 simpa using this
theorem head_any(lost:Bool) (ext:Int) (vl vm vd vv vp vc:Value) (ob oof NO co v s need:Nat) (nm:ByteArray) (w:World) (hv:v<NO) (hno:NO≤1000) (hs:s<100) (hn:need<100) (hnm:nm.size≤1000) (hc:w.cell? ⟨ob,oof+v * 2,none⟩=some (.string nm)) :
  Calls Tryz.prog 43 #[.agg #[.int .i64 ext,vl,vm,vd,vv,vp,.slice (some ⟨ob,oof,none⟩) NO co],.agg #[.int .i64 (v:Int),.int .i64 (s:Int),.bool lost,.int .i64 (need:Int),vc]] w fun e w'=>e=.returned (.string (hdlB lost nm s need))∧Below w.heap.size w w':=by
 have hob:ob<w.heap.size:=World.block_lt_of_cell? w _ hc;have HI1:=zh (fun w=>itoa_any s hs w);have HI2:=zh (fun w=>itoa_any need hn w);obtain⟨D1,hD1⟩:∃b:ByteArray,b=⟨(Lib.decDigits s).toArray⟩:=⟨_,rfl⟩;obtain⟨D2,hD2⟩:∃b:ByteArray,b=⟨(Lib.decDigits need).toArray⟩:=⟨_,rfl⟩
 have l1:D1.size≤2:=by rw[hD1];exact dec_short s hs
 have l2:D2.size≤2:=by rw[hD2];exact dec_short need hn
 have f1:¬9223372036854775807<5+nm.size:=by omega
 have f2:¬9223372036854775807<5+nm.size+1:=by omega
 have f3:¬9223372036854775807<5+nm.size+1+D1.size:=by omega
 have f4:¬9223372036854775807<5+nm.size+1+D1.size+7:=by omega
 have f5:¬9223372036854775807<5+nm.size+1+D1.size+7+D2.size:=by omega
 unfold hdlB;rw[←hD1] at HI1 ⊢;rw[←hD2] at HI2 ⊢;obtain⟨W0,hW0⟩:=zx ((w.alloc (.cells #[.int .i64 ext,vl,vm,vd,vv,vp,.slice (some ⟨ob,oof,none⟩) NO co] 35)).alloc (.cells #[.int .i64 (v:Int),.int .i64 (s:Int),.bool lost,.int .i64 (need:Int),vc] 27));obtain⟨z,hz⟩:=zx w.heap.size;obtain⟨y,hy⟩:=zx (w.heap.size+1)
 have hb0:Below w.heap.size w W0:=by rw[hW0];exact((Below.refl _ _).alloc (Nat.le_refl _) _).alloc (by simp) _
 have hyk:W0.heap[y]?=some (.cells #[.int .i64 (v:Int),.int .i64 (s:Int),.bool lost,.int .i64 (need:Int),vc] 27 (0,0)):=by
  rw[hW0];exact heap_alloc_at _ _ _ (by rw[hy];simp)
 have hzk:W0.heap[z]?=some (.cells #[.int .i64 ext,vl,vm,vd,vv,vp,.slice (some ⟨ob,oof,none⟩) NO co] 35 (0,0)):=by
  rw[hW0,hz];exact(Below.heap_alloc _ _ _ (by simp)).trans (heap_alloc_new w _)
 have x0:W0.cell? ⟨y,0,none⟩=some (.int .i64 (v:Int)):=by rw[cell_of_row _ _ _ _ _ _ hyk];rfl
 have x1:W0.cell? ⟨y,1,none⟩=some (.int .i64 (s:Int)):=by rw[cell_of_row _ _ _ _ _ _ hyk];rfl
 have x2:W0.cell? ⟨y,2,none⟩=some (.bool lost):=by rw[cell_of_row _ _ _ _ _ _ hyk];rfl
 have x3:W0.cell? ⟨y,3,none⟩=some (.int .i64 (need:Int)):=by rw[cell_of_row _ _ _ _ _ _ hyk];rfl
 have z6:W0.cell? ⟨z,6,none⟩=some (.slice (some ⟨ob,oof,none⟩) NO co):=by rw[cell_of_row _ _ _ _ _ _ hzk];rfl
 have n0:W0.cell? ⟨ob,oof+v * 2,none⟩=some (.string nm):=(hb0.cell (p:=⟨ob,oof+v * 2,none⟩) hob).trans hc;have HS:=zh (show W0.drew.cell? ⟨z,6,none⟩=some (.slice (some ⟨ob,oof,none⟩) NO co)∧W0.drew.cell? ⟨y,0,none⟩=some (.int .i64 (v:Int))∧W0.drew.cell? ⟨ob,oof+v * 2,none⟩=some (.string nm)∧W0.drew.cell? ⟨y,1,none⟩=some (.int .i64 (s:Int))∧W0.drew.cell? ⟨y,3,none⟩=some (.int .i64 (need:Int)) from⟨z6,x0,n0,x1,x3⟩);have HW0:=zh hW0;have HZ:=zh hz;have HY:=zh hy;have HB0:=zh hb0
 have i1:(v:Int)<(NO:Int):=by omega
 clear hob hc x0 x1 x3 z6 n0 hD1 hD2 hW0 hz hy hb0 hyk hzk;go_enter Tryz.func43,Tryz.ntmps43;go_upto_region 2 with fail;rw[←HW0.out,←HY.out,←HZ.out]
 cases lost with
 | false =>
  go_upto_region 4 with fail;refine region_tail (S:=(fun w'=>w'.cell? ⟨z,6,none⟩=some (.slice (some ⟨ob,oof,none⟩) NO co)∧w'.cell? ⟨y,0,none⟩=some (.int .i64 (v:Int))∧w'.cell? ⟨ob,oof+v * 2,none⟩=some (.string nm)∧w'.cell? ⟨y,1,none⟩=some (.int .i64 (s:Int))∧w'.cell? ⟨y,3,none⟩=some (.int .i64 (need:Int)))) [] (by kernel_rfl) HS.out (fun hHeld=>?_);refine tk 0 8 ?_;refine tk 1 9 ?_;refine tk 2 10 ?_;refine tk 3 11 ?_;refine tk 4 12 ?_;refine tk 5 13 ?_;refine tk 6 14 ?_;refine tk 7 15 ?_;refine tk 8 16 ?_;refine tk 9 17 ?_;refine tk 10 18 ?_;refine tk 11 19 ?_;refine tk 15 23 ?_;refine tk 16 24 ?_;refine readyT (rs:=[12]) (by kernel_rfl) (by simp) ?_;refine AllReadyT.cons rfl (fun K hK=>?_) ?_
  ·go_simp;refine(HI1.out _).mono ?_;rintro e w' ⟨rfl,rfl⟩;refine hK.out _ _ ?_ (fun hHeld=>?_)
   ·assumption
   clear hK K;(try simp only[Act.put,z1,z2,z3]);refine tk 13 21 ?_;refine tk 14 22 ?_;refine readyT (rs:=[17]) (by kernel_rfl) (by simp) ?_;refine AllReadyT.cons rfl (fun K hK=>?_) ?_
   ·go_simp;refine(HI2.out _).mono ?_;rintro e w' ⟨rfl,rfl⟩;refine hK.out _ _ ?_ (fun hHeld=>?_)
    ·assumption
    clear hK K;(try simp only[Act.put,z1,z2,z3]);refine tk 18 26 ?_;refine tk 19 4 ?_;refine doneT (by kernel_rfl) ?_ _;go_wp2_with fail;go_ret;exact⟨rfl,HB0.out.drew⟩
   exact AllReadyT.nil
  exact AllReadyT.nil
 | true =>
  go_upto_region 4 with fail;refine region_tail (S:=(fun w'=>w'.cell? ⟨z,6,none⟩=some (.slice (some ⟨ob,oof,none⟩) NO co)∧w'.cell? ⟨y,0,none⟩=some (.int .i64 (v:Int))∧w'.cell? ⟨ob,oof+v * 2,none⟩=some (.string nm)∧w'.cell? ⟨y,1,none⟩=some (.int .i64 (s:Int))∧w'.cell? ⟨y,3,none⟩=some (.int .i64 (need:Int)))) [] (by kernel_rfl) HS.out (fun hHeld=>?_);refine tk 0 8 ?_;refine tk 1 9 ?_;refine tk 2 10 ?_;refine tk 3 11 ?_;refine tk 4 12 ?_;refine tk 5 13 ?_;refine tk 6 14 ?_;refine tk 7 15 ?_;refine tk 8 16 ?_;refine tk 9 17 ?_;refine tk 10 18 ?_;refine tk 11 19 ?_;refine tk 15 23 ?_;refine tk 16 24 ?_;refine readyT (rs:=[12]) (by kernel_rfl) (by simp) ?_;refine AllReadyT.cons rfl (fun K hK=>?_) ?_
  ·go_simp;refine(HI1.out _).mono ?_;rintro e w' ⟨rfl,rfl⟩;refine hK.out _ _ ?_ (fun hHeld=>?_)
   ·assumption
   clear hK K;(try simp only[Act.put,z1,z2,z3]);refine tk 13 21 ?_;refine tk 14 22 ?_;refine readyT (rs:=[17]) (by kernel_rfl) (by simp) ?_;refine AllReadyT.cons rfl (fun K hK=>?_) ?_
   ·go_simp;refine(HI2.out _).mono ?_;rintro e w' ⟨rfl,rfl⟩;refine hK.out _ _ ?_ (fun hHeld=>?_)
    ·assumption
    clear hK K;(try simp only[Act.put,z1,z2,z3]);refine tk 18 26 ?_;refine tk 19 4 ?_;refine doneT (by kernel_rfl) ?_ _;go_wp2_with fail;go_ret;exact⟨rfl,HB0.out.drew⟩
   exact AllReadyT.nil
  exact AllReadyT.nil
def nmOf(F:FltM) (v:Nat):ByteArray:=match F.vols[v]? with | some x=>x.name | none=>⟨#[]⟩
theorem vol_name{N:Nat} {F:FltM} {w:World} {R:Nat→Prop} {vl vm vd vv vp:Value} {ob oof co:Nat} (hf:FleetS w R vl vm vd vv vp (.slice (some ⟨ob,oof,none⟩) F.vols.length co) F) (hok:FleetOk N F) {v:Nat} (hv:v<F.vols.length) :
  w.cell? ⟨ob,oof+v * 2,none⟩=some (.string (nmOf F v))∧(nmOf F v).size=3:=by
 have e:nmOf F v=F.vols[v].name:=by unfold nmOf;rw[List.getElem?_eq_getElem hv]
 obtain⟨b,off,cs,e2,-,-,hc,hcs⟩:=hf.2.2.2.2.2.at_ (k:=v) hv;injection e2 with e2;injection e2 with e3 e4;subst e3 e4;unfold VolK at hcs;subst hcs;have h0:=hc 0 _ rfl;rw[e];refine⟨h0,?_⟩;obtain⟨-,h1,-⟩:=hok.vols v F.vols[v] (List.getElem?_eq_getElem hv);rw[h1];rfl
theorem parseHead_no(N:Nat) (hN:N≤12) (vl vm vd vv vp vo:Value) (F:FltM) (EX:Nat) (t:ByteArray) (w:World) (hf:FleetS w (Bl w.heap.size) vl vm vd vv vp vo F) (hok:FleetOk N F) (hEX:F.ext=(EX:Int))
  (hno:∀v s K:Nat,v<F.vols.length→s<EX→kOf F v=(K:Int)→∀b,hdlB b (nmOf F v) s K≠t) :
  Calls Tryz.prog 57 #[.agg #[.int .i64 F.ext,vl,vm,vd,vv,vp,vo],.string t] w fun e w'=>e=.returned (.tuple #[.agg #[.int .i64 0,.int .i64 0,.bool false,.int .i64 0,.slice none 0 0],.bool false])∧Below w.heap.size w w':=by
 obtain⟨pb,pof,ob,oof,cp,co,rfl,rfl,hRp,hRo,hPA⟩:=polAt hf hok
 have hex:EX≤2:=by have:=hok.ext;omega
 have hno2:=hok.volN;have hnp:=hok.polN
 have hfa:∀a,a<F.vols.length→∃(p0 K:Nat),p0<F.pols.length∧kOf F a=(K:Int)∧K≤2∧∀w',Below w.heap.size w w'→w'.cell? ⟨ob,oof+a * 2,none⟩=some (.string (nmOf F a))∧w'.cell? ⟨ob,oof+a * 2+1,none⟩=some (.int .i64 (p0:Int))∧w'.cell? ⟨pb,pof+p0 * 17+1,none⟩=some (.int .i64 (K:Int)):=fun a ha=>by
  obtain⟨hp1,nm,hv1,a0,a4,a5,a6,a7,a8,a9,a10,a11,a12,a13,a14,a15,a16,hpol,-⟩:=hPA a ha;obtain⟨kk,-,-,-,-⟩:=kmq_ok hok ha;obtain⟨K,hK⟩:∃K:Nat,kOf F a=(K:Int):=⟨(kOf F a).toNat,by omega⟩;refine⟨volP F a,K,hp1,hK,by omega,fun w' hb=>⟨?_,?_,?_⟩⟩
  ·exact(hb.cell (p:=⟨ob,oof+a * 2,none⟩) hRo).trans (vol_name hf hok ha).1
  ·exact(hb.cell (p:=⟨ob,oof+a * 2+1,none⟩) hRo).trans (hv1 1 _ rfl)
  ·rw[hK] at hpol;exact(hb.cell (p:=⟨pb,pof+volP F a * 17+1,none⟩) hRp).trans (hpol 1 _ rfl)
 have hnm:∀a,a<F.vols.length→(nmOf F a).size=3:=fun a ha=>(vol_name hf hok ha).2
 rw[hEX];obtain⟨NO,hNO⟩:=zx F.vols.length;obtain⟨NP,hNP⟩:=zx F.pols.length;rw[←hNO] at hno2 hno hfa hnm ⊢;rw[←hNP] at hnp hfa ⊢;have HNM:=zh hnm;have HFA:=zh hfa;have HNO:=zh hno;obtain⟨W0,hW0⟩:=zx ((w.alloc (.cells #[.int .i64 (EX:Int),vl,vm,vd,vv,.slice (some ⟨pb,pof,none⟩) NP cp,.slice (some ⟨ob,oof,none⟩) NO co] 35)).alloc (.cells #[.int .i64 0,.int .i64 0,.bool false,.int .i64 0,.slice none 0 0] 27));obtain⟨z,hz⟩:=zx w.heap.size;obtain⟨gR,hgR⟩:=zx (w.heap.size+1)
 have hb0:Below w.heap.size w W0:=by rw[hW0];exact((Below.refl _ _).alloc (Nat.le_refl _) _).alloc (by simp) _
 have hrk:W0.heap[gR]?=some (.cells #[.int .i64 0,.int .i64 0,.bool false,.int .i64 0,.slice none 0 0] 27 (0,0)):=by
  rw[hW0];exact heap_alloc_at _ _ _ (by rw[hgR];simp)
 have hzk:W0.heap[z]?=some (.cells #[.int .i64 (EX:Int),vl,vm,vd,vv,.slice (some ⟨pb,pof,none⟩) NP cp,.slice (some ⟨ob,oof,none⟩) NO co] 35 (0,0)):=by
  rw[hW0,hz];exact(Below.heap_alloc _ _ _ (by simp)).trans (heap_alloc_new w _)
 have hzl:z<W0.heap.size:=(Array.getElem?_eq_some_iff.1 hzk).1;have hrl:gR<W0.heap.size:=(Array.getElem?_eq_some_iff.1 hrk).1;have HC:=zh (fun(w':World) (hb:Below W0.heap.size W0 w')=>cells7 ((hb.block z hzl).trans hzk));have HRK:=zh (fun(w':World) (hb:Below W0.heap.size W0 w')=>(hb.block gR hrl).trans hrk);have HW0:=zh hW0;have HZ:=zh hz;have HGR:=zh hgR;have HB0:=zh hb0;clear hf hok hPA hRp hRo hW0 hz hgR hb0 hrk hzk hzl hrl hNO hNP hEX hno hfa hnm;go_enter Tryz.func57,Tryz.ntmps57;go_upto_region 1 with fail;rw[←HW0.out,←HGR.out,←HZ.out];obtain⟨c0,c1,c2,c3,c4,c5,c6⟩:=HC.out W0 (Below.refl _ _);go_wp2_with fail;clear c0 c1 c2 c3 c4 c5 c6;go_loopg [15] NO (fun z v15 wr=>∃a:Nat,v15=.int .i64 (a:Int)∧a≤NO∧z=NO - a∧Hid (Below W0.heap.size W0 wr))
 case atStart=>exact⟨0,rfl,Nat.zero_le _,rfl,zh (Below.refl _ _)⟩
 case round =>
  obtain⟨a,rfl,ha,rfl,HB⟩:=hrel;by_cases hlt:a<NO
  ·have HLT:=zh hlt;obtain⟨p0,K,hp0,hK,hK2,hcell⟩:=HFA.out a hlt;have HKF:=zh hK;have HCE:=zh hcell;have HNMA:=zh (HNM.out a hlt);obtain⟨nm,hnm⟩:=zx (nmOf F a);rw[←hnm] at HCE HNMA;have HNN:=zh hnm;have hbw:=HB0.out.trans (HB.out.mono HB0.out.size);obtain⟨n0,n1,-⟩:=HCE.out wr hbw;obtain⟨c0,c1,c2,c3,c4,c5,c6⟩:=HC.out wr HB.out;obtain⟨W1,hW1⟩:=zx (wr.alloc (.cells #[.string nm,.int .i64 (p0:Int)] 87));obtain⟨gv,hgv⟩:=zx wr.heap.size
   have hb1:Below wr.heap.size wr W1:=by rw[hW1];exact(Below.refl _ _).alloc (Nat.le_refl _) _
   have hgk:W1.heap[gv]?=some (.cells #[.string nm,.int .i64 (p0:Int)] 87 (0,0)):=by rw[hW1,hgv];exact heap_alloc_new wr _
   have hgl:gv<W1.heap.size:=(Array.getElem?_eq_some_iff.1 hgk).1;have HB1:=zh (HB.out.trans (hb1.mono HB.out.size));have HGV:=zh (fun(w':World) (hb:Below W1.heap.size W1 w')=>(show w'.cell? ⟨gv,1,none⟩=some (.int .i64 (p0:Int)) from by rw[cell_of_row _ _ _ _ _ _ ((hb.block gv hgl).trans hgk)];rfl));have HW1:=zh hW1;have HGVE:=zh hgv
   have i1:(a:Int)<(NO:Int):=by omega
   have i2:(p0:Int)<(NP:Int):=by omega
   clear hK hcell hnm hbw hW1 hgv hb1 hgk hgl;go_upto_region 4 with fail;rw[←HW1.out,←HGVE.out];clear n0 n1 c0 c1 c2 c3 c4 c5 c6;obtain⟨c0,c1,c2,c3,c4,c5,c6⟩:=HC.out W1 HB1.out;go_wp2_with fail;clear c0 c1 c2 c3 c4 c5 c6;go_loopg [22] EX (fun z v22 wr=>∃st:Nat,v22=.int .i64 (st:Int)∧st≤EX∧z=EX - st∧Hid (Below W1.heap.size W1 wr))
   case atStart=>exact⟨0,rfl,Nat.zero_le _,rfl,zh (Below.refl _ _)⟩
   case round =>
    clear HB;obtain⟨st,rfl,hst,rfl,HB⟩:=hrel;by_cases hls:st<EX
    ·have HLS:=zh hls;obtain⟨W2,hW2⟩:=zx (wr.alloc (.cells #[.bool false,.bool true] 4));obtain⟨gb,hgb⟩:=zx wr.heap.size
     have hb2:Below wr.heap.size wr W2:=by rw[hW2];exact(Below.refl _ _).alloc (Nat.le_refl _) _
     have hgk:W2.heap[gb]?=some (.cells #[.bool false,.bool true] 4 (0,0)):=by rw[hW2,hgb];exact heap_alloc_new wr _
     have hgl:gb<W2.heap.size:=(Array.getElem?_eq_some_iff.1 hgk).1;have HB2:=zh (HB.out.trans (hb2.mono HB.out.size))
     have HGB:=zh (fun(w':World) (hb:Below W2.heap.size W2 w') (c:Nat) (hc:c<2)=>(show w'.cell? ⟨gb,c,none⟩=some (.bool (decide (c=1))) from by
      rw[cell_of_row _ _ _ _ _ _ ((hb.block gb hgl).trans hgk)]
      have:c=0∨c=1:=by omega
      rcases this with rfl | rfl <;> rfl))
     have HW2:=zh hW2;have HGBE:=zh hgb;clear hW2 hgb hb2 hgk hgl;go_wp2_with fail;rw[←HW2.out,←HGBE.out];go_loopg [27] 2 (fun z v27 wr=>∃c:Nat,v27=.int .i64 (c:Int)∧c≤2∧z=2 - c∧Hid (Below W2.heap.size W2 wr))
     case atStart=>exact⟨0,rfl,Nat.zero_le _,rfl,zh (Below.refl _ _)⟩
     case round =>
      clear HB;obtain⟨c,rfl,hc,rfl,HB⟩:=hrel;by_cases hlc:c<2
      ·have HLC:=zh hlc;have hb1w:=HB2.out.trans (HB.out.mono HB2.out.size);have hb0w:=HB1.out.trans (hb1w.mono HB1.out.size);have hbw:=HB0.out.trans (hb0w.mono HB0.out.size);have g0:=HGB.out wr HB.out c hlc;have v1:=HGV.out wr hb1w;obtain⟨-,-,k1⟩:=HCE.out wr hbw;obtain⟨c0,c1,c2,c3,c4,c5,c6⟩:=HC.out wr hb0w;obtain⟨lb,hlb⟩:=zx (decide (c=1));rw[←hlb] at g0;obtain⟨W3,hW3⟩:=zx (wr.alloc (.cells #[.int .i64 (a:Int),.int .i64 (st:Int),.bool lb,.int .i64 (K:Int),.slice none 0 0] 27));obtain⟨gi,hgi⟩:=zx wr.heap.size
       have hb3:Below wr.heap.size wr W3:=by rw[hW3];exact(Below.refl _ _).alloc (Nat.le_refl _) _
       have hgk3:W3.heap[gi]?=some (.cells #[.int .i64 (a:Int),.int .i64 (st:Int),.bool lb,.int .i64 (K:Int),.slice none 0 0] 27 (0,0)):=by rw[hW3,hgi];exact heap_alloc_new wr _
       have hb03:=hb0w.trans (hb3.mono hb0w.size);have hbw3:=HB0.out.trans (hb03.mono HB0.out.size);have hhd:=head_any lb (EX:Int) vl vm vd vv (.slice (some ⟨pb,pof,none⟩) NP cp) (.slice none 0 0) ob oof NO co a st K nm W3 (by omega) (by omega) (by omega) (by omega) (by have:=HNMA.out;omega) (HCE.out W3 hbw3).1;obtain⟨hb,hhb⟩:=zx (hdlB lb nm st K);rw[←hhb] at hhd;have hne:(hb.toList==t.toList)=false:=seq_no (by rw[hhb,HNN.out];exact HNO.out a st K HLT.out HLS.out HKF.out lb);have HHD:=zh hhd;have HB3:=zh (HB.out.trans (hb3.mono HB.out.size));have HW3:=zh hW3;have HGI:=zh hgi;have HX3:=zh (show(W3.cell? ⟨gi,0,none⟩=some (.int .i64 (a:Int))∧W3.cell? ⟨gi,1,none⟩=some (.int .i64 (st:Int))∧W3.cell? ⟨gi,2,none⟩=some (.bool lb)∧W3.cell? ⟨gi,3,none⟩=some (.int .i64 (K:Int))∧W3.cell? ⟨gi,4,none⟩=some (.slice none 0 0))∧_ from⟨⟨by rw[cell_of_row _ _ _ _ _ _ hgk3];rfl,by rw[cell_of_row _ _ _ _ _ _ hgk3];rfl,by rw[cell_of_row _ _ _ _ _ _ hgk3];rfl,by rw[cell_of_row _ _ _ _ _ _ hgk3];rfl,by rw[cell_of_row _ _ _ _ _ _ hgk3];rfl⟩,HC.out W3 hb03⟩);clear hb1w hb0w hbw hlb hW3 hgi hb3 hgk3 hb03 hbw3 hhd hhb
       have hci:(c:Int)<2:=by omega
       go_upto_region 11 with fail;rw[←HW3.out,←HGI.out];clear g0 v1 k1 c0 c1 c2 c3 c4 c5 c6;obtain⟨⟨x0,x1,x2,x3,x4⟩,c0,c1,c2,c3,c4,c5,c6⟩:=HX3.out;go_wp2_with (go_at_call 43;refine HHD.out.mono ?_;rintro e w5 ⟨rfl,hb5⟩;have HB5:=zh hb5;clear hb5);go_roundg (2 - (c+1))
       case measure=>have:=HLC.out;omega
       case rel=>exact⟨c+1,by go_num,by have:=HLC.out;omega,rfl,zh (HB3.out.trans (HB5.out.mono HB3.out.size))⟩
      ·obtain rfl:c=2:=by omega
       go_wp2_with fail;go_roundg (EX - (st+1))
       case measure=>have:=HLS.out;omega
       case rel=>exact⟨st+1,by go_num,by have:=HLS.out;omega,rfl,zh (HB2.out.trans (HB.out.mono HB2.out.size))⟩
    ·obtain rfl:st=EX:=by omega
     go_wp2_with fail;go_roundg (NO - (a+1))
     case measure=>have:=HLT.out;omega
     case rel=>exact⟨a+1,by go_num,by have:=HLT.out;omega,rfl,zh (HB1.out.trans (HB.out.mono HB1.out.size))⟩
  ·obtain rfl:a=NO:=by omega
   have HZO:=zh (HRK.out wr HB.out)
   have zf:=fun i=>frozen_of_row wr gR i _ _ (HRK.out wr HB.out)
   have z0:wr.cell? ⟨gR,0,none⟩=some (.int .i64 0):=by rw[cell_of_row _ _ _ _ _ _ HZO.out];rfl
   have z1:wr.cell? ⟨gR,1,none⟩=some (.int .i64 0):=by rw[cell_of_row _ _ _ _ _ _ HZO.out];rfl
   have z2:wr.cell? ⟨gR,2,none⟩=some (.bool false):=by rw[cell_of_row _ _ _ _ _ _ HZO.out];rfl
   have z3:wr.cell? ⟨gR,3,none⟩=some (.int .i64 0):=by rw[cell_of_row _ _ _ _ _ _ HZO.out];rfl
   have z4:wr.cell? ⟨gR,4,none⟩=some (.slice none 0 0):=by rw[cell_of_row _ _ _ _ _ _ HZO.out];rfl
   have f0:=zf 0;have f1:=zf 1;have f2:=zf 2;have f3:=zf 3;have f4:=zf 4;clear zf;go_wp2_with fail;obtain⟨WZ,hWZ⟩:=zx ((((((wr.setCell ⟨gR,0,none⟩ (.int .i64 0)).setCell ⟨gR,1,none⟩ (.int .i64 0)).setCell ⟨gR,2,none⟩ (.bool false)).setCell ⟨gR,3,none⟩ (.int .i64 0)).setCell ⟨gR,4,none⟩ (.slice none 0 0)):World)
   have hz:WZ.heap[gR]?=some (.cells #[.int .i64 0,.int .i64 0,.bool false,.int .i64 0,.slice none 0 0] 27 (0,0)):=by
    rw[hWZ];exact heap_setCell_same _ gR 4 _ _ _ (heap_setCell_same _ gR 3 _ _ _ (heap_setCell_same _ gR 2 _ _ _ (heap_setCell_same _ gR 1 _ _ _ (heap_setCell_same _ gR 0 _ _ _ HZO.out))))
   rw[←hWZ]
   have hg:w.heap.size≤gR:=by have:=HGR.out;omega
   have hbz:Below w.heap.size w WZ:=by
    rw[hWZ];exact(((((HB0.out.trans (HB.out.mono HB0.out.size)).setCell hg _).setCell hg _).setCell hg _).setCell hg _).setCell hg _
   have n0:WZ.cell? ⟨gR,0,none⟩=some (.int .i64 0):=by rw[cell_of_row _ _ _ _ _ _ hz];rfl
   have n1:WZ.cell? ⟨gR,1,none⟩=some (.int .i64 0):=by rw[cell_of_row _ _ _ _ _ _ hz];rfl
   have n2:WZ.cell? ⟨gR,2,none⟩=some (.bool false):=by rw[cell_of_row _ _ _ _ _ _ hz];rfl
   have n3:WZ.cell? ⟨gR,3,none⟩=some (.int .i64 0):=by rw[cell_of_row _ _ _ _ _ _ hz];rfl
   have n4:WZ.cell? ⟨gR,4,none⟩=some (.slice none 0 0):=by rw[cell_of_row _ _ _ _ _ _ hz];rfl
   refine bodyPost_ret (v:=.tuple #[.agg #[.int .i64 0,.int .i64 0,.bool false,.int .i64 0,.slice none 0 0],.bool false]) ?_ rfl ⟨rfl,hbz⟩;simp[results,Tryz.results57,go_sem,n0,n1,n2,n3,n4]
theorem ivalid_nil(N:Nat) (hN:N≤12) (vl vm vd vv vp vo:Value) (F:FltM) (w:World) (hf:FleetS w (Bl w.heap.size) vl vm vd vv vp vo F) (hok:FleetOk N F) :
  Calls Tryz.prog 16 #[.agg #[.int .i64 F.ext,vl,vm,vd,vv,vp,vo],.slice none 0 0] w fun e w'=>e=.returned (.bool true)∧Below w.heap.size w w':=by
 obtain⟨W0,hW0⟩:=zx (w.alloc (.cells #[.int .i64 F.ext,vl,vm,vd,vv,vp,vo] 35));obtain⟨z,hz⟩:=zx w.heap.size
 have hb0:Below w.heap.size w W0:=by rw[hW0];exact(Below.refl _ _).alloc (Nat.le_refl _) _
 have hzk:W0.heap[z]?=some (.cells #[.int .i64 F.ext,vl,vm,vd,vv,vp,vo] 35 (0,0)):=by rw[hW0,hz];exact heap_alloc_new w _
 obtain⟨c0,c1,c2,c3,c4,c5,c6⟩:=cells7 hzk;have HV:=zh (fvalidate_any N hN vl vm vd vv vp vo F W0 (hf.below hb0) hok);obtain⟨EX,hEX⟩:=zx F.ext;rw[←hEX] at HV hW0 c0 ⊢;have HW0:=zh hW0;have HZ:=zh hz;have HB0:=zh hb0;clear hf hok hW0 hz hb0 hzk hEX;go_enter Tryz.func16,Tryz.ntmps16;go_upto_region 1 with fail;rw[←HW0.out,←HZ.out];go_wp2_with fail;refine HV.out.mono ?_;rintro e w1 ⟨rfl,hb1⟩;have HB1:=zh (HB0.out.trans (hb1.mono HB0.out.size));clear c0 c1 c2 c3 c4 c5 c6 hb1;go_wp2_with fail;go_loopg [15] 0 (fun z v15 wr=>v15=.int .i64 0∧w1=wr)
 case atStart=>exact⟨rfl,rfl⟩
 case round =>
  obtain⟨rfl,rfl⟩:=hrel;go_wp2_with fail;go_ret;exact⟨rfl,HB1.out⟩
theorem ivalid_empty(v:Value) (w:World) :
  Calls Tryz.prog 16 #[.agg #[.int .i64 0,.slice none 0 0,.slice none 0 0,.slice none 0 0,.slice none 0 0,.slice none 0 0,.slice none 0 0],v] w fun e w'=>e=.returned (.bool false)∧Below w.heap.size w w':=by
 obtain⟨W0,hW0⟩:=zx (w.alloc (.cells #[.int .i64 0,.slice none 0 0,.slice none 0 0,.slice none 0 0,.slice none 0 0,.slice none 0 0,.slice none 0 0] 35));obtain⟨z,hz⟩:=zx w.heap.size
 have hb0:Below w.heap.size w W0:=by rw[hW0];exact(Below.refl _ _).alloc (Nat.le_refl _) _
 have hzk:W0.heap[z]?=some (.cells #[.int .i64 0,.slice none 0 0,.slice none 0 0,.slice none 0 0,.slice none 0 0,.slice none 0 0,.slice none 0 0] 35 (0,0)):=by rw[hW0,hz];exact heap_alloc_new w _
 obtain⟨c0,c1,c2,c3,c4,c5,c6⟩:=cells7 hzk;have HV:=zh (fvalidate_empty W0);have HW0:=zh hW0;have HZ:=zh hz;have HB0:=zh hb0;clear hW0 hz hb0 hzk;go_enter Tryz.func16,Tryz.ntmps16;go_upto_region 1 with fail;rw[←HW0.out,←HZ.out];go_wp2_with fail;refine HV.out.mono ?_;rintro e w1 ⟨rfl,hb1⟩;have HB1:=zh (HB0.out.trans (hb1.mono HB0.out.size));clear c0 c1 c2 c3 c4 c5 c6 hb1;go_wp2_with fail;go_ret;exact⟨rfl,HB1.out⟩
theorem iformat_empty(v:Value) (w:World) :
  Calls Tryz.prog 14 #[.agg #[.int .i64 0,.slice none 0 0,.slice none 0 0,.slice none 0 0,.slice none 0 0,.slice none 0 0,.slice none 0 0],v] w fun e w'=>e=.returned (.tuple #[.string ⟨#[]⟩,.int .i64 1])∧Below w.heap.size w w':=by
 obtain⟨W0,hW0⟩:=zx (w.alloc (.cells #[.int .i64 0,.slice none 0 0,.slice none 0 0,.slice none 0 0,.slice none 0 0,.slice none 0 0,.slice none 0 0] 35));obtain⟨z,hz⟩:=zx w.heap.size
 have hb0:Below w.heap.size w W0:=by rw[hW0];exact(Below.refl _ _).alloc (Nat.le_refl _) _
 have hzk:W0.heap[z]?=some (.cells #[.int .i64 0,.slice none 0 0,.slice none 0 0,.slice none 0 0,.slice none 0 0,.slice none 0 0,.slice none 0 0] 35 (0,0)):=by rw[hW0,hz];exact heap_alloc_new w _
 obtain⟨c0,c1,c2,c3,c4,c5,c6⟩:=cells7 hzk;have HV:=zh (ivalid_empty v W0);have HW0:=zh hW0;have HZ:=zh hz;have HB0:=zh hb0;clear hW0 hz hb0 hzk;go_enter Tryz.func14,Tryz.ntmps14;go_upto_region 1 with fail;rw[←HW0.out,←HZ.out];go_wp2_with fail;refine HV.out.mono ?_;rintro e w1 ⟨rfl,hb1⟩;have HB1:=zh (HB0.out.trans (hb1.mono HB0.out.size));clear c0 c1 c2 c3 c4 c5 c6 hb1;go_wp2_with fail;go_ret2;exact⟨rfl,HB1.out⟩
theorem iformat_nil(N:Nat) (hN:N≤12) (vl vm vd vv vp vo:Value) (F:FltM) (w:World) (hf:FleetS w (Bl w.heap.size) vl vm vd vv vp vo F) (hok:FleetOk N F) :
  Calls Tryz.prog 14 #[.agg #[.int .i64 F.ext,vl,vm,vd,vv,vp,vo],.slice none 0 0] w fun e w'=>e=.returned (.tuple #[.string ⟨#[]⟩,.int .i64 0])∧Below w.heap.size w w':=by
 obtain⟨W0,hW0⟩:=zx (w.alloc (.cells #[.int .i64 F.ext,vl,vm,vd,vv,vp,vo] 35));obtain⟨z,hz⟩:=zx w.heap.size
 have hb0:Below w.heap.size w W0:=by rw[hW0];exact(Below.refl _ _).alloc (Nat.le_refl _) _
 have hzk:W0.heap[z]?=some (.cells #[.int .i64 F.ext,vl,vm,vd,vv,vp,vo] 35 (0,0)):=by rw[hW0,hz];exact heap_alloc_new w _
 obtain⟨c0,c1,c2,c3,c4,c5,c6⟩:=cells7 hzk;have HV:=zh (ivalid_nil N hN vl vm vd vv vp vo F W0 (hf.below hb0) hok);obtain⟨EX,hEX⟩:=zx F.ext;rw[←hEX] at HV hW0 c0 ⊢;have HW0:=zh hW0;have HZ:=zh hz;have HB0:=zh hb0;clear hf hok hW0 hz hb0 hzk hEX;go_enter Tryz.func14,Tryz.ntmps14;go_upto_region 1 with fail;rw[←HW0.out,←HZ.out];go_wp2_with fail;refine HV.out.mono ?_;rintro e w1 ⟨rfl,hb1⟩;have HB1:=zh (HB0.out.trans (hb1.mono HB0.out.size));clear c0 c1 c2 c3 c4 c5 c6 hb1;obtain⟨W7,hW7⟩:=zx (w1.alloc (.cells #[.pointer none,.slice none 0 0] 108));obtain⟨gb,hgb⟩:=zx w1.heap.size
 have hb7:Below w1.heap.size w1 W7:=by rw[hW7];exact(Below.refl _ _).alloc (Nat.le_refl _) _
 have hgk:W7.heap[gb]?=some (.cells #[.pointer none,.slice none 0 0] 108 (0,0)):=by rw[hW7,hgb];exact heap_alloc_new _ _
 have hbl:Lib.IsBuilder 108 5 gb gb (Lib.byteCells []) W7:=.inl ⟨Nat.le_refl _,_,hgk,World.ownsRow_nil _ _ _ _,by intro e;cases e⟩;have HST:=zh (bstring_any gb gb [] W7 hbl (Nat.le_of_lt (Array.getElem?_eq_some_iff.1 hgk).1));have HGB:=zh hgb;have HW7:=zh hW7;have HB7:=zh hb7;clear hW7 hgb hb7 hgk hbl;go_upto_region 4 with fail;rw[←HW7.out,←HGB.out];go_wp2_with fail;go_loopg [17] 0 (fun z v17 wr=>v17=.int .i64 0∧W7=wr)
 case atStart=>exact⟨rfl,rfl⟩
 case round =>
  obtain⟨rfl,rfl⟩:=hrel;go_wp2_with fail;refine HST.out.mono ?_;rintro e w8 ⟨rfl,hb8⟩;have HB8:=zh (show Below w1.heap.size w1 w8 from by have h:=HB7.out;exact h.trans (by rw[←HGB.out];exact hb8));clear hb8;go_wp2_with fail;go_ret2;exact⟨rfl,HB1.out.trans (HB8.out.mono HB1.out.size)⟩
def lostB:ByteArray:=⟨#[108,111,115,116,10]⟩
theorem lost_cut:cutV lostB ⟨#[10]⟩=.tuple #[.string ⟨#[108,111,115,116]⟩,.string ⟨#[]⟩,.bool true]:=by kernel_rfl
theorem hdl_long(b:Bool) (nm:ByteArray) (s K:Nat):hdlB b nm s K≠⟨#[108,111,115,116]⟩:=fun e=>by
 have h:=congrArg ByteArray.size e;unfold hdlB at h;have h4:(⟨#[108,111,115,116]⟩:ByteArray).size=4:=rfl
 have h5:∀b:Bool,(if b then(⟨#[108,111,115,116,32]⟩:ByteArray) else⟨#[97,119,97,121,32]⟩).size=5:=fun b=>by cases b <;> rfl
 rw[h4,ByteArray.size_append,ByteArray.size_append,ByteArray.size_append,ByteArray.size_append,ByteArray.size_append,h5] at h;omega
theorem iparse_lost(N:Nat) (hN:N≤12) (vl vm vd vv vp vo:Value) (F:FltM) (w:World) (hf:FleetS w (Bl w.heap.size) vl vm vd vv vp vo F) (hok:FleetOk N F) :
  Calls Tryz.prog 19 #[.agg #[.int .i64 F.ext,vl,vm,vd,vv,vp,vo],.string lostB] w fun e w'=>e=.returned (.tuple #[.slice none 0 0,.int .i64 104,.int .i64 1])∧Below w.heap.size w w':=by
 obtain⟨W0,hW0⟩:=zx (w.alloc (.cells #[.int .i64 F.ext,vl,vm,vd,vv,vp,vo] 35));obtain⟨z,hz⟩:=zx w.heap.size
 have hb0:Below w.heap.size w W0:=by rw[hW0];exact(Below.refl _ _).alloc (Nat.le_refl _) _
 have hzk:W0.heap[z]?=some (.cells #[.int .i64 F.ext,vl,vm,vd,vv,vp,vo] 35 (0,0)):=by rw[hW0,hz];exact heap_alloc_new w _
 have hzl:z<W0.heap.size:=(Array.getElem?_eq_some_iff.1 hzk).1;have HC:=zh (fun(w':World) (hb:Below W0.heap.size W0 w')=>cells7 ((hb.block z hzl).trans hzk));have HV:=zh (fvalidate_any N hN vl vm vd vv vp vo F W0 (hf.below hb0) hok);obtain⟨EXN,hEXN⟩:∃e:Nat,F.ext=(e:Int):=⟨F.ext.toNat,by have:=hok.ext;omega⟩;have HP:=zh (fun(w':World) (hb:Below W0.heap.size W0 w')=>parseHead_no N hN vl vm vd vv vp vo F EXN ⟨#[108,111,115,116]⟩ w' (hf.below (hb0.trans (hb.mono hb0.size))) hok hEXN (fun v s K _ _ _ b=>hdl_long b _ s K))
 have HCU:=zh (fun(w':World)=>(show Calls Tryz.prog 56 #[.string lostB,.string ⟨#[10]⟩] w' (fun e w2=>e=.returned (.tuple #[.string ⟨#[108,111,115,116]⟩,.string ⟨#[]⟩,.bool true])∧∃n,w2=w'.drewN n) from by
  have h:=cut_any lostB 10 w' (by decide);rw[lost_cut] at h
  exact h))
 obtain⟨EX,hEX⟩:=zx F.ext;rw[←hEX] at HV hW0 HC HP ⊢;obtain⟨S,hS⟩:=zx lostB;rw[←hS] at HCU ⊢
 have hs0:S.toList.isEmpty=false:=by rw[hS];decide +kernel
 obtain⟨L4,hL4⟩:∃q:ByteArray,q=⟨#[108,111,115,116]⟩:=⟨_,rfl⟩;rw[←hL4] at HCU HP;have HW0:=zh hW0;have HZ:=zh hz;have HB0:=zh hb0;obtain⟨c0,c1,c2,c3,c4,c5,c6⟩:=HC.out W0 (Below.refl _ _);clear hf hok hW0 hz hb0 hzk hzl hEX hEXN hS hL4;go_enter Tryz.func19,Tryz.ntmps19;go_upto_region 1 with fail;rw[←HW0.out,←HZ.out];go_wp2_with fail;refine HV.out.mono ?_;rintro e w1 ⟨rfl,hb1⟩;have HB1:=zh hb1;clear c0 c1 c2 c3 c4 c5 c6 hb1;obtain⟨W2,hW2⟩:=zx (w1.alloc (.cells #[.int .i64 0,.int .i64 0,.int .i64 0,.bool false] 118));obtain⟨gt,hgt⟩:=zx w1.heap.size
 have hb2:Below w1.heap.size w1 W2:=by rw[hW2];exact(Below.refl _ _).alloc (Nat.le_refl _) _
 have t2:W2.cell? ⟨gt,2,none⟩=some (.int .i64 0):=by rw[hW2,hgt];simp
 have HB2:=zh (HB1.out.trans (hb2.mono HB1.out.size));have HW2:=zh hW2;have HGT:=zh hgt;have HT2:=zh (fun(n:Nat)=>(show(W2.drewN n).cell? ⟨gt,2,none⟩=some (.int .i64 0) from by rw[←t2];exact World.cell?_of_block (w:=W2) (w':=W2.drewN n) ((Below.drewN' (Below.refl W2.heap.size W2) n).block gt (World.block_lt_of_cell? W2 _ t2))));clear hW2 hgt hb2 t2;go_upto_region 5 with fail;rw[←HW2.out,←HGT.out];go_wp2_with fail;go_loopg [1,7,9] 0 (fun z v1 v7 v9 wr=>v1=.string S∧v7=.slice none 0 0∧v9=.int .i64 1∧W2=wr)
 case atStart=>exact⟨rfl,rfl,rfl,rfl⟩
 case round =>
  obtain⟨rfl,rfl,rfl,rfl⟩:=hrel;go_wp2_with fail;refine(HCU.out _).mono ?_;rintro e w3 ⟨rfl,n,rfl⟩;have t2:=HT2.out n;have HB3:=zh (Below.drewN' HB2.out n);obtain⟨W3,hW3⟩:=zx (W2.drewN n);rw[←hW3] at t2 HB3 ⊢;clear hW3;obtain⟨c0,c1,c2,c3,c4,c5,c6⟩:=HC.out W3 HB3.out;go_wp2_with fail;refine(HP.out _ HB3.out).mono ?_;rintro e w4 ⟨rfl,hb4⟩;have HB4:=zh (HB3.out.trans (hb4.mono HB3.out.size));clear c0 c1 c2 c3 c4 c5 c6 t2 hb4;go_upto_region 14 with fail
  go_quiet (fail)
  go_wp2_with fail;go_ret3;have hbw:=HB0.out.trans (HB4.out.mono HB0.out.size);exact⟨rfl,by first | exact Below.drewN' (hbw.alloc hbw.size _) _ | exact(hbw.alloc hbw.size _).drew | exact hbw.alloc hbw.size _⟩
end Go.Proofs.YtcfkllnpkmebpaaGreatDoor
