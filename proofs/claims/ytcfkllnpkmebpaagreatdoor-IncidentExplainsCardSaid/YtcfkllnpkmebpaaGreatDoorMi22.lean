/- The stripes that are lost or unavailable: the reference, walked. -/
import Derived.Test.YtcfkllnpkmebpaaGreatDoorMi18
import Derived.Test.YtcfkllnpkmebpaaGreatDoorMi21
import Derived.Test.YtcfkllnpkmebpaaGreatDoorMi01
import Derived.Test.YtcfkllnpkmebpaaGreatDoorMi04
import Derived.Test.YtcfkllnpkmebpaaGreatDoorMi07
import Derived.Shelf.Strings.Builder1
import Derived.Laws.AppendOwn
import Derived.Test.YtcfkllnpkmebpaaGreatDoorMi16
import Derived.Shelf.Strconv.Itoa3
import Derived.Shelf.Strings.Cut
import Derived.Test.YtcfkllnpkmebpaaGreatDoorRows
import Derived.Shelf.RegionOpenPlain
import Derived.Lib.CutLaws
import Derived.BigQuiet
import Derived.Deep.QuietTactic
import Derived.Test.YtcfkllnpkmebpaaGreatDoorMi05
set_option maxRecDepth 100000
set_option maxHeartbeats 12800000
namespace Go.Proofs.YtcfkllnpkmebpaaGreatDoor
open Go.RowKit
set_option linter.unusedVariables false
set_option linter.unusedSimpArgs false
theorem rvalidate_any(N:Nat) (hN:N≤12) (vl vm vd vv vp vo:Value) (F:FltM) (w:World) (hf:FleetS w (Bl w.heap.size) vl vm vd vv vp vo F) (hok:FleetOk N F) :
  Calls Tryz.prog 36 #[.agg #[.int .i64 F.ext,vl,vm,vd,vv,vp,vo]] w fun e w'=>e=.returned (.int .i64 0)∧Below w.heap.size w w':=by
 obtain⟨W0,hW0⟩:=zx (w.alloc (.cells #[.int .i64 F.ext,vl,vm,vd,vv,vp,vo] 35))
 obtain⟨z,hz⟩:=zx w.heap.size
 have hb0:Below w.heap.size w W0:=by rw[hW0];exact(Below.refl _ _).alloc (Nat.le_refl _) _
 have hzk:W0.heap[z]?=some (.cells #[.int .i64 F.ext,vl,vm,vd,vv,vp,vo] 35 (0,0)):=by rw[hW0,hz];exact heap_alloc_new _ _
 obtain⟨c0,c1,c2,c3,c4,c5,c6⟩:=cells7 hzk
 have HV:=zh (rvalidf_any N hN vl vm vd vv vp vo F W0 (hf.below hb0) hok)
 have HW0:=zh hW0
 have HZ:=zh hz
 have HB0:=zh hb0
 obtain⟨EX,hEX⟩:=zx F.ext
 rw[←hEX] at HV HW0 c0 ⊢
 clear hf hok hW0 hz hb0 hzk hEX
 go_enter Tryz.func36,Tryz.ntmps36
 go_wp2_with fail
 rw[←HW0.out]
 refine HV.out.mono ?_
 rintro e w1 ⟨rfl,hb1⟩
 have HB1:=zh hb1
 clear c0 c1 c2 c3 c4 c5 c6 hb1
 go_wp2_with fail
 go_ret
 exact⟨rfl,HB0.out.trans (HB1.out.mono HB0.out.size)⟩
theorem pol_field1(a0 a1 a2 a3 a4 a5 a6 a7 a8 a9 a10 a11 a12 a13 a14 a15 a16:Value) (w:World):(Instr.field 85 (.agg #[a0,a1,a2,a3,a4,a5,a6,a7,a8,a9,a10,a11,a12,a13,a14,a15,a16]) 1).run Tryz.prog w=.ok a1 w:=by kernel_rfl
def condR(lost:Bool) (a u k:Int):Bool:=if lost then decide (a<k) else !decide (a<k)&&decide (u<k)
def HeldY(W0:World) (z y:Nat) (a b c d e f g p q r:Value) (w':World):Prop :=
 w'.cell? ⟨z,0,none⟩=some a∧w'.cell? ⟨z,1,none⟩=some b∧w'.cell? ⟨z,2,none⟩=some c∧w'.cell? ⟨z,3,none⟩=some d∧w'.cell? ⟨z,4,none⟩=some e∧w'.cell? ⟨z,5,none⟩=some f∧w'.cell? ⟨z,6,none⟩=some g ∧
 w'.cell? ⟨y,0,none⟩=some p∧w'.cell? ⟨y,1,none⟩=some q∧w'.cell? ⟨y,2,none⟩=some r∧Below W0.heap.size W0 w'
theorem HeldY.bl{W0 wc:World} {z y:Nat} {a b c d e f g p q r:Value} (h:HeldY W0 z y a b c d e f g p q r wc):Below W0.heap.size W0 wc:=h.2.2.2.2.2.2.2.2.2.2
theorem HeldY.below{W0 wc w2:World} {z y:Nat} {a b c d e f g p q r:Value} (h:HeldY W0 z y a b c d e f g p q r wc) (hb:Below wc.heap.size wc w2) (h1:z<W0.heap.size) (h2:y<W0.heap.size):HeldY W0 z y a b c d e f g p q r w2:=by
 have hs:=h.bl.size
 have hB:=h.bl
 obtain⟨c0,c1,c2,c3,c4,c5,c6,d0,d1,d2,-⟩:=h
 have k:∀i,w2.cell? ⟨z,i,none⟩=wc.cell? ⟨z,i,none⟩:=fun i=>hb.cell (p:=⟨z,i,none⟩) (Nat.lt_of_lt_of_le h1 hs)
 have k':∀i,w2.cell? ⟨y,i,none⟩=wc.cell? ⟨y,i,none⟩:=fun i=>hb.cell (p:=⟨y,i,none⟩) (Nat.lt_of_lt_of_le h2 hs)
 exact⟨(k _).trans c0,(k _).trans c1,(k _).trans c2,(k _).trans c3,(k _).trans c4,(k _).trans c5,(k _).trans c6,(k' _).trans d0,(k' _).trans d1,(k' _).trans d2,hB.trans (hb.mono hs)⟩
theorem HeldY.start{W0 wz:World} {z y:Nat} {a b c d e f g p q r:Value} (h:HeldY W0 z y a b c d e f g p q r wz):HeldY wz z y a b c d e f g p q r wz.drew:=by
 obtain⟨c0,c1,c2,c3,c4,c5,c6,d0,d1,d2,-⟩:=h
 exact⟨c0,c1,c2,c3,c4,c5,c6,d0,d1,d2,(Below.refl _ _).drew⟩
theorem stripes_any(lost:Bool) (N:Nat) (hN:N≤12) (vl vm vd vv vp vo vp0 vo0 va0:Value) (F:FltM) (r:Re) (w:World) (hf:FleetS w (Bl w.heap.size) vl vm vd vv vp vo F) (hok:FleetOk N F) (h:ReS w (Bl w.heap.size) vp0 vo0 va0 r) (hp:r.plat.length≤1000) (hl:∀l∈r.plat,l.length≤1000) :
  Calls Tryz.prog 91 #[.agg #[.int .i64 F.ext,vl,vm,vd,vv,vp,vo],.agg #[vp0,vo0,va0],.bool lost] w fun e w'=>∃u,e=.returned u∧OwnKy w' w.heap.size u (keyL F r (condR lost) F.ext.toNat F.vols.length 0)∧Below w.heap.size w w':=by
 obtain⟨pb,pof,ob,oof,cp,co,rfl,rfl,hRp,hRo,hPA⟩:=polAt hf hok
 have HVA:=zh (fun(w':World) (hb:Below w.heap.size w w')=>rvalidate_any N hN vl vm vd vv _ _ F w' (hf.below hb) hok)
 have HPI:=zh (fun w1 h1=>pieces_any vp0 vo0 va0 r w1 h1 hp hl)
 have HRE:=zh (fun(w':World) (hb:Below w.heap.size w w')=>h.below hb)
 have HPD:=zh (pieces_drive r (by omega))
 obtain⟨EX,hEX,hEX1,hEX2⟩:∃n:Nat,F.ext=(n:Int)∧1≤n∧n≤2:=by rcases hok.ext with e | e <;> rw[e] <;> first | exact⟨1,rfl,by omega,by omega⟩ | exact⟨2,rfl,by omega,by omega⟩
 have hno:F.vols.length≤12:=by have:=hok.volN;omega
 obtain⟨KL,hKL⟩:∃f:Nat→Nat→List (Nat×Nat),f=keyL F r (condR lost) EX:=⟨_,rfl⟩
 have HKS:=zh (fun v s=>(show KL v (s+1)=KL v s++(if keyP F r (condR lost) (v,s)=true then [(v,s)] else []) from by rw[hKL];exact keyL_succ F r (condR lost) EX v s))
 have HKN:=zh (fun v=>(show KL v EX=KL (v+1) 0 from by rw[hKL];unfold keyL;rw[keysTo_next]))
 have HK0:=zh (show KL 0 0=[] from by rw[hKL];rfl)
 have HLE:=zh (fun v s (hv:v<13) (hs:s<13)=>(show(KL v s).length≤100 from by
  have h1:=keyL_len F r (condR lost) EX v s
  rw[hKL]
  have h2:v * EX≤12 * 2:=Nat.mul_le_mul (by omega) hEX2
  omega))
 rw[hEX] at HVA ⊢
 rw[show((EX:Int)).toNat=EX from by omega,show keyL F r (condR lost) EX F.vols.length 0=KL F.vols.length 0 from by rw[hKL]]
 obtain⟨NO,hNO⟩:=zx F.vols.length
 obtain⟨NP,hNP⟩:=zx F.pols.length
 have hnp:NP≤2:=by rw[hNP];exact hok.polN
 rw[←hNO] at hno HVA ⊢
 rw[←hNP] at HVA ⊢
 have HKQ:=zh (fun v (hv:v<NO)=>kmq_ok hok (show v<F.vols.length from by rw[←hNO];exact hv))
 have HPA:=zh hPA
 have HNN:=zh (show NO=F.vols.length∧NP=F.pols.length∧NO≤12∧NP≤2 from⟨hNO,hNP,hno,hnp⟩)
 have HBB:=zh (show pb<w.heap.size∧ob<w.heap.size from⟨hRp,hRo⟩)
 obtain⟨W0,hW0⟩:=zx ((w.alloc (.cells #[.int .i64 (EX:Int),vl,vm,vd,vv,.slice (some ⟨pb,pof,none⟩) NP cp,.slice (some ⟨ob,oof,none⟩) NO co] 35)).alloc (.cells #[vp0,vo0,va0] 40))
 obtain⟨z,hz⟩:=zx w.heap.size
 obtain⟨y,hy⟩:=zx (w.heap.size+1)
 have hb0:Below w.heap.size w W0:=by rw[hW0];exact((Below.refl _ _).alloc (Nat.le_refl _) _).alloc (by simp) _
 have hyk:W0.heap[y]?=some (.cells #[vp0,vo0,va0] 40 (0,0)):=by
  rw[hW0];exact heap_alloc_at _ _ _ (by rw[hy];simp)
 have hzk:W0.heap[z]?=some (.cells #[.int .i64 (EX:Int),vl,vm,vd,vv,.slice (some ⟨pb,pof,none⟩) NP cp,.slice (some ⟨ob,oof,none⟩) NO co] 35 (0,0)):=by
  rw[hW0,hz];exact(Below.heap_alloc _ _ _ (by simp)).trans (heap_alloc_new w _)
 have hyl:y<W0.heap.size:=(Array.getElem?_eq_some_iff.1 hyk).1
 have hzl:z<W0.heap.size:=(Array.getElem?_eq_some_iff.1 hzk).1
 have HC:=zh (fun(w':World) (hb:Below W0.heap.size W0 w')=>And.intro (cells7 ((hb.block z hzl).trans hzk)) (cells3 ((hb.block y hyl).trans hyk)))
 have HZL:=zh (And.intro hzl hyl)
 have HW0:=zh hW0
 have HZ:=zh hz
 have HY:=zh hy
 have HB0:=zh hb0
 obtain⟨⟨c0,c1,c2,c3,c4,c5,c6⟩,-⟩:=HC.out W0 (Below.refl _ _)
 have HEXB:=zh (And.intro hEX1 hEX2)
 clear hf hok h hPA hRp hRo hW0 hz hy hb0 hyk hzk hyl hzl hKL hEX hNO hNP hnp hEX1
 go_enter Tryz.func91,Tryz.ntmps91
 go_wp2_with fail
 rw[←HW0.out,←HY.out,←HZ.out]
 refine(HVA.out _ HB0.out).mono ?_
 rintro e w1 ⟨rfl,hb1⟩
 have HB1:=zh hb1
 clear c0 c1 c2 c3 c4 c5 c6 hb1
 obtain⟨-,d0,d1,d2,-⟩:=HC.out w1 HB1.out
 go_wp2_with fail
 have hre:=HRE.out w1 (HB0.out.trans (HB1.out.mono HB0.out.size))
 refine(HPI.out _ hre).mono ?_
 rintro e w2 ⟨vf,rfl,hof,hb2⟩
 have HB2:=zh (HB1.out.trans (hb2.mono HB1.out.size))
 have HOF:=zh (OwnFd.slBl hof HPD.out)
 clear d0 d1 d2 hb2 hre hof
 obtain⟨⟨c0,c1,c2,c3,c4,c5,c6⟩,-⟩:=HC.out w2 HB2.out
 go_wp2_with fail
 clear c0 c1 c2 c3 c4 c5 c6
 go_loopg [7,9] NO (fun z v7 v9 wr=>∃v:Nat,v≤NO∧z=NO - v∧v9=.int .i64 (v:Int)∧Hid (OwnKy wr w2.heap.size v7 (KL v 0))∧Hid (Below w2.heap.size w2 wr))
 case atStart=>exact⟨0,by omega,rfl,rfl,by rw[HK0.out];exact OwnKy.nil _ _,Below.refl _ _⟩
 case round =>
  obtain⟨v,hv,rfl,rfl,HO,HBR⟩:=hrel
  have h0R:=HB2.out.trans (HBR.out.mono HB2.out.size)
  obtain⟨⟨c0,c1,c2,c3,c4,c5,c6⟩,-⟩:=HC.out wr h0R
  by_cases hlt:v<NO
  ·-- L1{
   obtain⟨hpl,nm,hvol,a0,a4,a5,a6,a7,a8,a9,a10,a11,a12,a13,a14,a15,a16,hpol,hone⟩:=HPA.out v (by rw[←HNN.out.1];exact hlt)
   obtain⟨kk,m1,m2,q1,q2⟩:=HKQ.out v hlt
   obtain⟨KK,hK⟩:=zx (kOf F v)
   obtain⟨MM,hMM⟩:=zx (mOf F v)
   obtain⟨QQ,hQ⟩:=zx (qOf F v)
   obtain⟨p,hpp⟩:=zx (volP F v)
   rw[←hK,←hMM,←hQ] at hpol hone
   rw[←hpp] at hvol hpl hpol
   rw[←hK] at kk
   rw[←hMM] at m1 m2
   have hnp:=HNN.out.2.2.2
   have hpn:p<NP:=by rw[HNN.out.2.1];exact hpl
   have HCTV:=zh (fun(s:Nat) (on:Bool) (w':World) (hb:Below w.heap.size w w') (hb2:Below w2.heap.size w2 w')=>(rcounts_any (EX:Int) KK MM QQ vl vm vd vv vf vp0 vo0 va0 a0 a4 a5 a6 a7 a8 a9 a10 a11 a12 a13 a14 a15 a16 r (pieces r) (s:Int) on nm pb pof ob oof NP NO cp co v p w' hlt hpn (by omega) (by omega) (range_same hvol (hb.block ob HBB.out.2)) (range_same hpol (hb.block pb HBB.out.1)) hone (by omega) (by omega) (HRE.out w' hb) (SlS.below fdK HOF.out hb2)))
   have HPOV:=zh (fun(w':World) (hb:Below w.heap.size w w')=>(rpolicy_any (EX:Int) KK MM QQ vl vm vd vv a0 a4 a5 a6 a7 a8 a9 a10 a11 a12 a13 a14 a15 a16 nm pb pof ob oof NP NO cp co v p w' hlt hpn (by omega) (by omega) (range_same hvol (hb.block ob HBB.out.2)) (range_same hpol (hb.block pb HBB.out.1)) hone))
   have HKM:=zh (show KK=kOf F v∧MM=mOf F v from⟨hK,hMM⟩)
   have HLT:=zh hlt
   clear hvol hpol hone kk q1 q2 hK hMM hQ hpp hpl m1 m2 hnp hpn
   go_wp2_with fail
   clear c0 c1 c2 c3 c4 c5 c6
   go_loopg [7,10] EX (fun z v7 v10 wx=>∃s:Nat,s≤EX∧z=EX - s∧v10=.int .i64 (s:Int)∧Hid (OwnKy wx w2.heap.size v7 (KL v s))∧Hid (Below w2.heap.size w2 wx))
   case atStart=>exact⟨0,by omega,rfl,rfl,HO.out,HBR.out⟩
   case round =>
    clear HO HBR h0R
    obtain⟨s,hs,rfl,rfl,HO,HBR⟩:=hrel
    have h0x:=HB2.out.trans (HBR.out.mono HB2.out.size)
    obtain⟨⟨c0,c1,c2,c3,c4,c5,c6⟩,y0,y1,y2,-⟩:=HC.out wr h0x
    by_cases hls:s<EX
    ·-- L2{
     have i1:I64 (v:Int):=by have:=HNN.out;unfold I64;omega
     have i2:I64 (s:Int):=by have:=HEXB.out;unfold I64;omega
     have hb0x:=HB0.out.trans (h0x.mono HB0.out.size)
     have HVE:=zh (version_any va0 r.acks (v:Int) (s:Int) wr _ (HRE.out wr hb0x).2.2 i1 i2)
     obtain⟨OB,hOB⟩:=zx ((verOf r.acks (v:Int) (s:Int)).isSome)
     obtain⟨VX,hVX⟩:=zx ((verOf r.acks (v:Int) (s:Int)).getD 0)
     rw[←hOB,←hVX] at HVE
     obtain⟨NA,hNA⟩:=zx (cntI r v s false (KK+MM))
     obtain⟨NU,hNU⟩:=zx (cntI r v s true (KK+MM))
     obtain⟨GB,hGB⟩:=zx (decide (NA<KK))
     obtain⟨UB,hUB⟩:=zx (decide (NU<KK))
     have HKP:=zh (show keyP F r (condR lost) (v,s)=(OB&&condR lost NA NU KK) from by rw[hOB,hNA,hNU];unfold keyP;simp only;rw[HKM.out.1,HKM.out.2])
     have HGB:=zh hGB.symm
     have HUB:=zh hUB.symm
     have HCT:=zh (fun(on:Bool) (w':World) (hb:Below wr.heap.size wr w')=>(HCTV.out s on w' (hb0x.trans (hb.mono hb0x.size)) (HBR.out.trans (hb.mono HBR.out.size))))
     have HPO:=zh (fun(w':World) (hb:Below wr.heap.size wr w')=>HPOV.out w' (hb0x.trans (hb.mono hb0x.size)))
     have hct:∀on w' (hb:Below wr.heap.size wr w'),Calls Tryz.prog 131 #[.agg #[.int .i64 (EX:Int),vl,vm,vd,vv,.slice (some ⟨pb,pof,none⟩) NP cp,.slice (some ⟨ob,oof,none⟩) NO co],.agg #[vp0,vo0,va0],vf,.int .i64 (v:Int),.int .i64 (s:Int),.bool on] w' fun e w''=>e=.returned (.int .i64 (if on then NU else NA))∧Below w'.heap.size w' w'':=fun on w' hb=>by
      have h1:=HCT.out on w' hb
      cases on with
      | true=>rw[if_pos rfl,hNU];exact h1
      | false=>rw[if_neg (by decide),hNA];exact h1
     have hctF:∀w' (hb:Below wr.heap.size wr w'),Calls Tryz.prog 131 #[.agg #[.int .i64 (EX:Int),vl,vm,vd,vv,.slice (some ⟨pb,pof,none⟩) NP cp,.slice (some ⟨ob,oof,none⟩) NO co],.agg #[vp0,vo0,va0],vf,.int .i64 (v:Int),.int .i64 (s:Int),.bool false] w' fun e w''=>e=.returned (.int .i64 NA)∧Below w'.heap.size w' w'':=fun w' hb=>hct false w' hb
     have hctT:∀w' (hb:Below wr.heap.size wr w'),Calls Tryz.prog 131 #[.agg #[.int .i64 (EX:Int),vl,vm,vd,vv,.slice (some ⟨pb,pof,none⟩) NP cp,.slice (some ⟨ob,oof,none⟩) NO co],.agg #[vp0,vo0,va0],vf,.int .i64 (v:Int),.int .i64 (s:Int),.bool true] w' fun e w''=>e=.returned (.int .i64 NU)∧Below w'.heap.size w' w'':=fun w' hb=>hct true w' hb
     clear HCT
     have HCF:=zh hctF
     have HCU:=zh hctT
     have HLT:=zh hls
     have HLV:=zh (show v<NO∧v<13∧EX≤2 from⟨by have:=HLT.out;omega,by have:=HNN.out;omega,HEXB.out.2⟩)
     have HZY:=zh (show z<wr.heap.size∧y<wr.heap.size from⟨Nat.lt_of_lt_of_le HZL.out.1 h0x.size,Nat.lt_of_lt_of_le HZL.out.2 h0x.size⟩)
     have HS12:=zh (show HeldY wr z y (.int .i64 (EX:Int)) vl vm vd vv (.slice (some ⟨pb,pof,none⟩) NP cp) (.slice (some ⟨ob,oof,none⟩) NO co) vp0 vo0 va0 wr.drew from⟨c0,c1,c2,c3,c4,c5,c6,y0,y1,y2,(Below.refl _ _).drew⟩)
     obtain⟨n8,hn8⟩:=zx ((KL v s).length)
     obtain⟨A8,c8,hv8⟩:=HO.out.form
     rw[←hn8] at hv8
     have HN8:=zh hn8
     subst hv8
     have HOW2:=zh (fun(w':World) (hb:Below wr.heap.size wr w')=>(show w'.ownsRow w2.heap.size 67 2 (.slice A8 n8 c8) n8 ((KL v s).flatMap keyC) from by (have h1:=HO.out.below hb;unfold OwnKy at h1;rw[←hn8] at h1;exact h1)))
     clear hOB hVX hNA hNU hGB hUB hct hctF hctT hn8 i1 i2 hb0x h0x
     go_wp2_with fail
     refine HVE.out.mono ?_
     rintro e w3 ⟨rfl,rfl⟩
     clear c0 c1 c2 c3 c4 c5 c6 y0 y1 y2
     have hfd:=fun w=>pol_field1 a0 (.int .i64 KK) (.int .i64 MM) (.int .i64 QQ) a4 a5 a6 a7 a8 a9 a10 a11 a12 a13 a14 a15 a16 w
     go_upto_region 12 with fail
     refine region_tail (S:=(fun w'=>w'.cell? ⟨z,0,none⟩=some (.int .i64 (EX:Int))∧w'.cell? ⟨z,1,none⟩=some (vl)∧w'.cell? ⟨z,2,none⟩=some (vm)∧w'.cell? ⟨z,3,none⟩=some (vd)∧w'.cell? ⟨z,4,none⟩=some (vv)∧w'.cell? ⟨z,5,none⟩=some (.slice (some ⟨pb,pof,none⟩) NP cp)∧w'.cell? ⟨z,6,none⟩=some (.slice (some ⟨ob,oof,none⟩) NO co)∧w'.cell? ⟨y,0,none⟩=some vp0∧w'.cell? ⟨y,1,none⟩=some vo0∧w'.cell? ⟨y,2,none⟩=some va0∧Below wr.heap.size wr w')) [] (by kernel_rfl) HS12.out (fun hHeld=>?_)
     refine tk 0 40 ?_
     refine tk 1 41 ?_
     refine tk 2 42 ?_
     refine tk 3 43 ?_
     refine tk 4 44 ?_
     refine tk 6 46 ?_
     refine tk 7 47 ?_
     refine readyT (rs:=[5]) (by kernel_rfl) (by simp) ?_
     refine AllReadyT.cons rfl (fun K hK=>?_) ?_
     ·go_simp
      (go_at_call 131;refine(HCF.out _ (HeldY.bl (by assumption))).mono ?_;rintro e w5 ⟨rfl,hb5⟩)
      go_wp2_with fail
      refine hK.out _ _ ?_ (fun hHeld=>?_)
      ·(first|assumption|exact HeldY.below (by assumption) hb5 HZY.out.1 HZY.out.2|exact HeldY.below (by assumption) hb6 HZY.out.1 HZY.out.2)
      clear hK K
      (try simp only[Act.put,z1,z2,z3])
      refine readyT (rs:=[8]) (by kernel_rfl) (by simp) ?_
      refine AllReadyT.cons rfl (fun K hK=>?_) ?_
      ·go_simp
       (go_at_call 132;refine(HPO.out _ (HeldY.bl (by assumption))).mono ?_;rintro e w6 ⟨rfl,hb6⟩)
       go_wp2_with fail
       refine hK.out _ _ ?_ (fun hHeld=>?_)
       ·(first|assumption|exact HeldY.below (by assumption) hb5 HZY.out.1 HZY.out.2|exact HeldY.below (by assumption) hb6 HZY.out.1 HZY.out.2)
       clear hK K
       (try simp only[Act.put,z1,z2,z3])
       refine tk 9 49 ?_
       refine tk 10 50 ?_
       refine tk 11 13 ?_
       refine doneT (by kernel_rfl) ?_ _
       have HBZ:=zh (HeldY.bl hHeld)
       obtain⟨wz,hwz⟩:=zx (w6:World)
       rw[←hwz] at HBZ hHeld ⊢
       rw[HGB.out]
       clear hwz hb5 hb6
       cases OB with
       | false =>
        go_upto_region 13 with fail
        go_quiet (fail)
        have HBE:=zh (HBZ.out.trans ((Below.drewN' (Below.refl wz.heap.size wz) nq).mono HBZ.out.size))
        have HKV:keyP F r (condR lost) (v,s)=false:=by rw[HKP.out];rfl
        go_wp2_with fail
        go_roundg (EX - (s+1))
        case measure=>have:=HLT.out;omega
        case rel=>exact⟨s+1,by have:=HLT.out;omega,rfl,by go_num,by rw[HKS.out,HKV,if_neg (by decide),List.append_nil];exact HO.out.below HBE.out,HBR.out.trans (HBE.out.mono HBR.out.size)⟩
       | true =>
        cases lost with
        | true =>
         cases GB with
         | true =>
          go_upto_region 13 with fail
          go_quiet (fail)
          have HBE:=zh (HBZ.out.trans ((Below.drewN' (Below.refl wz.heap.size wz) nq).mono HBZ.out.size))
          have HKV:keyP F r (condR true) (v,s)=true:=by rw[HKP.out];unfold condR;rw[HGB.out];rfl
          go_wp2_with (at_builtin;refine app_ky v s (.tmp 79) (.tmp 83) rfl rfl w2.heap.size (.slice A8 n8 c8) n8 (KL v s) HN8.out.symm (by rfl) (HOW2.out _ HBE.out) (by rfl) (by have:=HLE.out v s HLV.out.2.1 (by have:=HLT.out;have:=HLV.out;omega);have:=HN8.out;omega) (Nat.le_trans HBR.out.size HBE.out.size) ?_;intro v9 w9 hown9 hg9 hat9;have HO9:=zh hown9;have HG9:=zh hg9;clear hown9 hg9 hat9)
          go_roundg (EX - (s+1))
          case measure=>have:=HLT.out;omega
          case rel=>exact⟨s+1,by have:=HLT.out;omega,rfl,by go_num,by rw[HKS.out,HKV,if_pos rfl];exact HO9.out,(HBR.out.trans (HBE.out.mono HBR.out.size)).grown HG9.out (Nat.le_trans HBR.out.size HBE.out.size) (fun b e=>(HO.out.lt b e).1)⟩
         | false =>
          go_upto_region 13 with fail
          go_quiet (fail)
          have HBE:=zh (HBZ.out.trans ((Below.drewN' (Below.refl wz.heap.size wz) nq).mono HBZ.out.size))
          have HKV:keyP F r (condR true) (v,s)=false:=by rw[HKP.out];unfold condR;rw[HGB.out];rfl
          go_wp2_with fail
          go_roundg (EX - (s+1))
          case measure=>have:=HLT.out;omega
          case rel=>exact⟨s+1,by have:=HLT.out;omega,rfl,by go_num,by rw[HKS.out,HKV,if_neg (by decide),List.append_nil];exact HO.out.below HBE.out,HBR.out.trans (HBE.out.mono HBR.out.size)⟩
        | false =>
         cases GB with
         | true =>
          go_upto_region 13 with fail
          go_quiet (fail)
          have HBE:=zh (HBZ.out.trans ((Below.drewN' (Below.refl wz.heap.size wz) nq).mono HBZ.out.size))
          have HKV:keyP F r (condR false) (v,s)=false:=by rw[HKP.out];unfold condR;rw[HGB.out];rfl
          go_wp2_with fail
          go_roundg (EX - (s+1))
          case measure=>have:=HLT.out;omega
          case rel=>exact⟨s+1,by have:=HLT.out;omega,rfl,by go_num,by rw[HKS.out,HKV,if_neg (by decide),List.append_nil];exact HO.out.below HBE.out,HBR.out.trans (HBE.out.mono HBR.out.size)⟩
         | false =>
          go_upto_region 13 with fail
          have HSZ:=zh (show HeldY wz z y (.int .i64 (EX:Int)) vl vm vd vv (.slice (some ⟨pb,pof,none⟩) NP cp) (.slice (some ⟨ob,oof,none⟩) NO co) vp0 vo0 va0 wz.drew from HeldY.start (W0:=wr) hHeld)
          have HZZ:=zh (show z<wz.heap.size∧y<wz.heap.size from⟨Nat.lt_of_lt_of_le HZY.out.1 HBZ.out.size,Nat.lt_of_lt_of_le HZY.out.2 HBZ.out.size⟩)
          clear hHeld
          refine region_tail (S:=(fun w'=>w'.cell? ⟨z,0,none⟩=some (.int .i64 (EX:Int))∧w'.cell? ⟨z,1,none⟩=some (vl)∧w'.cell? ⟨z,2,none⟩=some (vm)∧w'.cell? ⟨z,3,none⟩=some (vd)∧w'.cell? ⟨z,4,none⟩=some (vv)∧w'.cell? ⟨z,5,none⟩=some (.slice (some ⟨pb,pof,none⟩) NP cp)∧w'.cell? ⟨z,6,none⟩=some (.slice (some ⟨ob,oof,none⟩) NO co)∧w'.cell? ⟨y,0,none⟩=some vp0∧w'.cell? ⟨y,1,none⟩=some vo0∧w'.cell? ⟨y,2,none⟩=some va0∧Below wz.heap.size wz w')) [] (by kernel_rfl) HSZ.out (fun hHeld=>?_)
          refine tk 0 51 ?_
          refine tk 1 52 ?_
          refine tk 2 53 ?_
          refine tk 3 54 ?_
          refine takeT (i:=4) (d:=55) (v:=undef) rfl rfl (by kernel_rfl) (by kernel_rfl) (by kernel_rfl) (by kernel_rfl) (fun _ _ _ h=>h) (Or.inr ⟨by kernel_rfl,rfl⟩) (by assumption) ?_
          (try simp only[Act.put,z1,z2,z3])
          refine tk 5 56 ?_
          refine tk 6 57 ?_
          refine tk 7 58 ?_
          refine tk 8 59 ?_
          refine tk 9 60 ?_
          refine tk 10 61 ?_
          refine tk 11 62 ?_
          refine tk 12 63 ?_
          refine tk 13 64 ?_
          refine tk 14 65 ?_
          refine tk 15 66 ?_
          refine tk 16 67 ?_
          refine tk 17 68 ?_
          refine tk 18 69 ?_
          refine tk 20 71 ?_
          refine tk 21 72 ?_
          refine readyT (rs:=[19]) (by kernel_rfl) (by simp) ?_
          refine AllReadyT.cons rfl (fun K hK=>?_) ?_
          ·go_simp
           (go_at_call 131;refine(HCU.out _ (HBZ.out.trans ((HeldY.bl (by assumption)).mono HBZ.out.size))).mono ?_;rintro e w7 ⟨rfl,hb7⟩)
           go_wp2_with fail
           refine hK.out _ _ ?_ (fun hHeld=>?_)
           ·(first|assumption|exact HeldY.below (by assumption) hb7 HZZ.out.1 HZZ.out.2|exact HeldY.below (by assumption) hb8 HZZ.out.1 HZZ.out.2)
           clear hK K
           (try simp only[Act.put,z1,z2,z3])
           refine readyT (rs:=[22]) (by kernel_rfl) (by simp) ?_
           refine AllReadyT.cons rfl (fun K hK=>?_) ?_
           ·go_simp
            (go_at_call 132;refine(HPO.out _ (HBZ.out.trans ((HeldY.bl (by assumption)).mono HBZ.out.size))).mono ?_;rintro e w8 ⟨rfl,hb8⟩)
            go_wp2_with fail
            refine hK.out _ _ ?_ (fun hHeld=>?_)
            ·(first|assumption|exact HeldY.below (by assumption) hb7 HZZ.out.1 HZZ.out.2|exact HeldY.below (by assumption) hb8 HZZ.out.1 HZZ.out.2)
            clear hK K
            (try simp only[Act.put,z1,z2,z3])
            refine tk 23 74 ?_
            refine tk 24 75 ?_
            refine tk 25 76 ?_
            refine tk 26 77 ?_
            refine tk 27 78 ?_
            refine doneT (by kernel_rfl) ?_ _
            have HBE:=zh (HBZ.out.trans ((HeldY.bl hHeld).mono HBZ.out.size))
            clear hHeld hb7 hb8
            rw[HUB.out]
            cases UB with
            | true =>
             have HKV:keyP F r (condR false) (v,s)=true:=by rw[HKP.out];unfold condR;rw[HGB.out,HUB.out];rfl
             go_wp2_with (at_builtin;refine app_ky v s (.tmp 79) (.tmp 83) rfl rfl w2.heap.size (.slice A8 n8 c8) n8 (KL v s) HN8.out.symm (by rfl) (HOW2.out _ HBE.out) (by rfl) (by have:=HLE.out v s HLV.out.2.1 (by have:=HLT.out;have:=HLV.out;omega);have:=HN8.out;omega) (Nat.le_trans HBR.out.size HBE.out.size) ?_;intro v9 w9 hown9 hg9 hat9;have HO9:=zh hown9;have HG9:=zh hg9;clear hown9 hg9 hat9)
             go_roundg (EX - (s+1))
             case measure=>have:=HLT.out;omega
             case rel=>exact⟨s+1,by have:=HLT.out;omega,rfl,by go_num,by rw[HKS.out,HKV,if_pos rfl];exact HO9.out,(HBR.out.trans (HBE.out.mono HBR.out.size)).grown HG9.out (Nat.le_trans HBR.out.size HBE.out.size) (fun b e=>(HO.out.lt b e).1)⟩
            | false =>
             have HKV:keyP F r (condR false) (v,s)=false:=by rw[HKP.out];unfold condR;rw[HGB.out,HUB.out];rfl
             go_wp2_with fail
             go_roundg (EX - (s+1))
             case measure=>have:=HLT.out;omega
             case rel=>exact⟨s+1,by have:=HLT.out;omega,rfl,by go_num,by rw[HKS.out,HKV,if_neg (by decide),List.append_nil];exact HO.out.below HBE.out,HBR.out.trans (HBE.out.mono HBR.out.size)⟩
           exact AllReadyT.nil
          exact AllReadyT.nil
      exact AllReadyT.nil
     exact AllReadyT.nil
    ·-- R2{
     obtain rfl:EX=s:=by omega
     go_wp2_with fail
     go_roundg (NO - (v+1))
     case measure=>have:=HLT.out;omega
     case rel=>exact⟨v+1,by have:=HLT.out;omega,rfl,by go_num,by rw[←HKN.out];exact HO.out,HBR.out⟩
  ·-- R1{
   obtain rfl:NO=v:=by omega
   go_wp2_with fail
   go_ret
   exact⟨_,rfl,HO.out.base (Nat.le_trans HB0.out.size HB2.out.size),HB0.out.trans (h0R.mono HB0.out.size)⟩
end Go.Proofs.YtcfkllnpkmebpaaGreatDoor

namespace Go.Proofs.YtcfkllnpkmebpaaGreatDoor
open Go.RowKit
set_option linter.unusedVariables false
set_option linter.unusedSimpArgs false
theorem lost1_any(a u k:Int) (w:World):Calls Tryz.prog 80 #[.int .i64 a,.int .i64 u,.int .i64 k] w fun e w'=>e=.returned (.bool (condR true a u k))∧w=w':=by
 have hc:condR true a u k=decide (a<k):=rfl
 rw[hc]
 go_enter Tryz.func80,Tryz.ntmps80
 go_wp2_with fail
 go_ret
 exact⟨rfl,rfl⟩
theorem un1_any(a u k:Int) (w:World):Calls Tryz.prog 68 #[.int .i64 a,.int .i64 u,.int .i64 k] w fun e w'=>e=.returned (.bool (condR false a u k))∧w=w':=by
 by_cases h1:k≤a
 ·have hc:condR false a u k=decide (u<k):=by unfold condR;rw[decide_eq_false (by omega)];simp
  rw[hc]
  have hge:decide (k≤a)=true:=decide_eq_true h1
  go_enter Tryz.func68,Tryz.ntmps68
  go_wp2_with fail
  go_ret
  exact⟨rfl,rfl⟩
 ·have hc:condR false a u k=false:=by unfold condR;rw[decide_eq_true (by omega)];simp
  rw[hc]
  have hge:decide (k≤a)=false:=decide_eq_false h1
  go_enter Tryz.func68,Tryz.ntmps68
  go_wp2_with fail
  go_ret
  exact⟨rfl,rfl⟩
theorem fvalidate_empty(w:World):Calls Tryz.prog 48 #[.agg #[.int .i64 0,.slice none 0 0,.slice none 0 0,.slice none 0 0,.slice none 0 0,.slice none 0 0,.slice none 0 0]] w fun e w'=>e=.returned (.int .i64 1)∧Below w.heap.size w w':=by
 have HI:=zh (fun w=>fin_any 0 1 4 w)
 rw[decide_eq_false (show ¬((1:Int)≤0∧(0:Int)≤4) by omega)] at HI
 go_enter Tryz.func48,Tryz.ntmps48
 go_wp2_with fail
 refine(HI.out _).mono ?_
 rintro e w1 ⟨rfl,rfl⟩
 go_wp2_with fail
 go_ret
 exact⟨rfl,(Below.refl _ _).alloc (Nat.le_refl _) _⟩
theorem lost_any(N:Nat) (hN:N≤12) (vl vm vd vv vp vo vp0 vo0 va0:Value) (F:FltM) (r:Re) (w:World) (hf:FleetS w (Bl w.heap.size) vl vm vd vv vp vo F) (hok:FleetOk N F) (h:ReS w (Bl w.heap.size) vp0 vo0 va0 r) (hp:r.plat.length≤1000) (hl:∀l∈r.plat,l.length≤1000) (hac:r.acks.length≤1000000) :
  Calls Tryz.prog 29 #[.agg #[.int .i64 F.ext,vl,vm,vd,vv,vp,vo],.agg #[vp0,vo0,va0]] w fun e w'=>∃u,e=.returned u∧OwnKy w' w.heap.size u (keyL F r (condR true) F.ext.toNat F.vols.length 0)∧Below w.heap.size w w':=by
 obtain⟨W0,hW0⟩:=zx ((w.alloc (.cells #[.int .i64 F.ext,vl,vm,vd,vv,vp,vo] 35)).alloc (.cells #[vp0,vo0,va0] 40))
 obtain⟨z,hz⟩:=zx w.heap.size
 obtain⟨y,hy⟩:=zx (w.heap.size+1)
 have hb0:Below w.heap.size w W0:=by rw[hW0];exact((Below.refl _ _).alloc (Nat.le_refl _) _).alloc (by simp) _
 have hyk:W0.heap[y]?=some (.cells #[vp0,vo0,va0] 40 (0,0)):=by
  rw[hW0];exact heap_alloc_at _ _ _ (by rw[hy];simp)
 have hzk:W0.heap[z]?=some (.cells #[.int .i64 F.ext,vl,vm,vd,vv,vp,vo] 35 (0,0)):=by
  rw[hW0,hz];exact(Below.heap_alloc _ _ _ (by simp)).trans (heap_alloc_new w _)
 obtain⟨c0,c1,c2,c3,c4,c5,c6⟩:=cells7 hzk
 obtain⟨d0,d1,d2,-⟩:=cells3 hyk
 have HV:=zh (missingL_any (condR true) lost1_any N hN vl vm vd vv vp vo vp0 vo0 va0 F r W0 (hf.below hb0) hok (h.below hb0) hp hl hac)
 have HW0:=zh hW0
 have HZ:=zh hz
 have HY:=zh hy
 have HB0:=zh hb0
 obtain⟨EX,hEX⟩:=zx F.ext
 obtain⟨KL,hKL⟩:=zx (keyL F r (condR true) F.ext.toNat F.vols.length 0)
 rw[←hKL] at HV ⊢
 rw[←hEX] at HV HW0 c0 ⊢
 clear hf hok h hp hl hac hW0 hz hy hb0 hzk hyk hEX hKL
 go_enter Tryz.func29,Tryz.ntmps29
 go_upto_region 1 with fail
 rw[←HW0.out,←HY.out,←HZ.out]
 go_wp2_with fail
 refine HV.out.mono ?_
 rintro e w1 ⟨u,rfl,ho,hb1⟩
 have HB1:=zh hb1
 have HO:=zh ho
 clear c0 c1 c2 c3 c4 c5 c6 d0 d1 d2 hb1 ho
 go_wp2_with fail
 go_ret
 exact⟨_,rfl,HO.out.base HB0.out.size,HB0.out.trans (HB1.out.mono HB0.out.size)⟩
theorem unav_any(N:Nat) (hN:N≤12) (vl vm vd vv vp vo vp0 vo0 va0:Value) (F:FltM) (r:Re) (w:World) (hf:FleetS w (Bl w.heap.size) vl vm vd vv vp vo F) (hok:FleetOk N F) (h:ReS w (Bl w.heap.size) vp0 vo0 va0 r) (hp:r.plat.length≤1000) (hl:∀l∈r.plat,l.length≤1000) (hac:r.acks.length≤1000000) :
  Calls Tryz.prog 26 #[.agg #[.int .i64 F.ext,vl,vm,vd,vv,vp,vo],.agg #[vp0,vo0,va0]] w fun e w'=>∃u,e=.returned u∧OwnKy w' w.heap.size u (keyL F r (condR false) F.ext.toNat F.vols.length 0)∧Below w.heap.size w w':=by
 obtain⟨W0,hW0⟩:=zx ((w.alloc (.cells #[.int .i64 F.ext,vl,vm,vd,vv,vp,vo] 35)).alloc (.cells #[vp0,vo0,va0] 40))
 obtain⟨z,hz⟩:=zx w.heap.size
 obtain⟨y,hy⟩:=zx (w.heap.size+1)
 have hb0:Below w.heap.size w W0:=by rw[hW0];exact((Below.refl _ _).alloc (Nat.le_refl _) _).alloc (by simp) _
 have hyk:W0.heap[y]?=some (.cells #[vp0,vo0,va0] 40 (0,0)):=by
  rw[hW0];exact heap_alloc_at _ _ _ (by rw[hy];simp)
 have hzk:W0.heap[z]?=some (.cells #[.int .i64 F.ext,vl,vm,vd,vv,vp,vo] 35 (0,0)):=by
  rw[hW0,hz];exact(Below.heap_alloc _ _ _ (by simp)).trans (heap_alloc_new w _)
 obtain⟨c0,c1,c2,c3,c4,c5,c6⟩:=cells7 hzk
 obtain⟨d0,d1,d2,-⟩:=cells3 hyk
 have HV:=zh (missingU_any (condR false) un1_any N hN vl vm vd vv vp vo vp0 vo0 va0 F r W0 (hf.below hb0) hok (h.below hb0) hp hl hac)
 have HW0:=zh hW0
 have HZ:=zh hz
 have HY:=zh hy
 have HB0:=zh hb0
 obtain⟨EX,hEX⟩:=zx F.ext
 obtain⟨KL,hKL⟩:=zx (keyL F r (condR false) F.ext.toNat F.vols.length 0)
 rw[←hKL] at HV ⊢
 rw[←hEX] at HV HW0 c0 ⊢
 clear hf hok h hp hl hac hW0 hz hy hb0 hzk hyk hEX hKL
 go_enter Tryz.func26,Tryz.ntmps26
 go_upto_region 1 with fail
 rw[←HW0.out,←HY.out,←HZ.out]
 go_wp2_with fail
 refine HV.out.mono ?_
 rintro e w1 ⟨u,rfl,ho,hb1⟩
 have HB1:=zh hb1
 have HO:=zh ho
 clear c0 c1 c2 c3 c4 c5 c6 d0 d1 d2 hb1 ho
 go_wp2_with fail
 go_ret
 exact⟨_,rfl,HO.out.base HB0.out.size,HB0.out.trans (HB1.out.mono HB0.out.size)⟩
theorem rlost_any(N:Nat) (hN:N≤12) (vl vm vd vv vp vo vp0 vo0 va0:Value) (F:FltM) (r:Re) (w:World) (hf:FleetS w (Bl w.heap.size) vl vm vd vv vp vo F) (hok:FleetOk N F) (h:ReS w (Bl w.heap.size) vp0 vo0 va0 r) (hp:r.plat.length≤1000) (hl:∀l∈r.plat,l.length≤1000) :
  Calls Tryz.prog 37 #[.agg #[.int .i64 F.ext,vl,vm,vd,vv,vp,vo],.agg #[vp0,vo0,va0]] w fun e w'=>∃u,e=.returned u∧OwnKy w' w.heap.size u (keyL F r (condR true) F.ext.toNat F.vols.length 0)∧Below w.heap.size w w':=by
 obtain⟨W0,hW0⟩:=zx ((w.alloc (.cells #[.int .i64 F.ext,vl,vm,vd,vv,vp,vo] 35)).alloc (.cells #[vp0,vo0,va0] 40))
 obtain⟨z,hz⟩:=zx w.heap.size
 obtain⟨y,hy⟩:=zx (w.heap.size+1)
 have hb0:Below w.heap.size w W0:=by rw[hW0];exact((Below.refl _ _).alloc (Nat.le_refl _) _).alloc (by simp) _
 have hyk:W0.heap[y]?=some (.cells #[vp0,vo0,va0] 40 (0,0)):=by
  rw[hW0];exact heap_alloc_at _ _ _ (by rw[hy];simp)
 have hzk:W0.heap[z]?=some (.cells #[.int .i64 F.ext,vl,vm,vd,vv,vp,vo] 35 (0,0)):=by
  rw[hW0,hz];exact(Below.heap_alloc _ _ _ (by simp)).trans (heap_alloc_new w _)
 obtain⟨c0,c1,c2,c3,c4,c5,c6⟩:=cells7 hzk
 obtain⟨d0,d1,d2,-⟩:=cells3 hyk
 have HV:=zh (stripes_any true N hN vl vm vd vv vp vo vp0 vo0 va0 F r W0 (hf.below hb0) hok (h.below hb0) hp hl)
 have HW0:=zh hW0
 have HZ:=zh hz
 have HY:=zh hy
 have HB0:=zh hb0
 obtain⟨EX,hEX⟩:=zx F.ext
 obtain⟨KL,hKL⟩:=zx (keyL F r (condR true) F.ext.toNat F.vols.length 0)
 rw[←hKL] at HV ⊢
 rw[←hEX] at HV HW0 c0 ⊢
 clear hf hok h hp hl hW0 hz hy hb0 hzk hyk hEX hKL
 go_enter Tryz.func37,Tryz.ntmps37
 go_upto_region 1 with fail
 rw[←HW0.out,←HY.out,←HZ.out]
 go_wp2_with fail
 refine HV.out.mono ?_
 rintro e w1 ⟨u,rfl,ho,hb1⟩
 have HB1:=zh hb1
 have HO:=zh ho
 clear c0 c1 c2 c3 c4 c5 c6 d0 d1 d2 hb1 ho
 go_wp2_with fail
 go_ret
 exact⟨_,rfl,HO.out.base HB0.out.size,HB0.out.trans (HB1.out.mono HB0.out.size)⟩
theorem runav_any(N:Nat) (hN:N≤12) (vl vm vd vv vp vo vp0 vo0 va0:Value) (F:FltM) (r:Re) (w:World) (hf:FleetS w (Bl w.heap.size) vl vm vd vv vp vo F) (hok:FleetOk N F) (h:ReS w (Bl w.heap.size) vp0 vo0 va0 r) (hp:r.plat.length≤1000) (hl:∀l∈r.plat,l.length≤1000) :
  Calls Tryz.prog 38 #[.agg #[.int .i64 F.ext,vl,vm,vd,vv,vp,vo],.agg #[vp0,vo0,va0]] w fun e w'=>∃u,e=.returned u∧OwnKy w' w.heap.size u (keyL F r (condR false) F.ext.toNat F.vols.length 0)∧Below w.heap.size w w':=by
 obtain⟨W0,hW0⟩:=zx ((w.alloc (.cells #[.int .i64 F.ext,vl,vm,vd,vv,vp,vo] 35)).alloc (.cells #[vp0,vo0,va0] 40))
 obtain⟨z,hz⟩:=zx w.heap.size
 obtain⟨y,hy⟩:=zx (w.heap.size+1)
 have hb0:Below w.heap.size w W0:=by rw[hW0];exact((Below.refl _ _).alloc (Nat.le_refl _) _).alloc (by simp) _
 have hyk:W0.heap[y]?=some (.cells #[vp0,vo0,va0] 40 (0,0)):=by
  rw[hW0];exact heap_alloc_at _ _ _ (by rw[hy];simp)
 have hzk:W0.heap[z]?=some (.cells #[.int .i64 F.ext,vl,vm,vd,vv,vp,vo] 35 (0,0)):=by
  rw[hW0,hz];exact(Below.heap_alloc _ _ _ (by simp)).trans (heap_alloc_new w _)
 obtain⟨c0,c1,c2,c3,c4,c5,c6⟩:=cells7 hzk
 obtain⟨d0,d1,d2,-⟩:=cells3 hyk
 have HV:=zh (stripes_any false N hN vl vm vd vv vp vo vp0 vo0 va0 F r W0 (hf.below hb0) hok (h.below hb0) hp hl)
 have HW0:=zh hW0
 have HZ:=zh hz
 have HY:=zh hy
 have HB0:=zh hb0
 obtain⟨EX,hEX⟩:=zx F.ext
 obtain⟨KL,hKL⟩:=zx (keyL F r (condR false) F.ext.toNat F.vols.length 0)
 rw[←hKL] at HV ⊢
 rw[←hEX] at HV HW0 c0 ⊢
 clear hf hok h hp hl hW0 hz hy hb0 hzk hyk hEX hKL
 go_enter Tryz.func38,Tryz.ntmps38
 go_upto_region 1 with fail
 rw[←HW0.out,←HY.out,←HZ.out]
 go_wp2_with fail
 refine HV.out.mono ?_
 rintro e w1 ⟨u,rfl,ho,hb1⟩
 have HB1:=zh hb1
 have HO:=zh ho
 clear c0 c1 c2 c3 c4 c5 c6 d0 d1 d2 hb1 ho
 go_wp2_with fail
 go_ret
 exact⟨_,rfl,HO.out.base HB0.out.size,HB0.out.trans (HB1.out.mono HB0.out.size)⟩
end Go.Proofs.YtcfkllnpkmebpaaGreatDoor

namespace Go.Proofs.YtcfkllnpkmebpaaGreatDoor
open Go.RowKit
set_option linter.unusedVariables false
set_option linter.unusedSimpArgs false
def lightB(r:Re):Bool:=decide (r.plat.length≤12∧r.on.length≤30∧r.acks.length≤30)&&r.plat.all fun l=>decide (l.length≤20)
theorem lightB_iff(r:Re):lightB r=true↔r.plat.length≤12∧r.on.length≤30∧r.acks.length≤30∧∀l∈r.plat,l.length≤20:=by
 unfold lightB
 simp only[Bool.and_eq_true,decide_eq_true_eq,List.all_eq_true]
 constructor
 ·rintro ⟨⟨a,b,c⟩,d⟩;exact⟨a,b,c,d⟩
 ·rintro ⟨a,b,c,d⟩;exact⟨⟨a,b,c⟩,d⟩
theorem lightB_no{r:Re} (h:¬(r.plat.length≤12∧r.on.length≤30∧r.acks.length≤30∧∀l∈r.plat,l.length≤20)):lightB r=false:=by
 cases hb:lightB r with
 | false=>rfl
 | true=>exact absurd ((lightB_iff r).1 hb) h
end Go.Proofs.YtcfkllnpkmebpaaGreatDoor

namespace Go.Proofs.YtcfkllnpkmebpaaGreatDoor
open Go.RowKit
set_option linter.unusedVariables false
set_option linter.unusedSimpArgs false
end Go.Proofs.YtcfkllnpkmebpaaGreatDoor

namespace Go.Proofs.YtcfkllnpkmebpaaGreatDoor
open Go.RowKit
set_option linter.unusedVariables false
set_option linter.unusedSimpArgs false
def HeldL(W0:World) (g p q:Nat) (a b c d e f h y0 y1 y2 z0 z1 z2:Value) (w':World):Prop :=
 w'.cell? ⟨g,0,none⟩=some a∧w'.cell? ⟨g,1,none⟩=some b∧w'.cell? ⟨g,2,none⟩=some c∧w'.cell? ⟨g,3,none⟩=some d∧w'.cell? ⟨g,4,none⟩=some e∧w'.cell? ⟨g,5,none⟩=some f∧w'.cell? ⟨g,6,none⟩=some h ∧
 w'.cell? ⟨p,0,none⟩=some y0∧w'.cell? ⟨p,1,none⟩=some y1∧w'.cell? ⟨p,2,none⟩=some y2∧w'.cell? ⟨q,0,none⟩=some z0∧w'.cell? ⟨q,1,none⟩=some z1∧w'.cell? ⟨q,2,none⟩=some z2∧Below W0.heap.size W0 w'
theorem HeldL.bl{W0 wc:World} {g p q:Nat} {a b c d e f h y0 y1 y2 z0 z1 z2:Value} (k:HeldL W0 g p q a b c d e f h y0 y1 y2 z0 z1 z2 wc):Below W0.heap.size W0 wc:=k.2.2.2.2.2.2.2.2.2.2.2.2.2
theorem HeldL.below{W0 wc w2:World} {g p q:Nat} {a b c d e f h y0 y1 y2 z0 z1 z2:Value} (k:HeldL W0 g p q a b c d e f h y0 y1 y2 z0 z1 z2 wc) (hb:Below wc.heap.size wc w2) (hg:g<W0.heap.size) (hp:p<W0.heap.size) (hq:q<W0.heap.size):HeldL W0 g p q a b c d e f h y0 y1 y2 z0 z1 z2 w2:=by
 have hs:=k.bl.size
 have hB:=k.bl
 obtain⟨c0,c1,c2,c3,c4,c5,c6,d0,d1,d2,e0,e1,e2,-⟩:=k
 have m:∀b,b<W0.heap.size→∀i x,wc.cell? ⟨b,i,none⟩=some x→w2.cell? ⟨b,i,none⟩=some x:=fun b h1 i x hx=>(hb.cell (p:=⟨b,i,none⟩) (Nat.lt_of_lt_of_le h1 hs)).trans hx
 exact⟨m g hg _ _ c0,m g hg _ _ c1,m g hg _ _ c2,m g hg _ _ c3,m g hg _ _ c4,m g hg _ _ c5,m g hg _ _ c6,m p hp _ _ d0,m p hp _ _ d1,m p hp _ _ d2,m q hq _ _ e0,m q hq _ _ e1,m q hq _ _ e2,hB.trans (hb.mono hs)⟩
end Go.Proofs.YtcfkllnpkmebpaaGreatDoor

namespace Go.Proofs.YtcfkllnpkmebpaaGreatDoor
open Go.RowKit
set_option linter.unusedVariables false
set_option linter.unusedSimpArgs false
theorem light44_any(vp vo va:Value) (r:Re) (w:World) (h:ReS w (Bl w.heap.size) vp vo va r) :
  Calls Tryz.prog 22 #[.agg #[vp,vo,va]] w fun e w'=>e=.returned (.bool (lightB r))∧Below w.heap.size w w':=by
 obtain⟨Ap,cp,rfl,-,hmp⟩:=h.1.form
 obtain⟨Ao,co,rfl,-,hmo⟩:=h.2.1.form
 obtain⟨Aa,ca,rfl,-,hma⟩:=h.2.2.form
 unfold maxLen at hmp hmo hma
 have HR:=zh h.1
 obtain⟨nP,hnP⟩:=zx r.plat.length
 obtain⟨nO,hnO⟩:=zx r.on.length
 obtain⟨nA,hnA⟩:=zx r.acks.length
 have HN:=zh (show nP=r.plat.length∧nO=r.on.length∧nA=r.acks.length from⟨hnP,hnO,hnA⟩)
 rw[←hnP,←hnO,←hnA]
 rw[←hnP] at hmp
 rw[←hnO] at hmo
 rw[←hnA] at hma
 obtain⟨W0,hW0⟩:=zx (w.alloc (.cells #[.slice Ap nP cp,.slice Ao nO co,.slice Aa nA ca] 40))
 obtain⟨q,hq⟩:=zx w.heap.size
 have c0:W0.cell? ⟨q,0,none⟩=some (.slice Ap nP cp):=by rw[hW0,hq];simp
 have c1:W0.cell? ⟨q,1,none⟩=some (.slice Ao nO co):=by rw[hW0,hq];simp
 have c2:W0.cell? ⟨q,2,none⟩=some (.slice Aa nA ca):=by rw[hW0,hq];simp
 have hb0:Below w.heap.size w W0:=by rw[hW0];exact(Below.refl _ _).alloc (Nat.le_refl _) _
 have HB0:=zh hb0
 have HQ:=zh hq
 have HW0:=zh hW0
 have HP:=zh (show SlS 1 DrvK W0 (Bl w.heap.size) (.slice Ap nP cp) r.plat from SlS.keep drvK (by rw[HN.out.1];exact HR.out) (kept_below hb0))
 clear h HR hnP hnO hnA hW0 hq hb0
 go_enter Tryz.func22,Tryz.ntmps22
 by_cases h1:nP≤12
 ·by_cases h2:nO≤30
  ·by_cases h3:nA≤30
   ·have HH:=zh (show nP≤12∧nO≤30∧nA≤30 from⟨h1,h2,h3⟩)
    go_wp2_with fail
    rw[←HW0.out,←HQ.out]
    go_loopg [3] nP (fun z v3 wr=>W0=wr∧∃j:Nat,j≤nP∧z=nP - j∧v3=.int .i64 (j:Int)∧Hid (∀l∈r.plat.take j,l.length≤20))
    case atStart=>exact⟨rfl,0,by omega,rfl,rfl,fun l hl=>by simp at hl⟩
    case round =>
     obtain⟨rfl,j,hj,rfl,rfl,HJ⟩:=hrel
     by_cases hlt:j<nP
     ·obtain⟨b,off,cs,hAp,hR,-,hc,v,rfl,hv⟩:=HP.out.at_ (by rw[←HN.out.1];exact hlt)
      subst hAp
      have hcell:=hc 0 v rfl
      simp only[Nat.mul_one,Nat.add_zero] at hcell
      obtain⟨Al,cl,rfl,-,hml⟩:=SlS.form hv
      unfold maxLen at hml
      have HL:=zh (show r.plat[j]'(by rw[←HN.out.1];exact hlt)∈r.plat from List.getElem_mem _)
      have hst:(r.plat[j]'(by rw[←HN.out.1];exact hlt)).length≤20→∀l∈r.plat.take (j+1),l.length≤20:=fun h l hl=>by
       rw[List.take_add_one,List.getElem?_eq_getElem (by rw[←HN.out.1];exact hlt)] at hl
       rcases List.mem_append.1 hl with h2 | h2
       ·exact HJ.out l h2
       ·have h3:l=r.plat[j]'(by rw[←HN.out.1];exact hlt):=by simpa using h2
        rw[h3];exact h
      have HST:=zh hst
      clear hst hc hv
      generalize (r.plat[j]'(by rw[←HN.out.1];exact hlt))=x at *
      have HX:=zh HL.out
      by_cases h4:x.length≤20
      ·have HS:=zh (HST.out h4)
       go_wp2_with fail
       go_roundg (nP - (j+1))
       case measure=>omega
       case rel=>exact⟨rfl,j+1,by omega,rfl,by go_num,HS⟩
      ·have hE:lightB r=false:=lightB_no fun h=>h4 (h.2.2.2 x HX.out)
       have HE:=zh hE
       clear hE
       go_wp2_with fail
       go_ret
       exact⟨by rw[HE.out];rfl,HB0.out⟩
     ·have hE:lightB r=true:=(lightB_iff r).2 ⟨by have:=HN.out;have:=HH.out;omega,by have:=HN.out;have:=HH.out;omega,by have:=HN.out;have:=HH.out;omega,fun l hl=>HJ.out l (by rw[List.take_of_length_le (by have:=HN.out;omega)];exact hl)⟩
      have HE:=zh hE
      clear hE
      go_wp2_with fail
      go_ret
      exact⟨by rw[HE.out];rfl,HB0.out⟩
   ·have HE:=zh (lightB_no (r:=r) fun h=>h3 (by have:=HN.out;omega))
    go_wp2_with fail
    rw[←HW0.out]
    go_ret
    exact⟨by rw[HE.out];rfl,HB0.out⟩
  ·have HE:=zh (lightB_no (r:=r) fun h=>h2 (by have:=HN.out;omega))
   go_wp2_with fail
   rw[←HW0.out]
   go_ret
   exact⟨by rw[HE.out];rfl,HB0.out⟩
 ·have HE:=zh (lightB_no (r:=r) fun h=>h1 (by have:=HN.out;omega))
  go_wp2_with fail
  rw[←HW0.out]
  go_ret
  exact⟨by rw[HE.out];rfl,HB0.out⟩
end Go.Proofs.YtcfkllnpkmebpaaGreatDoor

namespace Go.Proofs.YtcfkllnpkmebpaaGreatDoor
open Go.RowKit Go.Shelf
set_option linter.unusedVariables false
set_option linter.unusedSimpArgs false
def bldRen:Go.Shelf.Ren:=⟨fun | 169=>45 | n=>n,fun | 70=>106 | 9=>9 | 0=>0 | 72=>108 | 37=>53 | 127=>190 | 3=>3 | 5=>5 | n=>n,fun | n=>n⟩
theorem bldLays:Go.Proofs.Lays.n169 Tryz.prog bldRen:={
 mixed:=by kernel_rfl
 f169:=Tryz.func45.trans (congrArg some (by kernel_rfl))
 t0:=Tryz.underlying0
 a0:=Tryz.isAgg0
 z0:=Tryz.sizeOf0
 v0:=Tryz.zeroValue0
 t3:=Tryz.underlying3
 a3:=Tryz.isAgg3
 z3:=Tryz.sizeOf3
 v3:=Tryz.zeroValue3
 t9:=Tryz.underlying9
 a9:=Tryz.isAgg9
 z9:=Tryz.sizeOf9
 v9:=Tryz.zeroValue9
 t37:=Tryz.underlying53
 a37:=Tryz.isAgg53
 z37:=Tryz.sizeOf53
 v37:=Tryz.zeroValue53
 t70:=Tryz.underlying106
 a70:=Tryz.isAgg106
 z70:=Tryz.sizeOf106
 v70:=Tryz.zeroValue106
 t72:=Tryz.underlying108
 a72:=Tryz.isAgg108
 z72:=Tryz.sizeOf108
 v72:=Tryz.zeroValue108
 t127:=Tryz.underlying190
 a127:=Tryz.isAgg190
 z127:=Tryz.sizeOf190
 v127:=Tryz.zeroValue190 }
theorem bldExtra:Builder.Extra Tryz.prog bldRen:={
 sizeBuilder:=by kernel_rfl
 liesBuilder:=by kernel_rfl
 t5:=Tryz.underlying5
 a5:=Tryz.isAgg5
 z5:=Tryz.sizeOf5
 v5:=Tryz.zeroValue5
 infoByte:=by kernel_rfl
 cellsByte:=by kernel_rfl
 sizeByte:=by kernel_rfl
 neB5:=by decide }
theorem bstring_any(B b:Nat) (l:List UInt8) (w:World) (h:Lib.IsBuilder 108 5 B b (Lib.byteCells l) w) (hBw:B≤w.heap.size) :
  Calls Tryz.prog 45 #[.pointer (some ⟨b,0,none⟩)] w fun e w'=>e=.returned (.string ⟨l.toArray⟩)∧Below B w w':=Any.Builder_String_any bldLays bldExtra B b l w h hBw
end Go.Proofs.YtcfkllnpkmebpaaGreatDoor

namespace Go.Proofs.YtcfkllnpkmebpaaGreatDoor
open Go.RowKit Go.Shelf
set_option linter.unusedVariables false
def itoaRen:Go.Shelf.Ren:=⟨fun | 171=>95 | 243=>136 | 246=>187 | 283=>228 | 284=>229 | 285=>230 | 286=>231 | 129=>168 | 317=>251 | 318=>252 | 319=>253 | 320=>254 | 337=>265 | 338=>266 | n=>n,fun | 3=>3 | 9=>9 | 2=>2 | 4=>4 | 171=>294 | 0=>0 | 53=>181 | 37=>53 | 5=>5 | 173=>296 | 212=>306 | 51=>97 | 20=>20 | 213=>307 | 46=>183 | 232=>315 | 233=>316 | n=>n,fun | 17=>1 | 18=>2 | 19=>3 | n=>n⟩
theorem itoaLays:Go.Proofs.Lays.n171 Tryz.prog itoaRen:={
 mixed:=by kernel_rfl
 f129:=Tryz.func168.trans (congrArg some (by kernel_rfl))
 f171:=Tryz.func95.trans (congrArg some (by kernel_rfl))
 f243:=Tryz.func136.trans (congrArg some (by kernel_rfl))
 f246:=Tryz.func187.trans (congrArg some (by kernel_rfl))
 f283:=Tryz.func228.trans (congrArg some (by kernel_rfl))
 f284:=Tryz.func229.trans (congrArg some (by kernel_rfl))
 f285:=Tryz.func230.trans (congrArg some (by kernel_rfl))
 f286:=Tryz.func231.trans (congrArg some (by kernel_rfl))
 f317:=Tryz.func251.trans (congrArg some (by kernel_rfl))
 f318:=Tryz.func252.trans (congrArg some (by kernel_rfl))
 f319:=Tryz.func253.trans (congrArg some (by kernel_rfl))
 f320:=Tryz.func254.trans (congrArg some (by kernel_rfl))
 f337:=Tryz.func265.trans (congrArg some (by kernel_rfl))
 f338:=Tryz.func266.trans (congrArg some (by kernel_rfl))
 t0:=Tryz.underlying0
 a0:=Tryz.isAgg0
 z0:=Tryz.sizeOf0
 v0:=Tryz.zeroValue0
 t2:=Tryz.underlying2
 a2:=Tryz.isAgg2
 z2:=Tryz.sizeOf2
 v2:=Tryz.zeroValue2
 t3:=Tryz.underlying3
 a3:=Tryz.isAgg3
 z3:=Tryz.sizeOf3
 v3:=Tryz.zeroValue3
 t4:=Tryz.underlying4
 a4:=Tryz.isAgg4
 z4:=Tryz.sizeOf4
 v4:=Tryz.zeroValue4
 t5:=Tryz.underlying5
 a5:=Tryz.isAgg5
 z5:=Tryz.sizeOf5
 v5:=Tryz.zeroValue5
 t9:=Tryz.underlying9
 a9:=Tryz.isAgg9
 z9:=Tryz.sizeOf9
 v9:=Tryz.zeroValue9
 t20:=Tryz.underlying20
 a20:=Tryz.isAgg20
 z20:=Tryz.sizeOf20
 v20:=Tryz.zeroValue20
 t37:=Tryz.underlying53
 a37:=Tryz.isAgg53
 z37:=Tryz.sizeOf53
 v37:=Tryz.zeroValue53
 t46:=Tryz.underlying183
 a46:=Tryz.isAgg183
 z46:=Tryz.sizeOf183
 v46:=Tryz.zeroValue183
 t51:=Tryz.underlying97
 a51:=Tryz.isAgg97
 z51:=Tryz.sizeOf97
 v51:=Tryz.zeroValue97
 t53:=Tryz.underlying181
 a53:=Tryz.isAgg181
 z53:=Tryz.sizeOf181
 v53:=Tryz.zeroValue181
 t171:=Tryz.underlying294
 a171:=Tryz.isAgg294
 z171:=Tryz.sizeOf294
 v171:=Tryz.zeroValue294
 t173:=Tryz.underlying296
 a173:=Tryz.isAgg296
 z173:=Tryz.sizeOf296
 v173:=Tryz.zeroValue296
 t212:=Tryz.underlying306
 a212:=Tryz.isAgg306
 z212:=Tryz.sizeOf306
 v212:=Tryz.zeroValue306
 t213:=Tryz.underlying307
 a213:=Tryz.isAgg307
 z213:=Tryz.sizeOf307
 t232:=Tryz.underlying315
 a232:=Tryz.isAgg315
 z232:=Tryz.sizeOf315
 v232:=Tryz.zeroValue315
 t233:=Tryz.underlying316
 a233:=Tryz.isAgg316
 z233:=Tryz.sizeOf316
 v233:=Tryz.zeroValue316
 g17:=by kernel_rfl
 g18:=by kernel_rfl
 g19:=by kernel_rfl }
def cutRen:Go.Shelf.Ren:=⟨fun | 145=>56 | 220=>103 | 219=>147 | 217=>206 | 225=>207 | 224=>208 | 267=>209 | 266=>240 | 314=>241 | n=>n,fun | 9=>9 | 4=>4 | 59=>124 | 3=>3 | 5=>5 | 46=>183 | 146=>298 | 51=>97 | n=>n,fun | 1=>0 | n=>n⟩
theorem cutLays:Go.Proofs.Lays.n145 Tryz.prog cutRen:={
 mixed:=by kernel_rfl
 f145:=Tryz.func56.trans (congrArg some (by kernel_rfl))
 f217:=Tryz.func206.trans (congrArg some (by kernel_rfl))
 f219:=Tryz.func147.trans (congrArg some (by kernel_rfl))
 f220:=Tryz.func103.trans (congrArg some (by kernel_rfl))
 f224:=Tryz.func208.trans (congrArg some (by kernel_rfl))
 f225:=Tryz.func207.trans (congrArg some (by kernel_rfl))
 f266:=Tryz.func240.trans (congrArg some (by kernel_rfl))
 f267:=Tryz.func209.trans (congrArg some (by kernel_rfl))
 f314:=Tryz.func241.trans (congrArg some (by kernel_rfl))
 t3:=Tryz.underlying3
 a3:=Tryz.isAgg3
 z3:=Tryz.sizeOf3
 v3:=Tryz.zeroValue3
 t4:=Tryz.underlying4
 a4:=Tryz.isAgg4
 z4:=Tryz.sizeOf4
 v4:=Tryz.zeroValue4
 t5:=Tryz.underlying5
 a5:=Tryz.isAgg5
 z5:=Tryz.sizeOf5
 v5:=Tryz.zeroValue5
 t9:=Tryz.underlying9
 a9:=Tryz.isAgg9
 z9:=Tryz.sizeOf9
 v9:=Tryz.zeroValue9
 t46:=Tryz.underlying183
 a46:=Tryz.isAgg183
 z46:=Tryz.sizeOf183
 v46:=Tryz.zeroValue183
 t51:=Tryz.underlying97
 a51:=Tryz.isAgg97
 z51:=Tryz.sizeOf97
 v51:=Tryz.zeroValue97
 t59:=Tryz.underlying124
 a59:=Tryz.isAgg124
 z59:=Tryz.sizeOf124
 v59:=Tryz.zeroValue124
 t146:=Tryz.underlying298
 a146:=Tryz.isAgg298
 z146:=Tryz.sizeOf298
 v146:=Tryz.zeroValue298
 g1:=by kernel_rfl }
theorem itoa_any(i:Nat) (hi:i<100) (w:World):Calls Tryz.prog 95 #[.int .i64 (i:Int)] w fun e w'=>e=.returned (.string ⟨(Lib.decDigits i).toArray⟩)∧w'=w:=Any.strconv_Itoa_small itoaLays i hi w
end Go.Proofs.YtcfkllnpkmebpaaGreatDoor

namespace Go.Proofs.YtcfkllnpkmebpaaGreatDoor
open Go.RowKit
set_option linter.unusedVariables false
set_option linter.unusedSimpArgs false
def cutV(s sep:ByteArray):Value:=.tuple #[.string ⟨(Lib.cut s.data.toList sep.data.toList).1.toArray⟩,.string ⟨(Lib.cut s.data.toList sep.data.toList).2.1.toArray⟩,.bool (Lib.cut s.data.toList sep.data.toList).2.2]
theorem slcut_any(s:ByteArray) (c:UInt8) (w:World) (hs:s.size≤1048576) :
  Calls Tryz.prog 103 #[.string s,.string ⟨#[c]⟩] w fun e w'=>e=.returned (cutV s ⟨#[c]⟩)∧∃n,w'=w.drewN n:=by
 have HI:=zh (fun w=>Any.stringslite_Index_one (ρ:=cutRen) { cutLays with } s c w)
 have hio:Lib.indexB s ⟨#[c]⟩=Lib.indexByte s.data.toList c:=Lib.index_one s.data.toList c
 obtain⟨sep,hsep⟩:∃sep:ByteArray,sep=⟨#[c]⟩:=⟨_,rfl⟩
 rw[←hsep] at HI hio ⊢
 have hsz:sep.size=1:=by rw[hsep];rfl
 clear hsep
 unfold cutV
 rcases Lib.indexB_cases s sep with hix | ⟨i,hix,hroom⟩
 ·obtain⟨e1,e2,e3⟩:=Lib.cutB_miss s sep hix
  rw[e1,e2,e3]
  rw[hix] at hio
  rw[←hio] at HI
  clear e1 e2 e3 hix hio
  go_enter Tryz.func103,Tryz.ntmps103
  go_wp2_with (go_at_call 147;refine(HI.out _).mono ?_;rintro e w' ⟨rfl,rfl⟩)
  go_ret3
  exact⟨rfl,0,rfl⟩
 ·obtain⟨e1,e2,e3⟩:=Lib.cutB_hit s sep i hix
  rw[e1,e2,e3]
  rw[hix] at hio
  rw[←hio] at HI
  rw[hsz] at hroom ⊢
  have c1:(0:Int)≤↑i:=by omega
  have c2:(↑i:Int)≤↑s.size:=by omega
  have c3:(0:Int)≤↑i+1:=by omega
  have c4:(↑i+1:Int)≤↑s.size:=by omega
  have c5:(s.size:Int)≤1048576:=by omega
  clear e1 e2 e3 hix hio
  go_enter Tryz.func103,Tryz.ntmps103
  go_wp2_with (go_at_call 147;refine(HI.out _).mono ?_;rintro e w' ⟨rfl,rfl⟩)
  have mixed:=cutLays.mixed
  go_region_o
  go_wp2
  go_ret3
  exact⟨rfl,1,rfl⟩
theorem cut_any(s:ByteArray) (c:UInt8) (w:World) (hs:s.size≤1048576) :
  Calls Tryz.prog 56 #[.string s,.string ⟨#[c]⟩] w fun e w'=>e=.returned (cutV s ⟨#[c]⟩)∧∃n,w'=w.drewN n:=by
 have HC:=zh (fun w=>slcut_any s c w hs)
 unfold cutV at HC ⊢
 obtain⟨x1,h1⟩:=zx ((⟨(Lib.cut s.data.toList (⟨#[c]⟩:ByteArray).data.toList).1.toArray⟩:ByteArray))
 obtain⟨x2,h2⟩:=zx ((⟨(Lib.cut s.data.toList (⟨#[c]⟩:ByteArray).data.toList).2.1.toArray⟩:ByteArray))
 obtain⟨x3,h3⟩:=zx ((Lib.cut s.data.toList (⟨#[c]⟩:ByteArray).data.toList).2.2)
 rw[←h1,←h2,←h3] at HC ⊢
 obtain⟨sep,hsep⟩:∃sep:ByteArray,sep=⟨#[c]⟩:=⟨_,rfl⟩
 rw[←hsep] at HC ⊢
 clear h1 h2 h3 hsep
 go_enter Tryz.func56,Tryz.ntmps56
 go_wp2_with (go_at_call 103;refine(HC.out _).mono ?_;rintro e w' ⟨rfl,n,rfl⟩)
 go_ret3
 exact⟨rfl,n,rfl⟩
end Go.Proofs.YtcfkllnpkmebpaaGreatDoor

namespace Go.Proofs.YtcfkllnpkmebpaaGreatDoor
open Go.RowKit
set_option linter.unusedVariables false
set_option linter.unusedSimpArgs false
def hdlB(lost:Bool) (nm:ByteArray) (s need:Nat):ByteArray :=
 ((((if lost then(⟨#[108,111,115,116,32]⟩:ByteArray) else⟨#[97,119,97,121,32]⟩)++nm)++(⟨#[32]⟩:ByteArray)++(⟨(Lib.decDigits s).toArray⟩:ByteArray))++(⟨#[32,110,101,101,100,115,32]⟩:ByteArray))++(⟨(Lib.decDigits need).toArray⟩:ByteArray)
theorem dec_all:((List.range 100).all fun s=>decide ((Lib.decDigits s).length≤2))=true:=by decide +kernel
theorem dec_short(s:Nat) (h:s<100):(⟨(Lib.decDigits s).toArray⟩:ByteArray).size≤2:=by
 have:=List.all_eq_true.1 dec_all s (by simpa using h)
 rw[decide_eq_true_eq] at this
 show(Lib.decDigits s).toArray.size≤2
 simpa using this
theorem head_any(lost:Bool) (ext:Int) (vl vm vd vv vp vc:Value) (ob oof NO co v s need:Nat) (nm:ByteArray) (w:World) (hv:v<NO) (hno:NO≤1000) (hs:s<100) (hn:need<100) (hnm:nm.size≤1000) (hc:w.cell? ⟨ob,oof+v * 2,none⟩=some (.string nm)) :
  Calls Tryz.prog 43 #[.agg #[.int .i64 ext,vl,vm,vd,vv,vp,.slice (some ⟨ob,oof,none⟩) NO co],.agg #[.int .i64 (v:Int),.int .i64 (s:Int),.bool lost,.int .i64 (need:Int),vc]] w fun e w'=>e=.returned (.string (hdlB lost nm s need))∧Below w.heap.size w w':=by
 have hob:ob<w.heap.size:=World.block_lt_of_cell? w _ hc
 have HI1:=zh (fun w=>itoa_any s hs w)
 have HI2:=zh (fun w=>itoa_any need hn w)
 obtain⟨D1,hD1⟩:∃b:ByteArray,b=⟨(Lib.decDigits s).toArray⟩:=⟨_,rfl⟩
 obtain⟨D2,hD2⟩:∃b:ByteArray,b=⟨(Lib.decDigits need).toArray⟩:=⟨_,rfl⟩
 have l1:D1.size≤2:=by rw[hD1];exact dec_short s hs
 have l2:D2.size≤2:=by rw[hD2];exact dec_short need hn
 have f1:¬9223372036854775807<5+nm.size:=by omega
 have f2:¬9223372036854775807<5+nm.size+1:=by omega
 have f3:¬9223372036854775807<5+nm.size+1+D1.size:=by omega
 have f4:¬9223372036854775807<5+nm.size+1+D1.size+7:=by omega
 have f5:¬9223372036854775807<5+nm.size+1+D1.size+7+D2.size:=by omega
 unfold hdlB
 rw[←hD1] at HI1 ⊢
 rw[←hD2] at HI2 ⊢
 obtain⟨W0,hW0⟩:=zx ((w.alloc (.cells #[.int .i64 ext,vl,vm,vd,vv,vp,.slice (some ⟨ob,oof,none⟩) NO co] 35)).alloc (.cells #[.int .i64 (v:Int),.int .i64 (s:Int),.bool lost,.int .i64 (need:Int),vc] 27))
 obtain⟨z,hz⟩:=zx w.heap.size
 obtain⟨y,hy⟩:=zx (w.heap.size+1)
 have hb0:Below w.heap.size w W0:=by rw[hW0];exact((Below.refl _ _).alloc (Nat.le_refl _) _).alloc (by simp) _
 have hyk:W0.heap[y]?=some (.cells #[.int .i64 (v:Int),.int .i64 (s:Int),.bool lost,.int .i64 (need:Int),vc] 27 (0,0)):=by
  rw[hW0];exact heap_alloc_at _ _ _ (by rw[hy];simp)
 have hzk:W0.heap[z]?=some (.cells #[.int .i64 ext,vl,vm,vd,vv,vp,.slice (some ⟨ob,oof,none⟩) NO co] 35 (0,0)):=by
  rw[hW0,hz];exact(Below.heap_alloc _ _ _ (by simp)).trans (heap_alloc_new w _)
 have x0:W0.cell? ⟨y,0,none⟩=some (.int .i64 (v:Int)):=by rw[cell_of_row _ _ _ _ _ _ hyk];rfl
 have x1:W0.cell? ⟨y,1,none⟩=some (.int .i64 (s:Int)):=by rw[cell_of_row _ _ _ _ _ _ hyk];rfl
 have x2:W0.cell? ⟨y,2,none⟩=some (.bool lost):=by rw[cell_of_row _ _ _ _ _ _ hyk];rfl
 have x3:W0.cell? ⟨y,3,none⟩=some (.int .i64 (need:Int)):=by rw[cell_of_row _ _ _ _ _ _ hyk];rfl
 have z6:W0.cell? ⟨z,6,none⟩=some (.slice (some ⟨ob,oof,none⟩) NO co):=by rw[cell_of_row _ _ _ _ _ _ hzk];rfl
 have n0:W0.cell? ⟨ob,oof+v * 2,none⟩=some (.string nm):=(hb0.cell (p:=⟨ob,oof+v * 2,none⟩) hob).trans hc
 have HS:=zh (show W0.drew.cell? ⟨z,6,none⟩=some (.slice (some ⟨ob,oof,none⟩) NO co)∧W0.drew.cell? ⟨y,0,none⟩=some (.int .i64 (v:Int))∧W0.drew.cell? ⟨ob,oof+v * 2,none⟩=some (.string nm)∧W0.drew.cell? ⟨y,1,none⟩=some (.int .i64 (s:Int))∧W0.drew.cell? ⟨y,3,none⟩=some (.int .i64 (need:Int)) from⟨z6,x0,n0,x1,x3⟩)
 have HW0:=zh hW0
 have HZ:=zh hz
 have HY:=zh hy
 have HB0:=zh hb0
 have i1:(v:Int)<(NO:Int):=by omega
 clear hob hc x0 x1 x3 z6 n0 hD1 hD2 hW0 hz hy hb0 hyk hzk
 go_enter Tryz.func43,Tryz.ntmps43
 go_upto_region 2 with fail
 rw[←HW0.out,←HY.out,←HZ.out]
 cases lost with
 | false =>
  go_upto_region 4 with fail
  refine region_tail (S:=(fun w'=>w'.cell? ⟨z,6,none⟩=some (.slice (some ⟨ob,oof,none⟩) NO co)∧w'.cell? ⟨y,0,none⟩=some (.int .i64 (v:Int))∧w'.cell? ⟨ob,oof+v * 2,none⟩=some (.string nm)∧w'.cell? ⟨y,1,none⟩=some (.int .i64 (s:Int))∧w'.cell? ⟨y,3,none⟩=some (.int .i64 (need:Int)))) [] (by kernel_rfl) HS.out (fun hHeld=>?_)
  refine tk 0 8 ?_
  refine tk 1 9 ?_
  refine tk 2 10 ?_
  refine tk 3 11 ?_
  refine tk 4 12 ?_
  refine tk 5 13 ?_
  refine tk 6 14 ?_
  refine tk 7 15 ?_
  refine tk 8 16 ?_
  refine tk 9 17 ?_
  refine tk 10 18 ?_
  refine tk 11 19 ?_
  refine tk 15 23 ?_
  refine tk 16 24 ?_
  refine readyT (rs:=[12]) (by kernel_rfl) (by simp) ?_
  refine AllReadyT.cons rfl (fun K hK=>?_) ?_
  ·go_simp
   refine(HI1.out _).mono ?_
   rintro e w' ⟨rfl,rfl⟩
   refine hK.out _ _ ?_ (fun hHeld=>?_)
   ·assumption
   clear hK K
   (try simp only[Act.put,z1,z2,z3])
   refine tk 13 21 ?_
   refine tk 14 22 ?_
   refine readyT (rs:=[17]) (by kernel_rfl) (by simp) ?_
   refine AllReadyT.cons rfl (fun K hK=>?_) ?_
   ·go_simp
    refine(HI2.out _).mono ?_
    rintro e w' ⟨rfl,rfl⟩
    refine hK.out _ _ ?_ (fun hHeld=>?_)
    ·assumption
    clear hK K
    (try simp only[Act.put,z1,z2,z3])
    refine tk 18 26 ?_
    refine tk 19 4 ?_
    refine doneT (by kernel_rfl) ?_ _
    go_wp2_with fail
    go_ret
    exact⟨rfl,HB0.out.drew⟩
   exact AllReadyT.nil
  exact AllReadyT.nil
 | true =>
  go_upto_region 4 with fail
  refine region_tail (S:=(fun w'=>w'.cell? ⟨z,6,none⟩=some (.slice (some ⟨ob,oof,none⟩) NO co)∧w'.cell? ⟨y,0,none⟩=some (.int .i64 (v:Int))∧w'.cell? ⟨ob,oof+v * 2,none⟩=some (.string nm)∧w'.cell? ⟨y,1,none⟩=some (.int .i64 (s:Int))∧w'.cell? ⟨y,3,none⟩=some (.int .i64 (need:Int)))) [] (by kernel_rfl) HS.out (fun hHeld=>?_)
  refine tk 0 8 ?_
  refine tk 1 9 ?_
  refine tk 2 10 ?_
  refine tk 3 11 ?_
  refine tk 4 12 ?_
  refine tk 5 13 ?_
  refine tk 6 14 ?_
  refine tk 7 15 ?_
  refine tk 8 16 ?_
  refine tk 9 17 ?_
  refine tk 10 18 ?_
  refine tk 11 19 ?_
  refine tk 15 23 ?_
  refine tk 16 24 ?_
  refine readyT (rs:=[12]) (by kernel_rfl) (by simp) ?_
  refine AllReadyT.cons rfl (fun K hK=>?_) ?_
  ·go_simp
   refine(HI1.out _).mono ?_
   rintro e w' ⟨rfl,rfl⟩
   refine hK.out _ _ ?_ (fun hHeld=>?_)
   ·assumption
   clear hK K
   (try simp only[Act.put,z1,z2,z3])
   refine tk 13 21 ?_
   refine tk 14 22 ?_
   refine readyT (rs:=[17]) (by kernel_rfl) (by simp) ?_
   refine AllReadyT.cons rfl (fun K hK=>?_) ?_
   ·go_simp
    refine(HI2.out _).mono ?_
    rintro e w' ⟨rfl,rfl⟩
    refine hK.out _ _ ?_ (fun hHeld=>?_)
    ·assumption
    clear hK K
    (try simp only[Act.put,z1,z2,z3])
    refine tk 18 26 ?_
    refine tk 19 4 ?_
    refine doneT (by kernel_rfl) ?_ _
    go_wp2_with fail
    go_ret
    exact⟨rfl,HB0.out.drew⟩
   exact AllReadyT.nil
  exact AllReadyT.nil
end Go.Proofs.YtcfkllnpkmebpaaGreatDoor
