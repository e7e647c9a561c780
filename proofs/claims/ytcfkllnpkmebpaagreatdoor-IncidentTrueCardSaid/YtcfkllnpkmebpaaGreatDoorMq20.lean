/- The stripes that miss fragments: the program's missing, walked. -/
import Derived.Test.YtcfkllnpkmebpaaGreatDoorMq19
import Derived.Test.YtcfkllnpkmebpaaGreatDoorMq01
set_option maxRecDepth 100000
set_option maxHeartbeats 12800000
namespace Go.Proofs.YtcfkllnpkmebpaaGreatDoor
open Go.RowKit
set_option linter.unusedVariables false
set_option linter.unusedSimpArgs false
def cntI(r:Re) (v s:Nat) (on:Bool) (n:Int):Int:=(((intI r (v:Int) (s:Int) on).filter (fun x=>decide (x<n))).length:Int)
def keyP(F:FltM) (r:Re) (cond:Int→Int→Int→Bool) (x:Nat×Nat):Bool :=
 (verOf r.acks (x.1:Int) (x.2:Int)).isSome&&cond (cntI r x.1 x.2 false (kOf F x.1+mOf F x.1)) (cntI r x.1 x.2 true (kOf F x.1+mOf F x.1)) (kOf F x.1)
def keyL(F:FltM) (r:Re) (cond:Int→Int→Int→Bool) (ext v s:Nat):List (Nat×Nat):=(keysTo ext v s).filter (keyP F r cond)
theorem keyL_succ(F:FltM) (r:Re) (cond:Int→Int→Int→Bool) (ext v s:Nat):keyL F r cond ext v (s+1)=keyL F r cond ext v s++(if keyP F r cond (v,s)=true then [(v,s)] else []):=by
 unfold keyL;rw[keysTo_succ,List.filter_append]
 congr 1
 by_cases h:keyP F r cond (v,s)=true <;> simp[h]
theorem keysTo_len(ext v s:Nat):(keysTo ext v s).length=v * ext+s:=by
 have h:∀v,((List.range v).flatMap (fun v=>(List.range ext).map fun s=>(v,s))).length=v * ext:=by
  intro v
  induction v with
  | zero=>simp
  | succ v ih=>rw[List.range_succ,List.flatMap_append,List.length_append,ih];simp[Nat.succ_mul]
 unfold keysTo;rw[List.length_append,h];simp
theorem keyL_len(F:FltM) (r:Re) (cond:Int→Int→Int→Bool) (ext v s:Nat):(keyL F r cond ext v s).length≤v * ext+s:=by
 rw[←keysTo_len];exact List.length_filter_le _ _
theorem out_filter(r:Re) (up:Bool) (l:List Fd) (n:Int):∀j,j≤8→outTo r up l n j=(outTo r up l 8 j).filter (fun x=>decide (x<n))
 | 0,_=>rfl
 | j+1,h=>by
  rw[outTo_succ,outTo_succ,List.filter_append,out_filter r up l n j (by omega)]
  congr 1
  by_cases h1:hasB r up l j=true
  ·by_cases h2:(j:Int)<n
   ·rw[if_pos ⟨h1,h2⟩,if_pos ⟨h1,by omega⟩];simp[h2]
   ·rw[if_neg (fun h=>h2 h.2),if_pos ⟨h1,by omega⟩];simp[h2]
  ·rw[if_neg (fun h=>h1 h.1),if_neg (fun h=>h1 h.1)];rfl
theorem out_cnt(r:Re) (v s:Nat) (on:Bool) (n:Int):((outTo r on (stripeP (pieces r) (v:Int) (s:Int)) n 8).length:Int)=cntI r v s on n:=by
 unfold cntI intI;rw[out_filter _ _ _ _ 8 (by omega),intTo_out r (pieces r) _ _ on 8 8 (by omega)]
theorem missingL_any(cond:Int→Int→Int→Bool) (hC:∀(a u k:Int) (w:World),Calls Tryz.prog 80 #[.int .i64 a,.int .i64 u,.int .i64 k] w fun e w'=>e=.returned (.bool (cond a u k))∧w=w')
  (N:Nat) (hN:N≤12) (vl vm vd vv vp vo vp0 vo0 va0:Value) (F:FltM) (r:Re) (w:World) (hf:FleetS w (Bl w.heap.size) vl vm vd vv vp vo F) (hok:FleetOk N F) (h:ReS w (Bl w.heap.size) vp0 vo0 va0 r) (hp:r.plat.length≤1000) (hl:∀l∈r.plat,l.length≤1000) (hac:r.acks.length≤1000000) :
  Calls Tryz.prog 67 #[.agg #[.int .i64 F.ext,vl,vm,vd,vv,vp,vo],.agg #[vp0,vo0,va0],.func (.func 80) #[] #[]] w fun e w'=>∃u,e=.returned u∧OwnKy w' w.heap.size u (keyL F r cond F.ext.toNat F.vols.length 0)∧Below w.heap.size w w':=by
 obtain⟨pb,pof,ob,oof,cp,co,rfl,rfl,hRp,hRo,hPA⟩:=polAt hf hok;have HVA:=zh (fun(w':World) (hb:Below w.heap.size w w')=>fvalidate_any N hN vl vm vd vv _ _ F w' (hf.below hb) hok);have HIX:=zh (fun w1 h1=>index_any vp0 vo0 va0 r w1 h1 hp hl hac);have HRE:=zh (fun(w':World) (hb:Below w.heap.size w w')=>h.below hb);have hpa:=piecesTo_all r r.plat.length;have hpd:=pieces_drive r (by omega)
 obtain⟨EX,hEX,hEX1,hEX2⟩:∃n:Nat,F.ext=(n:Int)∧1≤n∧n≤2:=by rcases hok.ext with e | e <;> rw[e] <;> first | exact⟨1,rfl,by omega,by omega⟩ | exact⟨2,rfl,by omega,by omega⟩
 have hno:F.vols.length≤12:=by have:=hok.volN;omega
 obtain⟨KL,hKL⟩:∃f:Nat→Nat→List (Nat×Nat),f=keyL F r cond EX:=⟨_,rfl⟩;have HKS:=zh (fun v s=>(show KL v (s+1)=KL v s++(if keyP F r cond (v,s)=true then [(v,s)] else []) from by rw[hKL];exact keyL_succ F r cond EX v s));have HKN:=zh (fun v=>(show KL v EX=KL (v+1) 0 from by rw[hKL];unfold keyL;rw[keysTo_next]));have HK0:=zh (show KL 0 0=[] from by rw[hKL];rfl)
 have HLE:=zh (fun v s (hv:v<13) (hs:s<13)=>(show(KL v s).length≤100 from by
  have h1:=keyL_len F r cond EX v s;rw[hKL];have h2:v * EX≤12 * 2:=Nat.mul_le_mul (by omega) hEX2
  omega))
 rw[hEX] at HVA ⊢;rw[show((EX:Int)).toNat=EX from by omega,show keyL F r cond EX F.vols.length 0=KL F.vols.length 0 from by rw[hKL]];obtain⟨NO,hNO⟩:=zx F.vols.length;obtain⟨NP,hNP⟩:=zx F.pols.length
 have hnp:NP≤2:=by rw[hNP];exact hok.polN
 rw[←hNO] at hno HVA ⊢;rw[←hNP] at HVA ⊢;have HKQ:=zh (fun v (hv:v<NO)=>kmq_ok hok (show v<F.vols.length from by rw[←hNO];exact hv));have HPA:=zh hPA;have HNN:=zh (show NO=F.vols.length∧NP=F.pols.length∧NO≤12∧NP≤2 from⟨hNO,hNP,hno,hnp⟩);have HPD:=zh hpd;have HPL:=zh hpa;have HBB:=zh (show pb<w.heap.size∧ob<w.heap.size from⟨hRp,hRo⟩);obtain⟨W0,hW0⟩:=zx ((w.alloc (.cells #[.int .i64 (EX:Int),vl,vm,vd,vv,.slice (some ⟨pb,pof,none⟩) NP cp,.slice (some ⟨ob,oof,none⟩) NO co] 35)).alloc (.cells #[vp0,vo0,va0] 40));obtain⟨z,hz⟩:=zx w.heap.size;obtain⟨y,hy⟩:=zx (w.heap.size+1)
 have hb0:Below w.heap.size w W0:=by rw[hW0];exact((Below.refl _ _).alloc (Nat.le_refl _) _).alloc (by simp) _
 have hyk:W0.heap[y]?=some (.cells #[vp0,vo0,va0] 40 (0,0)):=by
  rw[hW0];exact heap_alloc_at _ _ _ (by rw[hy];simp)
 have hzk:W0.heap[z]?=some (.cells #[.int .i64 (EX:Int),vl,vm,vd,vv,.slice (some ⟨pb,pof,none⟩) NP cp,.slice (some ⟨ob,oof,none⟩) NO co] 35 (0,0)):=by
  rw[hW0,hz];exact(Below.heap_alloc _ _ _ (by simp)).trans (heap_alloc_new w _)
 have hyl:y<W0.heap.size:=(Array.getElem?_eq_some_iff.1 hyk).1;have hzl:z<W0.heap.size:=(Array.getElem?_eq_some_iff.1 hzk).1;have HC:=zh (fun(w':World) (hb:Below W0.heap.size W0 w')=>And.intro (cells7 ((hb.block z hzl).trans hzk)) (cells3 ((hb.block y hyl).trans hyk)));have HYL:=zh hyl;have HW0:=zh hW0;have HZ:=zh hz;have HY:=zh hy;have HB0:=zh hb0;obtain⟨⟨c0,c1,c2,c3,c4,c5,c6⟩,-⟩:=HC.out W0 (Below.refl _ _);have HC0:=zh hC;have HEXB:=zh (And.intro hEX1 hEX2);clear hf hok h hPA hRp hRo hpa hpd hW0 hz hy hb0 hyk hzk hyl hzl hKL hC hEX hNO hNP hnp hEX1;go_enter Tryz.func67,Tryz.ntmps67;go_wp2_with fail;rw[←HW0.out,←HY.out,←HZ.out];refine(HVA.out _ HB0.out).mono ?_;rintro e w1 ⟨rfl,hb1⟩;have HB1:=zh hb1;clear c0 c1 c2 c3 c4 c5 c6 hb1;obtain⟨-,d0,d1,d2,-⟩:=HC.out w1 HB1.out;go_wp2_with fail;have hre:=HRE.out w1 (HB0.out.trans (HB1.out.mono HB0.out.size));refine(HIX.out _ hre).mono ?_;rintro e w2 ⟨b,n,f,rfl,hbb,hM,hG,hb2⟩;have HB2:=zh (HB1.out.trans (hb2.mono HB1.out.size));have HM:=zh hM;have HGR:=zh hG;have HBM:=zh hM.lt;clear d0 d1 d2 hb2 hM hG hre hbb;obtain⟨⟨c0,c1,c2,c3,c4,c5,c6⟩,-⟩:=HC.out w2 HB2.out;go_wp2_with fail;clear c0 c1 c2 c3 c4 c5 c6;go_loopg [8,23] NO (fun z v8 v23 wr=>∃v:Nat,v≤NO∧z=NO - v∧v23=.int .i64 (v:Int)∧Hid (OwnKy wr w2.heap.size v8 (KL v 0))∧Hid (Below w2.heap.size w2 wr))
 case atStart=>exact⟨0,by omega,rfl,rfl,by rw[HK0.out];exact OwnKy.nil _ _,Below.refl _ _⟩
 case round =>
  obtain⟨v,hv,rfl,rfl,HO,HBR⟩:=hrel;have h0R:=HB2.out.trans (HBR.out.mono HB2.out.size);by_cases hlt:v<NO
  ·-- L1{
   obtain⟨n7,hn7⟩:=zx ((KL v 0).length);obtain⟨A7,c7,hv7⟩:=HO.out.form;rw[←hn7] at hv7;subst hv7;clear hn7;obtain⟨hpl,nm,hvol,a0,a4,a5,a6,a7,a8,a9,a10,a11,a12,a13,a14,a15,a16,hpol,hone⟩:=HPA.out v (by rw[←HNN.out.1];exact hlt);obtain⟨kk,m1,m2,q1,q2⟩:=HKQ.out v hlt;obtain⟨KK,hK⟩:=zx (kOf F v);obtain⟨MM,hMM⟩:=zx (mOf F v);obtain⟨QQ,hQ⟩:=zx (qOf F v);obtain⟨p,hpp⟩:=zx (volP F v);rw[←hK,←hMM,←hQ] at hpol hone;rw[←hpp] at hvol hpl hpol;rw[←hK] at kk;rw[←hMM] at m1 m2;have hb0R:=HB0.out.trans (h0R.mono HB0.out.size);have hvol':=range_same hvol (hb0R.block ob HBB.out.2);have l0:wr.cell? ⟨ob,oof+v * 2,none⟩=some (.string nm):=hvol' 0 _ rfl;have l1:wr.cell? ⟨ob,oof+v * 2+1,none⟩=some (.int .i64 (p:Int)):=hvol' 1 _ rfl;have HPOL:=zh (range_same hpol (hb0R.block pb HBB.out.1));have HONE:=zh hone;have HKM:=zh (show(KK=1∨KK=2)∧0≤MM∧MM≤2∧KK=kOf F v∧MM=mOf F v from⟨kk,m1,m2,hK,hMM⟩);obtain⟨W3,hW3⟩:=zx (wr.alloc (.cells #[.string nm,.int .i64 (p:Int)] 87));obtain⟨gv,hgv⟩:=zx wr.heap.size
   have hb3:Below wr.heap.size wr W3:=by rw[hW3];exact(Below.refl _ _).alloc (Nat.le_refl _) _
   have hgk:W3.heap[gv]?=some (.cells #[.string nm,.int .i64 (p:Int)] 87 (0,0)):=by rw[hW3,hgv];exact heap_alloc_new _ _
   have e1:W3.cell? ⟨gv,1,none⟩=some (.int .i64 (p:Int)):=by rw[cell_of_row _ _ _ _ _ _ hgk];rfl
   have HPOL3:=zh (range_same HPOL.out (hb3.block pb (Nat.lt_of_lt_of_le HBB.out.1 hb0R.size)));obtain⟨W4,hW4⟩:=zx ((W3.alloc (.cells #[.string ⟨#[]⟩,.int .i64 0,.int .i64 0,.int .i64 0,.int .i64 0,.int .i64 0,.int .i64 0,.int .i64 0,.int .i64 0,.slice none 0 0,.slice none 0 0,.bool false,.slice none 0 0,.slice none 0 0,.bool false,.slice none 0 0,.slice none 0 0] 85)).setCells W3.heap.size 0 [a0,.int .i64 KK,.int .i64 MM,.int .i64 QQ,a4,a5,a6,a7,a8,a9,a10,a11,a12,a13,a14,a15,a16]);obtain⟨g,hg⟩:=zx W3.heap.size;have hth:(W3.alloc (.cells #[.string ⟨#[]⟩,.int .i64 0,.int .i64 0,.int .i64 0,.int .i64 0,.int .i64 0,.int .i64 0,.int .i64 0,.int .i64 0,.slice none 0 0,.slice none 0 0,.bool false,.slice none 0 0,.slice none 0 0,.bool false,.slice none 0 0,.slice none 0 0] 85)).there W3.heap.size 0 17:=there_new (cs:=#[.string ⟨#[]⟩,.int .i64 0,.int .i64 0,.int .i64 0,.int .i64 0,.int .i64 0,.int .i64 0,.int .i64 0,.int .i64 0,.slice none 0 0,.slice none 0 0,.bool false,.slice none 0 0,.slice none 0 0,.bool false,.slice none 0 0,.slice none 0 0]) (heap_alloc_new W3 _) (Nat.le_refl 17)
   have hb4:Below W3.heap.size W3 W4:=by rw[hW4];exact below_setCellsV (Nat.le_refl _) _ _ _ ((Below.refl _ _).alloc (Nat.le_refl _) _)
   have hgr:W4.rangeAt g 0 [a0,.int .i64 KK,.int .i64 MM,.int .i64 QQ,a4,a5,a6,a7,a8,a9,a10,a11,a12,a13,a14,a15,a16]:=by rw[hW4,hg];exact World.rangeAt_setCells_same _ _ _ _ hth
   have hgl:g<W4.heap.size:=World.block_lt_of_cell? W4 _ (hgr 0 _ rfl);have hbr4:Below wr.heap.size wr W4:=hb3.trans (hb4.mono hb3.size);have HGR4:=zh hgr;have HGL:=zh hgl;have HB4:=zh (HBR.out.trans (hbr4.mono HBR.out.size));have HO4:=zh (HO.out.below hbr4)
   have hng:∀b,(Value.slice A7 n7 c7).ownBlock=some b→b≠g:=fun b e=>by have h1:=(HO.out.lt b e).2;have h2:=hb3.size;omega
   have HNG:=zh (show(Value.slice A7 n7 c7).ownBlock≠some g from fun e=>hng g e rfl);have HTH:=zh hth;have HW3:=zh hW3;have HGV:=zh hgv;have HW4:=zh hW4;have HG:=zh hg;have HLTV:=zh hlt
   have ip:(p:Int)<(NP:Int):=by have:=HNN.out.2.1;omega
   have HC3:=zh (h0R.trans ((hb3.mono h0R.size)));have HC4:=zh (h0R.trans ((hbr4.mono h0R.size)));clear hvol hvol' hpol hone hW3 hgv hb3 hgk hW4 hg hth hb4 hgr hgl hbr4 hng hb0R kk q1 q2 hK hMM hQ hpp hpl m1 m2;go_upto_region 8 with fail;rw[←HW3.out,←HGV.out];clear l0 l1;obtain⟨⟨c0,c1,c2,c3,c4,c5,c6⟩,-⟩:=HC.out W3 HC3.out;go_upto_region 9 with (first | (refine wpList_load_mid rfl 85 (.tmp 32) rfl pb (pof+p * 17) (by rfl) [a0,.int .i64 KK,.int .i64 MM,.int .i64 QQ,a4,a5,a6,a7,a8,a9,a10,a11,a12,a13,a14,a15,a16] _ HPOL3.out Tryz.underlying85 rfl size_pol ?_) | (refine wpList_store_mid rfl 85 (.tmp 11) (.tmp 33) rfl W3.heap.size 0 #[a0,.int .i64 KK,.int .i64 MM,.int .i64 QQ,a4,a5,a6,a7,a8,a9,a10,a11,a12,a13,a14,a15,a16] (by rfl) (by rfl) HTH.out size_pol HONE.out ?_;rw[←HW4.out,←HG.out]));clear c0 c1 c2 c3 c4 c5 c6 e1;obtain⟨⟨c0,c1,c2,c3,c4,c5,c6⟩,-⟩:=HC.out W4 HC4.out;go_wp2_with fail;clear c0 c1 c2 c3 c4 c5 c6;go_loopg [8,36] EX (fun z v8 v36 wx=>∃s:Nat,s≤EX∧z=EX - s∧v36=.int .i64 (s:Int)∧Hid (OwnKy wx w2.heap.size v8 (KL v s))∧Hid (Below w2.heap.size w2 wx)∧Hid (wx.heap[g]?=W4.heap[g]?)∧Hid (v8.ownBlock≠some g))
   case atStart=>exact⟨0,by omega,rfl,rfl,HO4.out,HB4.out,rfl,HNG.out⟩
   case round =>
    clear HO HBR HO4 HB4 HNG;obtain⟨s,hs,rfl,rfl,HO,HBR,HGE,HNE⟩:=hrel;have h0x:=HB2.out.trans (HBR.out.mono HB2.out.size);by_cases hls:s<EX
    ·-- L2{
     have HMx:=zh (HM.out.below HBR.out HBM.out)
     have i1:I64 (v:Int):=by have:=HNN.out;unfold I64;omega
     have i2:I64 (s:Int):=by have:=HEXB.out;unfold I64;omega
     have hlk:=HMx.out.look_ok key_two Tryz.underlying144 (zero_fds _) i1 i2;have HLT:=zh hls;have HLV:=zh (show v<NO∧v<13∧EX≤2 from⟨HLTV.out,by have:=HNN.out;have:=HLTV.out;omega,HEXB.out.2⟩);unfold kv at hlk;rcases HGR.out.1 (v:Int) (s:Int) i1 i2 with ⟨hv1,hv2⟩ | ⟨hv1,u,hv2,hv3⟩
     ·rw[hv2] at hlk;simp only[Option.getD_none,Option.isSome_none] at hlk;have HKV:=zh (show keyP F r cond (v,s)=false from by unfold keyP;simp only;rw[hv1];rfl);clear hv1 hv2 i1 i2;go_upto_region 13 with fail
      go_quiet (fail)
      have HBZ:=zh (Below.drewN' (Below.refl wr.heap.size wr) nq);clear hlk;go_wp2_with fail;go_roundg (EX - (s+1))
      case measure=>have:=HLT.out;omega
      case rel=>exact⟨s+1,by have:=HLT.out;omega,rfl,by go_num,by rw[HKS.out,HKV.out,if_neg (by decide),List.append_nil];exact HO.out.below HBZ.out,HBR.out.trans (HBZ.out.mono HBR.out.size),HGE.out,HNE.out⟩
     ·rw[hv2] at hlk;simp only[Option.getD_some,Option.isSome_some] at hlk;obtain⟨Au,cu,hu⟩:=own_form hv3;subst hu;have hsl:=OwnFd.slBl hv3 (fun x hx=>HPD.out x (List.mem_filter.1 hx).1)
      have hfr:∀x∈stripeP (pieces r) (v:Int) (s:Int),0≤x.p.frag∧x.p.frag<8:=fun x hx=>by
       have h1:=validP_iff.1 (HPL.out x (List.mem_filter.1 hx).1).1;exact⟨h1.2.2.1,h1.2.2.2.1⟩
      have hsx:=SlS.below fdK hsl HBR.out;obtain⟨CB,hCB⟩:=zx (keyP F r cond (v,s));obtain⟨NA,hNA⟩:=zx ((outTo r false (stripeP (pieces r) (v:Int) (s:Int)) (KK+MM) 8).length);obtain⟨NU,hNU⟩:=zx ((outTo r true (stripeP (pieces r) (v:Int) (s:Int)) (KK+MM) 8).length)
      have hcb:cond (NA:Int) (NU:Int) KK=CB:=by
       rw[hCB,hNA,hNU,out_cnt,out_cnt];unfold keyP;simp only;rw[hv1,HKM.out.2.2.2.1,HKM.out.2.2.2.2];rfl
      have hre:=HRE.out wr (HB0.out.trans (h0x.mono HB0.out.size))
      have hkm:I64 (KK+MM):=by have:=HKM.out;unfold I64;omega
      obtain⟨LU,hLU⟩:=zx ((stripeP (pieces r) (v:Int) (s:Int)).length);rw[←hLU] at hlk hsx;have HI1:=zh (show ∀w' (hb:Below wr.heap.size wr w'),Calls Tryz.prog 71 #[.agg #[vp0,vo0,va0],.slice Au LU cu,.int .i64 (KK+MM),.bool false] w' (fun e w''=>∃A c,e=.returned (.slice A NA c)∧Below w'.heap.size w' w'') from fun w' hb=>(intact_any vp0 vo0 va0 (.slice Au LU cu) r _ (KK+MM) false w' (hre.below hb) (SlS.below fdK hsx hb) hfr hkm).mono (fun e w'' ⟨u,he,ho,hb2⟩=>by obtain⟨A,c,hu⟩:=ho.form;exact⟨A,c,by rw[he,hu,←hNA],hb2⟩));have HI2:=zh (show ∀w' (hb:Below wr.heap.size wr w'),Calls Tryz.prog 71 #[.agg #[vp0,vo0,va0],.slice Au LU cu,.int .i64 (KK+MM),.bool true] w' (fun e w''=>∃A c,e=.returned (.slice A NU c)∧Below w'.heap.size w' w'') from fun w' hb=>(intact_any vp0 vo0 va0 (.slice Au LU cu) r _ (KK+MM) true w' (hre.below hb) (SlS.below fdK hsx hb) hfr hkm).mono (fun e w'' ⟨u,he,ho,hb2⟩=>by obtain⟨A,c,hu⟩:=ho.form;exact⟨A,c,by rw[he,hu,←hNU],hb2⟩));have HCL:=zh (fun w=>HC0.out (NA:Int) (NU:Int) KK w);rw[hcb] at HCL;have HKV:=zh hCB.symm
      have hgx:g<wr.heap.size:=by
       rcases Nat.lt_or_ge g wr.heap.size with hx | hx
       ·exact hx
       ·have h1:=HGE.out;rw[Array.getElem?_eq_none hx,Array.getElem?_eq_getElem HGL.out] at h1;cases h1
      have HGX:=zh hgx;have HYG:=zh (Nat.lt_of_lt_of_le HYL.out h0x.size);obtain⟨-,y0,y1,y2,-⟩:=HC.out wr h0x;have hgrx:=range_same HGR4.out HGE.out;have HS13:=zh (show HeldC wr y g vp0 vo0 va0 (.int .i64 KK) (.int .i64 MM) wr.drew from⟨y0,y1,y2,hgrx 1 _ rfl,hgrx 2 _ rfl,(Below.refl _ _).drew⟩);obtain⟨n8,hn8⟩:=zx ((KL v s).length);obtain⟨A8,c8,hv8⟩:=HO.out.form;rw[←hn8] at hv8;have HN8:=zh hn8;subst hv8;have HOW2:=zh (fun(w':World) (hb:Below wr.heap.size wr w')=>(show w'.ownsRow w2.heap.size 67 2 (.slice A8 n8 c8) n8 ((KL v s).flatMap keyC) from by rw[hn8];exact(by have h1:=HO.out.below hb;unfold OwnKy at h1;rw[←hn8] at h1 ⊢;exact h1)))
      have k1:1≤KK:=by have:=HKM.out;omega
      have k2:KK≤2:=by have:=HKM.out;omega
      have m1:=HKM.out.2.1;have m2:=HKM.out.2.2.1;have hwr:IntKind.i64.wrap (KK+MM)=KK+MM:=IntWalk.i64_in _ (by omega);clear hv1 hv2 hv3 hsl hfr hsx hCB hNA hNU hcb hre hkm hLU hgx y0 y1 y2 hgrx hn8 i1 i2;go_upto_region 13 with fail;clear hlk;refine region_tail (S:=(fun w'=>w'.cell? ⟨y,0,none⟩=some vp0∧w'.cell? ⟨y,1,none⟩=some vo0∧w'.cell? ⟨y,2,none⟩=some va0∧w'.cell? ⟨g,1,none⟩=some (.int .i64 KK)∧w'.cell? ⟨g,2,none⟩=some (.int .i64 MM)∧Below wr.heap.size wr w')) [] (by kernel_rfl) HS13.out (fun hHeld=>?_);refine tk 0 47 ?_;refine tk 1 48 ?_;refine tk 2 49 ?_;refine tk 3 50 ?_;refine tk 4 51 ?_;refine tk 5 52 ?_;refine tk 6 53 ?_;refine tk 7 54 ?_;refine tk 8 55 ?_;refine tk 9 56 ?_;refine tk 12 59 ?_;refine tk 13 60 ?_;refine tk 14 61 ?_;refine tk 15 62 ?_;refine tk 16 63 ?_;refine tk 17 64 ?_;refine tk 18 65 ?_;refine tk 21 68 ?_;refine tk 22 69 ?_;refine readyT (rs:=[10]) (by kernel_rfl) (by simp) ?_;refine AllReadyT.cons rfl (fun K hK=>?_) ?_
      ·go_simp;(go_at_call 71;refine(HI1.out _ (HeldC.bl (by assumption))).mono ?_;rintro e w5 ⟨A5,d5,rfl,hb5⟩);go_wp2_with fail;refine hK.out _ _ ?_ (fun hHeld=>?_)
       ·(first|assumption|exact HeldC.below (by assumption) hb5 HYG.out HGX.out|exact HeldC.below (by assumption) hb6 HYG.out HGX.out)
       clear hK K;(try simp only[Act.put,z1,z2,z3]);refine tk 11 58 ?_;refine readyT (rs:=[19]) (by kernel_rfl) (by simp) ?_;refine AllReadyT.cons rfl (fun K hK=>?_) ?_
       ·go_simp;(go_at_call 71;refine(HI2.out _ (HeldC.bl (by assumption))).mono ?_;rintro e w6 ⟨A6,d6,rfl,hb6⟩);go_wp2_with fail;refine hK.out _ _ ?_ (fun hHeld=>?_)
        ·(first|assumption|exact HeldC.below (by assumption) hb5 HYG.out HGX.out|exact HeldC.below (by assumption) hb6 HYG.out HGX.out)
        clear hK K;(try simp only[Act.put,z1,z2,z3]);refine tk 20 67 ?_;refine readyT (rs:=[23]) (by kernel_rfl) (by simp) ?_;refine AllReadyT.cons rfl (fun K hK=>?_) ?_
        ·go_simp;(go_at_call 80;refine(HCL.out _).mono ?_;rintro e w7 ⟨rfl,rfl⟩);go_wp2_with fail;refine hK.out _ _ ?_ (fun hHeld=>?_)
         ·(first|assumption|exact HeldC.below (by assumption) hb5 HYG.out HGX.out|exact HeldC.below (by assumption) hb6 HYG.out HGX.out)
         clear hK K;(try simp only[Act.put,z1,z2,z3]);refine tk 24 71 ?_;refine doneT (by kernel_rfl) ?_ _;have HBZ:=zh (HeldC.bl hHeld);clear hHeld hb5 hb6
         cases hcb:CB with
         | false =>
          have hk:=HKV.out;rw[hcb] at hk;go_wp2_with fail;go_roundg (EX - (s+1))
          case measure=>have:=HLT.out;omega
          case rel=>exact⟨s+1,by have:=HLT.out;omega,rfl,by go_num,by rw[HKS.out,hk,if_neg (by decide),List.append_nil];exact HO.out.below HBZ.out,HBR.out.trans (HBZ.out.mono HBR.out.size),(HBZ.out.block g HGX.out).trans HGE.out,HNE.out⟩
         | true =>
          have hk:=HKV.out;rw[hcb] at hk;have HOW:=zh (HO.out.below HBZ.out);go_wp2_with (at_builtin;refine app_ky v s (.tmp 72) (.tmp 76) rfl rfl w2.heap.size (.slice A8 n8 c8) n8 (KL v s) HN8.out.symm (by rfl) (HOW2.out _ HBZ.out) (by rfl) (by have:=HLE.out v s HLV.out.2.1 (by have:=HLT.out;have:=HLV.out;omega);have:=HN8.out;omega) (Nat.le_trans HBR.out.size HBZ.out.size) ?_;intro v9 w9 hown9 hg9 hat9;have HO9:=zh hown9;have HG9:=zh hg9;have HA9:=zh hat9;clear hown9 hg9 hat9);go_roundg (EX - (s+1))
          case measure=>have:=HLT.out;omega
          case rel =>
           refine⟨s+1,by have:=HLT.out;omega,rfl,by go_num,by rw[HKS.out,hk,if_pos rfl];exact HO9.out,?_,?_,?_⟩
           ·exact(HBR.out.trans (HBZ.out.mono HBR.out.size)).grown HG9.out (Nat.le_trans HBR.out.size HBZ.out.size) (fun b e=>(HO.out.lt b e).1)
           ·exact(HG9.out.block g (by have:=HGX.out;have:=HBZ.out.size;omega) (fun e=>HNE.out e.symm)).trans ((HBZ.out.block g HGX.out).trans HGE.out)
           ·rcases HA9.out with e | e
            ·rw[e];exact HNE.out
            ·rw[e];intro e2;injection e2 with e2;have:=HGX.out;have:=HBZ.out.size;omega
        exact AllReadyT.nil
       exact AllReadyT.nil
      exact AllReadyT.nil
    ·-- R2{
     obtain rfl:EX=s:=by omega
     go_wp2_with fail;go_roundg (NO - (v+1))
     case measure=>have:=HLTV.out;omega
     case rel=>exact⟨v+1,by have:=HLTV.out;omega,rfl,by go_num,by rw[←HKN.out];exact HO.out,HBR.out⟩
  ·-- R1{
   obtain rfl:NO=v:=by omega
   go_wp2_with fail;go_ret;exact⟨_,rfl,HO.out.base (Nat.le_trans HB0.out.size HB2.out.size),HB0.out.trans (h0R.mono HB0.out.size)⟩
theorem missingU_any(cond:Int→Int→Int→Bool) (hC:∀(a u k:Int) (w:World),Calls Tryz.prog 68 #[.int .i64 a,.int .i64 u,.int .i64 k] w fun e w'=>e=.returned (.bool (cond a u k))∧w=w')
  (N:Nat) (hN:N≤12) (vl vm vd vv vp vo vp0 vo0 va0:Value) (F:FltM) (r:Re) (w:World) (hf:FleetS w (Bl w.heap.size) vl vm vd vv vp vo F) (hok:FleetOk N F) (h:ReS w (Bl w.heap.size) vp0 vo0 va0 r) (hp:r.plat.length≤1000) (hl:∀l∈r.plat,l.length≤1000) (hac:r.acks.length≤1000000) :
  Calls Tryz.prog 67 #[.agg #[.int .i64 F.ext,vl,vm,vd,vv,vp,vo],.agg #[vp0,vo0,va0],.func (.func 68) #[] #[]] w fun e w'=>∃u,e=.returned u∧OwnKy w' w.heap.size u (keyL F r cond F.ext.toNat F.vols.length 0)∧Below w.heap.size w w':=by
 obtain⟨pb,pof,ob,oof,cp,co,rfl,rfl,hRp,hRo,hPA⟩:=polAt hf hok;have HVA:=zh (fun(w':World) (hb:Below w.heap.size w w')=>fvalidate_any N hN vl vm vd vv _ _ F w' (hf.below hb) hok);have HIX:=zh (fun w1 h1=>index_any vp0 vo0 va0 r w1 h1 hp hl hac);have HRE:=zh (fun(w':World) (hb:Below w.heap.size w w')=>h.below hb);have hpa:=piecesTo_all r r.plat.length;have hpd:=pieces_drive r (by omega)
 obtain⟨EX,hEX,hEX1,hEX2⟩:∃n:Nat,F.ext=(n:Int)∧1≤n∧n≤2:=by rcases hok.ext with e | e <;> rw[e] <;> first | exact⟨1,rfl,by omega,by omega⟩ | exact⟨2,rfl,by omega,by omega⟩
 have hno:F.vols.length≤12:=by have:=hok.volN;omega
 obtain⟨KL,hKL⟩:∃f:Nat→Nat→List (Nat×Nat),f=keyL F r cond EX:=⟨_,rfl⟩;have HKS:=zh (fun v s=>(show KL v (s+1)=KL v s++(if keyP F r cond (v,s)=true then [(v,s)] else []) from by rw[hKL];exact keyL_succ F r cond EX v s));have HKN:=zh (fun v=>(show KL v EX=KL (v+1) 0 from by rw[hKL];unfold keyL;rw[keysTo_next]));have HK0:=zh (show KL 0 0=[] from by rw[hKL];rfl)
 have HLE:=zh (fun v s (hv:v<13) (hs:s<13)=>(show(KL v s).length≤100 from by
  have h1:=keyL_len F r cond EX v s;rw[hKL];have h2:v * EX≤12 * 2:=Nat.mul_le_mul (by omega) hEX2
  omega))
 rw[hEX] at HVA ⊢;rw[show((EX:Int)).toNat=EX from by omega,show keyL F r cond EX F.vols.length 0=KL F.vols.length 0 from by rw[hKL]];obtain⟨NO,hNO⟩:=zx F.vols.length;obtain⟨NP,hNP⟩:=zx F.pols.length
 have hnp:NP≤2:=by rw[hNP];exact hok.polN
 rw[←hNO] at hno HVA ⊢;rw[←hNP] at HVA ⊢;have HKQ:=zh (fun v (hv:v<NO)=>kmq_ok hok (show v<F.vols.length from by rw[←hNO];exact hv));have HPA:=zh hPA;have HNN:=zh (show NO=F.vols.length∧NP=F.pols.length∧NO≤12∧NP≤2 from⟨hNO,hNP,hno,hnp⟩);have HPD:=zh hpd;have HPL:=zh hpa;have HBB:=zh (show pb<w.heap.size∧ob<w.heap.size from⟨hRp,hRo⟩);obtain⟨W0,hW0⟩:=zx ((w.alloc (.cells #[.int .i64 (EX:Int),vl,vm,vd,vv,.slice (some ⟨pb,pof,none⟩) NP cp,.slice (some ⟨ob,oof,none⟩) NO co] 35)).alloc (.cells #[vp0,vo0,va0] 40));obtain⟨z,hz⟩:=zx w.heap.size;obtain⟨y,hy⟩:=zx (w.heap.size+1)
 have hb0:Below w.heap.size w W0:=by rw[hW0];exact((Below.refl _ _).alloc (Nat.le_refl _) _).alloc (by simp) _
 have hyk:W0.heap[y]?=some (.cells #[vp0,vo0,va0] 40 (0,0)):=by
  rw[hW0];exact heap_alloc_at _ _ _ (by rw[hy];simp)
 have hzk:W0.heap[z]?=some (.cells #[.int .i64 (EX:Int),vl,vm,vd,vv,.slice (some ⟨pb,pof,none⟩) NP cp,.slice (some ⟨ob,oof,none⟩) NO co] 35 (0,0)):=by
  rw[hW0,hz];exact(Below.heap_alloc _ _ _ (by simp)).trans (heap_alloc_new w _)
 have hyl:y<W0.heap.size:=(Array.getElem?_eq_some_iff.1 hyk).1;have hzl:z<W0.heap.size:=(Array.getElem?_eq_some_iff.1 hzk).1;have HC:=zh (fun(w':World) (hb:Below W0.heap.size W0 w')=>And.intro (cells7 ((hb.block z hzl).trans hzk)) (cells3 ((hb.block y hyl).trans hyk)));have HYL:=zh hyl;have HW0:=zh hW0;have HZ:=zh hz;have HY:=zh hy;have HB0:=zh hb0;obtain⟨⟨c0,c1,c2,c3,c4,c5,c6⟩,-⟩:=HC.out W0 (Below.refl _ _);have HC0:=zh hC;have HEXB:=zh (And.intro hEX1 hEX2);clear hf hok h hPA hRp hRo hpa hpd hW0 hz hy hb0 hyk hzk hyl hzl hKL hC hEX hNO hNP hnp hEX1;go_enter Tryz.func67,Tryz.ntmps67;go_wp2_with fail;rw[←HW0.out,←HY.out,←HZ.out];refine(HVA.out _ HB0.out).mono ?_;rintro e w1 ⟨rfl,hb1⟩;have HB1:=zh hb1;clear c0 c1 c2 c3 c4 c5 c6 hb1;obtain⟨-,d0,d1,d2,-⟩:=HC.out w1 HB1.out;go_wp2_with fail;have hre:=HRE.out w1 (HB0.out.trans (HB1.out.mono HB0.out.size));refine(HIX.out _ hre).mono ?_;rintro e w2 ⟨b,n,f,rfl,hbb,hM,hG,hb2⟩;have HB2:=zh (HB1.out.trans (hb2.mono HB1.out.size));have HM:=zh hM;have HGR:=zh hG;have HBM:=zh hM.lt;clear d0 d1 d2 hb2 hM hG hre hbb;obtain⟨⟨c0,c1,c2,c3,c4,c5,c6⟩,-⟩:=HC.out w2 HB2.out;go_wp2_with fail;clear c0 c1 c2 c3 c4 c5 c6;go_loopg [8,23] NO (fun z v8 v23 wr=>∃v:Nat,v≤NO∧z=NO - v∧v23=.int .i64 (v:Int)∧Hid (OwnKy wr w2.heap.size v8 (KL v 0))∧Hid (Below w2.heap.size w2 wr))
 case atStart=>exact⟨0,by omega,rfl,rfl,by rw[HK0.out];exact OwnKy.nil _ _,Below.refl _ _⟩
 case round =>
  obtain⟨v,hv,rfl,rfl,HO,HBR⟩:=hrel;have h0R:=HB2.out.trans (HBR.out.mono HB2.out.size);by_cases hlt:v<NO
  ·-- L1{
   obtain⟨n7,hn7⟩:=zx ((KL v 0).length);obtain⟨A7,c7,hv7⟩:=HO.out.form;rw[←hn7] at hv7;subst hv7;clear hn7;obtain⟨hpl,nm,hvol,a0,a4,a5,a6,a7,a8,a9,a10,a11,a12,a13,a14,a15,a16,hpol,hone⟩:=HPA.out v (by rw[←HNN.out.1];exact hlt);obtain⟨kk,m1,m2,q1,q2⟩:=HKQ.out v hlt;obtain⟨KK,hK⟩:=zx (kOf F v);obtain⟨MM,hMM⟩:=zx (mOf F v);obtain⟨QQ,hQ⟩:=zx (qOf F v);obtain⟨p,hpp⟩:=zx (volP F v);rw[←hK,←hMM,←hQ] at hpol hone;rw[←hpp] at hvol hpl hpol;rw[←hK] at kk;rw[←hMM] at m1 m2;have hb0R:=HB0.out.trans (h0R.mono HB0.out.size);have hvol':=range_same hvol (hb0R.block ob HBB.out.2);have l0:wr.cell? ⟨ob,oof+v * 2,none⟩=some (.string nm):=hvol' 0 _ rfl;have l1:wr.cell? ⟨ob,oof+v * 2+1,none⟩=some (.int .i64 (p:Int)):=hvol' 1 _ rfl;have HPOL:=zh (range_same hpol (hb0R.block pb HBB.out.1));have HONE:=zh hone;have HKM:=zh (show(KK=1∨KK=2)∧0≤MM∧MM≤2∧KK=kOf F v∧MM=mOf F v from⟨kk,m1,m2,hK,hMM⟩);obtain⟨W3,hW3⟩:=zx (wr.alloc (.cells #[.string nm,.int .i64 (p:Int)] 87));obtain⟨gv,hgv⟩:=zx wr.heap.size
   have hb3:Below wr.heap.size wr W3:=by rw[hW3];exact(Below.refl _ _).alloc (Nat.le_refl _) _
   have hgk:W3.heap[gv]?=some (.cells #[.string nm,.int .i64 (p:Int)] 87 (0,0)):=by rw[hW3,hgv];exact heap_alloc_new _ _
   have e1:W3.cell? ⟨gv,1,none⟩=some (.int .i64 (p:Int)):=by rw[cell_of_row _ _ _ _ _ _ hgk];rfl
   have HPOL3:=zh (range_same HPOL.out (hb3.block pb (Nat.lt_of_lt_of_le HBB.out.1 hb0R.size)));obtain⟨W4,hW4⟩:=zx ((W3.alloc (.cells #[.string ⟨#[]⟩,.int .i64 0,.int .i64 0,.int .i64 0,.int .i64 0,.int .i64 0,.int .i64 0,.int .i64 0,.int .i64 0,.slice none 0 0,.slice none 0 0,.bool false,.slice none 0 0,.slice none 0 0,.bool false,.slice none 0 0,.slice none 0 0] 85)).setCells W3.heap.size 0 [a0,.int .i64 KK,.int .i64 MM,.int .i64 QQ,a4,a5,a6,a7,a8,a9,a10,a11,a12,a13,a14,a15,a16]);obtain⟨g,hg⟩:=zx W3.heap.size;have hth:(W3.alloc (.cells #[.string ⟨#[]⟩,.int .i64 0,.int .i64 0,.int .i64 0,.int .i64 0,.int .i64 0,.int .i64 0,.int .i64 0,.int .i64 0,.slice none 0 0,.slice none 0 0,.bool false,.slice none 0 0,.slice none 0 0,.bool false,.slice none 0 0,.slice none 0 0] 85)).there W3.heap.size 0 17:=there_new (cs:=#[.string ⟨#[]⟩,.int .i64 0,.int .i64 0,.int .i64 0,.int .i64 0,.int .i64 0,.int .i64 0,.int .i64 0,.int .i64 0,.slice none 0 0,.slice none 0 0,.bool false,.slice none 0 0,.slice none 0 0,.bool false,.slice none 0 0,.slice none 0 0]) (heap_alloc_new W3 _) (Nat.le_refl 17)
   have hb4:Below W3.heap.size W3 W4:=by rw[hW4];exact below_setCellsV (Nat.le_refl _) _ _ _ ((Below.refl _ _).alloc (Nat.le_refl _) _)
   have hgr:W4.rangeAt g 0 [a0,.int .i64 KK,.int .i64 MM,.int .i64 QQ,a4,a5,a6,a7,a8,a9,a10,a11,a12,a13,a14,a15,a16]:=by rw[hW4,hg];exact World.rangeAt_setCells_same _ _ _ _ hth
   have hgl:g<W4.heap.size:=World.block_lt_of_cell? W4 _ (hgr 0 _ rfl);have hbr4:Below wr.heap.size wr W4:=hb3.trans (hb4.mono hb3.size);have HGR4:=zh hgr;have HGL:=zh hgl;have HB4:=zh (HBR.out.trans (hbr4.mono HBR.out.size));have HO4:=zh (HO.out.below hbr4)
   have hng:∀b,(Value.slice A7 n7 c7).ownBlock=some b→b≠g:=fun b e=>by have h1:=(HO.out.lt b e).2;have h2:=hb3.size;omega
   have HNG:=zh (show(Value.slice A7 n7 c7).ownBlock≠some g from fun e=>hng g e rfl);have HTH:=zh hth;have HW3:=zh hW3;have HGV:=zh hgv;have HW4:=zh hW4;have HG:=zh hg;have HLTV:=zh hlt
   have ip:(p:Int)<(NP:Int):=by have:=HNN.out.2.1;omega
   have HC3:=zh (h0R.trans ((hb3.mono h0R.size)));have HC4:=zh (h0R.trans ((hbr4.mono h0R.size)));clear hvol hvol' hpol hone hW3 hgv hb3 hgk hW4 hg hth hb4 hgr hgl hbr4 hng hb0R kk q1 q2 hK hMM hQ hpp hpl m1 m2;go_upto_region 8 with fail;rw[←HW3.out,←HGV.out];clear l0 l1;obtain⟨⟨c0,c1,c2,c3,c4,c5,c6⟩,-⟩:=HC.out W3 HC3.out;go_upto_region 9 with (first | (refine wpList_load_mid rfl 85 (.tmp 32) rfl pb (pof+p * 17) (by rfl) [a0,.int .i64 KK,.int .i64 MM,.int .i64 QQ,a4,a5,a6,a7,a8,a9,a10,a11,a12,a13,a14,a15,a16] _ HPOL3.out Tryz.underlying85 rfl size_pol ?_) | (refine wpList_store_mid rfl 85 (.tmp 11) (.tmp 33) rfl W3.heap.size 0 #[a0,.int .i64 KK,.int .i64 MM,.int .i64 QQ,a4,a5,a6,a7,a8,a9,a10,a11,a12,a13,a14,a15,a16] (by rfl) (by rfl) HTH.out size_pol HONE.out ?_;rw[←HW4.out,←HG.out]));clear c0 c1 c2 c3 c4 c5 c6 e1;obtain⟨⟨c0,c1,c2,c3,c4,c5,c6⟩,-⟩:=HC.out W4 HC4.out;go_wp2_with fail;clear c0 c1 c2 c3 c4 c5 c6;go_loopg [8,36] EX (fun z v8 v36 wx=>∃s:Nat,s≤EX∧z=EX - s∧v36=.int .i64 (s:Int)∧Hid (OwnKy wx w2.heap.size v8 (KL v s))∧Hid (Below w2.heap.size w2 wx)∧Hid (wx.heap[g]?=W4.heap[g]?)∧Hid (v8.ownBlock≠some g))
   case atStart=>exact⟨0,by omega,rfl,rfl,HO4.out,HB4.out,rfl,HNG.out⟩
   case round =>
    clear HO HBR HO4 HB4 HNG;obtain⟨s,hs,rfl,rfl,HO,HBR,HGE,HNE⟩:=hrel;have h0x:=HB2.out.trans (HBR.out.mono HB2.out.size);by_cases hls:s<EX
    ·-- L2{
     have HMx:=zh (HM.out.below HBR.out HBM.out)
     have i1:I64 (v:Int):=by have:=HNN.out;unfold I64;omega
     have i2:I64 (s:Int):=by have:=HEXB.out;unfold I64;omega
     have hlk:=HMx.out.look_ok key_two Tryz.underlying144 (zero_fds _) i1 i2;have HLT:=zh hls;have HLV:=zh (show v<NO∧v<13∧EX≤2 from⟨HLTV.out,by have:=HNN.out;have:=HLTV.out;omega,HEXB.out.2⟩);unfold kv at hlk;rcases HGR.out.1 (v:Int) (s:Int) i1 i2 with ⟨hv1,hv2⟩ | ⟨hv1,u,hv2,hv3⟩
     ·rw[hv2] at hlk;simp only[Option.getD_none,Option.isSome_none] at hlk;have HKV:=zh (show keyP F r cond (v,s)=false from by unfold keyP;simp only;rw[hv1];rfl);clear hv1 hv2 i1 i2;go_upto_region 13 with fail
      go_quiet (fail)
      have HBZ:=zh (Below.drewN' (Below.refl wr.heap.size wr) nq);clear hlk;go_wp2_with fail;go_roundg (EX - (s+1))
      case measure=>have:=HLT.out;omega
      case rel=>exact⟨s+1,by have:=HLT.out;omega,rfl,by go_num,by rw[HKS.out,HKV.out,if_neg (by decide),List.append_nil];exact HO.out.below HBZ.out,HBR.out.trans (HBZ.out.mono HBR.out.size),HGE.out,HNE.out⟩
     ·rw[hv2] at hlk;simp only[Option.getD_some,Option.isSome_some] at hlk;obtain⟨Au,cu,hu⟩:=own_form hv3;subst hu;have hsl:=OwnFd.slBl hv3 (fun x hx=>HPD.out x (List.mem_filter.1 hx).1)
      have hfr:∀x∈stripeP (pieces r) (v:Int) (s:Int),0≤x.p.frag∧x.p.frag<8:=fun x hx=>by
       have h1:=validP_iff.1 (HPL.out x (List.mem_filter.1 hx).1).1;exact⟨h1.2.2.1,h1.2.2.2.1⟩
      have hsx:=SlS.below fdK hsl HBR.out;obtain⟨CB,hCB⟩:=zx (keyP F r cond (v,s));obtain⟨NA,hNA⟩:=zx ((outTo r false (stripeP (pieces r) (v:Int) (s:Int)) (KK+MM) 8).length);obtain⟨NU,hNU⟩:=zx ((outTo r true (stripeP (pieces r) (v:Int) (s:Int)) (KK+MM) 8).length)
      have hcb:cond (NA:Int) (NU:Int) KK=CB:=by
       rw[hCB,hNA,hNU,out_cnt,out_cnt];unfold keyP;simp only;rw[hv1,HKM.out.2.2.2.1,HKM.out.2.2.2.2];rfl
      have hre:=HRE.out wr (HB0.out.trans (h0x.mono HB0.out.size))
      have hkm:I64 (KK+MM):=by have:=HKM.out;unfold I64;omega
      obtain⟨LU,hLU⟩:=zx ((stripeP (pieces r) (v:Int) (s:Int)).length);rw[←hLU] at hlk hsx;have HI1:=zh (show ∀w' (hb:Below wr.heap.size wr w'),Calls Tryz.prog 71 #[.agg #[vp0,vo0,va0],.slice Au LU cu,.int .i64 (KK+MM),.bool false] w' (fun e w''=>∃A c,e=.returned (.slice A NA c)∧Below w'.heap.size w' w'') from fun w' hb=>(intact_any vp0 vo0 va0 (.slice Au LU cu) r _ (KK+MM) false w' (hre.below hb) (SlS.below fdK hsx hb) hfr hkm).mono (fun e w'' ⟨u,he,ho,hb2⟩=>by obtain⟨A,c,hu⟩:=ho.form;exact⟨A,c,by rw[he,hu,←hNA],hb2⟩));have HI2:=zh (show ∀w' (hb:Below wr.heap.size wr w'),Calls Tryz.prog 71 #[.agg #[vp0,vo0,va0],.slice Au LU cu,.int .i64 (KK+MM),.bool true] w' (fun e w''=>∃A c,e=.returned (.slice A NU c)∧Below w'.heap.size w' w'') from fun w' hb=>(intact_any vp0 vo0 va0 (.slice Au LU cu) r _ (KK+MM) true w' (hre.below hb) (SlS.below fdK hsx hb) hfr hkm).mono (fun e w'' ⟨u,he,ho,hb2⟩=>by obtain⟨A,c,hu⟩:=ho.form;exact⟨A,c,by rw[he,hu,←hNU],hb2⟩));have HCL:=zh (fun w=>HC0.out (NA:Int) (NU:Int) KK w);rw[hcb] at HCL;have HKV:=zh hCB.symm
      have hgx:g<wr.heap.size:=by
       rcases Nat.lt_or_ge g wr.heap.size with hx | hx
       ·exact hx
       ·have h1:=HGE.out;rw[Array.getElem?_eq_none hx,Array.getElem?_eq_getElem HGL.out] at h1;cases h1
      have HGX:=zh hgx;have HYG:=zh (Nat.lt_of_lt_of_le HYL.out h0x.size);obtain⟨-,y0,y1,y2,-⟩:=HC.out wr h0x;have hgrx:=range_same HGR4.out HGE.out;have HS13:=zh (show HeldC wr y g vp0 vo0 va0 (.int .i64 KK) (.int .i64 MM) wr.drew from⟨y0,y1,y2,hgrx 1 _ rfl,hgrx 2 _ rfl,(Below.refl _ _).drew⟩);obtain⟨n8,hn8⟩:=zx ((KL v s).length);obtain⟨A8,c8,hv8⟩:=HO.out.form;rw[←hn8] at hv8;have HN8:=zh hn8;subst hv8;have HOW2:=zh (fun(w':World) (hb:Below wr.heap.size wr w')=>(show w'.ownsRow w2.heap.size 67 2 (.slice A8 n8 c8) n8 ((KL v s).flatMap keyC) from by rw[hn8];exact(by have h1:=HO.out.below hb;unfold OwnKy at h1;rw[←hn8] at h1 ⊢;exact h1)))
      have k1:1≤KK:=by have:=HKM.out;omega
      have k2:KK≤2:=by have:=HKM.out;omega
      have m1:=HKM.out.2.1;have m2:=HKM.out.2.2.1;have hwr:IntKind.i64.wrap (KK+MM)=KK+MM:=IntWalk.i64_in _ (by omega);clear hv1 hv2 hv3 hsl hfr hsx hCB hNA hNU hcb hre hkm hLU hgx y0 y1 y2 hgrx hn8 i1 i2;go_upto_region 13 with fail;clear hlk;refine region_tail (S:=(fun w'=>w'.cell? ⟨y,0,none⟩=some vp0∧w'.cell? ⟨y,1,none⟩=some vo0∧w'.cell? ⟨y,2,none⟩=some va0∧w'.cell? ⟨g,1,none⟩=some (.int .i64 KK)∧w'.cell? ⟨g,2,none⟩=some (.int .i64 MM)∧Below wr.heap.size wr w')) [] (by kernel_rfl) HS13.out (fun hHeld=>?_);refine tk 0 47 ?_;refine tk 1 48 ?_;refine tk 2 49 ?_;refine tk 3 50 ?_;refine tk 4 51 ?_;refine tk 5 52 ?_;refine tk 6 53 ?_;refine tk 7 54 ?_;refine tk 8 55 ?_;refine tk 9 56 ?_;refine tk 12 59 ?_;refine tk 13 60 ?_;refine tk 14 61 ?_;refine tk 15 62 ?_;refine tk 16 63 ?_;refine tk 17 64 ?_;refine tk 18 65 ?_;refine tk 21 68 ?_;refine tk 22 69 ?_;refine readyT (rs:=[10]) (by kernel_rfl) (by simp) ?_;refine AllReadyT.cons rfl (fun K hK=>?_) ?_
      ·go_simp;(go_at_call 71;refine(HI1.out _ (HeldC.bl (by assumption))).mono ?_;rintro e w5 ⟨A5,d5,rfl,hb5⟩);go_wp2_with fail;refine hK.out _ _ ?_ (fun hHeld=>?_)
       ·(first|assumption|exact HeldC.below (by assumption) hb5 HYG.out HGX.out|exact HeldC.below (by assumption) hb6 HYG.out HGX.out)
       clear hK K;(try simp only[Act.put,z1,z2,z3]);refine tk 11 58 ?_;refine readyT (rs:=[19]) (by kernel_rfl) (by simp) ?_;refine AllReadyT.cons rfl (fun K hK=>?_) ?_
       ·go_simp;(go_at_call 71;refine(HI2.out _ (HeldC.bl (by assumption))).mono ?_;rintro e w6 ⟨A6,d6,rfl,hb6⟩);go_wp2_with fail;refine hK.out _ _ ?_ (fun hHeld=>?_)
        ·(first|assumption|exact HeldC.below (by assumption) hb5 HYG.out HGX.out|exact HeldC.below (by assumption) hb6 HYG.out HGX.out)
        clear hK K;(try simp only[Act.put,z1,z2,z3]);refine tk 20 67 ?_;refine readyT (rs:=[23]) (by kernel_rfl) (by simp) ?_;refine AllReadyT.cons rfl (fun K hK=>?_) ?_
        ·go_simp;(go_at_call 68;refine(HCL.out _).mono ?_;rintro e w7 ⟨rfl,rfl⟩);go_wp2_with fail;refine hK.out _ _ ?_ (fun hHeld=>?_)
         ·(first|assumption|exact HeldC.below (by assumption) hb5 HYG.out HGX.out|exact HeldC.below (by assumption) hb6 HYG.out HGX.out)
         clear hK K;(try simp only[Act.put,z1,z2,z3]);refine tk 24 71 ?_;refine doneT (by kernel_rfl) ?_ _;have HBZ:=zh (HeldC.bl hHeld);clear hHeld hb5 hb6
         cases hcb:CB with
         | false =>
          have hk:=HKV.out;rw[hcb] at hk;go_wp2_with fail;go_roundg (EX - (s+1))
          case measure=>have:=HLT.out;omega
          case rel=>exact⟨s+1,by have:=HLT.out;omega,rfl,by go_num,by rw[HKS.out,hk,if_neg (by decide),List.append_nil];exact HO.out.below HBZ.out,HBR.out.trans (HBZ.out.mono HBR.out.size),(HBZ.out.block g HGX.out).trans HGE.out,HNE.out⟩
         | true =>
          have hk:=HKV.out;rw[hcb] at hk;have HOW:=zh (HO.out.below HBZ.out);go_wp2_with (at_builtin;refine app_ky v s (.tmp 72) (.tmp 76) rfl rfl w2.heap.size (.slice A8 n8 c8) n8 (KL v s) HN8.out.symm (by rfl) (HOW2.out _ HBZ.out) (by rfl) (by have:=HLE.out v s HLV.out.2.1 (by have:=HLT.out;have:=HLV.out;omega);have:=HN8.out;omega) (Nat.le_trans HBR.out.size HBZ.out.size) ?_;intro v9 w9 hown9 hg9 hat9;have HO9:=zh hown9;have HG9:=zh hg9;have HA9:=zh hat9;clear hown9 hg9 hat9);go_roundg (EX - (s+1))
          case measure=>have:=HLT.out;omega
          case rel =>
           refine⟨s+1,by have:=HLT.out;omega,rfl,by go_num,by rw[HKS.out,hk,if_pos rfl];exact HO9.out,?_,?_,?_⟩
           ·exact(HBR.out.trans (HBZ.out.mono HBR.out.size)).grown HG9.out (Nat.le_trans HBR.out.size HBZ.out.size) (fun b e=>(HO.out.lt b e).1)
           ·exact(HG9.out.block g (by have:=HGX.out;have:=HBZ.out.size;omega) (fun e=>HNE.out e.symm)).trans ((HBZ.out.block g HGX.out).trans HGE.out)
           ·rcases HA9.out with e | e
            ·rw[e];exact HNE.out
            ·rw[e];intro e2;injection e2 with e2;have:=HGX.out;have:=HBZ.out.size;omega
        exact AllReadyT.nil
       exact AllReadyT.nil
      exact AllReadyT.nil
    ·-- R2{
     obtain rfl:EX=s:=by omega
     go_wp2_with fail;go_roundg (NO - (v+1))
     case measure=>have:=HLTV.out;omega
     case rel=>exact⟨v+1,by have:=HLTV.out;omega,rfl,by go_num,by rw[←HKN.out];exact HO.out,HBR.out⟩
  ·-- R1{
   obtain rfl:NO=v:=by omega
   go_wp2_with fail;go_ret;exact⟨_,rfl,HO.out.base (Nat.le_trans HB0.out.size HB2.out.size),HB0.out.trans (h0R.mono HB0.out.size)⟩
end Go.Proofs.YtcfkllnpkmebpaaGreatDoor
