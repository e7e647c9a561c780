/- The policy of a volume; how many fragments a volume has: five texts of one shape, walked. -/
import Derived.Test.YtgfaieppacabjaaGreatMy13
set_option linter.unusedSectionVars false
set_option maxRecDepth 100000
set_option maxHeartbeats 12800000
namespace Go.Proofs.YtgfaieppacabjaaGreat
open Go.RowKit
set_option linter.unusedVariables false
set_option linter.unusedSimpArgs false
def volP(F:FltM)(v:Nat):Nat:=match F.vols[v]? with | some x=>x.pol.toNat | none=>0
def kOf(F:FltM)(v:Nat):Int:=match F.pols[volP F v]? with | some x=>x.k | none=>1
def mOf(F:FltM)(v:Nat):Int:=match F.pols[volP F v]? with | some x=>x.m | none=>0
def qOf(F:FltM)(v:Nat):Int:=match F.pols[volP F v]? with | some x=>x.q | none=>1
def PolAt(w:World)(F:FltM)(pb pof ob oof:Nat):Prop:=∀v,v<F.vols.length->volP F v<F.pols.length/\∃nm:ByteArray,w.rangeAt ob (oof+v*2) [.string nm,.int .i64 (volP F v:Int)] /\
 ∃a0 a4 a5 a6 a7 a8 a9 a10 a11 a12 a13 a14 a15 a16:Value,w.rangeAt pb (pof+volP F v*17) [a0,.int .i64 (kOf F v),.int .i64 (mOf F v),.int .i64 (qOf F v),a4,a5,a6,a7,a8,a9,a10,a11,a12,a13,a14,a15,a16]/\(#[a0,.int .i64 (kOf F v),.int .i64 (mOf F v),.int .i64 (qOf F v),a4,a5,a6,a7,a8,a9,a10,a11,a12,a13,a14,a15,a16]:Array Value).all (·.oneCell')=true
theorem volP_lt{N:Nat}{F:FltM}(hok:FleetOk N F){v:Nat}(hv:v<F.vols.length):volP F v<F.pols.length/\(F.vols[v]).pol=(volP F v:Int):=by
 obtain⟨-,-,p,h1,h2⟩:=hok.vols v F.vols[v] (zG hv)
 have e:volP F v=p:=by unfold volP;rw[zG hv];simp[h1]
 rw[e];exact⟨h2,h1⟩
theorem kmq_ok{N:Nat}{F:FltM}(hok:FleetOk N F){v:Nat}(hv:v<F.vols.length):(kOf F v=1\/kOf F v=2)/\0<=mOf F v/\mOf F v<=4/\kOf F v<=qOf F v/\qOf F v<=kOf F v+mOf F v:=by
 have hp:=(volP_lt hok hv).1;obtain⟨-,-,h1,h2,h3,h4,h5,-⟩:=hok.pols (volP F v) F.pols[volP F v] (zG hp);unfold kOf mOf qOf;rw[zG hp];exact⟨h1,h2,h3,h4,h5⟩
theorem polAt{N:Nat}{F:FltM}{w:World}{R:Nat->Prop}{vl vm vd vv vp vo:Value}(hf:FleetS w R vl vm vd vv vp vo F)(hok:FleetOk N F) :
  ∃pb pof ob oof cp co,vp=.slice (some ⟨pb,pof,none⟩) F.pols.length cp/\vo=.slice (some ⟨ob,oof,none⟩) F.vols.length co/\R pb/\R ob/\PolAt w F pb pof ob oof:=by
 obtain⟨Ap,cp,rfl,-,-⟩:=hf.2.2.2.2.1.form;obtain⟨Ao,co,rfl,-,-⟩:=hf.2.2.2.2.2.form;obtain⟨pb,pof,cs0,rfl,hRp,-⟩:=hf.2.2.2.2.1.at_ (k:=0) (by have:=hok.pol1;omega);obtain⟨ob,oof,cs1,rfl,hRo,-⟩:=hf.2.2.2.2.2.at_ (k:=0) (by have:=hok.vol1;omega);refine⟨pb,pof,ob,oof,cp,co,rfl,rfl,hRp,hRo,fun v hv=>?_⟩;obtain⟨hp,hpe⟩:=volP_lt hok hv;refine⟨hp,F.vols[v].name,?_,?_⟩
 ·obtain⟨b,off,cs,e,-,-,hc,hcs⟩:=hf.2.2.2.2.2.at_ (k:=v) hv;injection e with e;injection e with e1 e2;subst e1 e2;unfold VolK at hcs;rw[hpe] at hcs;subst hcs;exact hc
 ·obtain⟨b,off,cs,e,-,-,hc,vm,vr,tn,td,hn,hd,hcs,k1,k2,k3,k4,k5,k6⟩:=hf.2.2.2.2.1.at_ (k:=volP F v) hp;injection e with e;injection e with e1 e2;subst e1 e2;obtain⟨A1,c1,rfl,-,-⟩:=k1.form7;obtain⟨A2,c2,rfl,-,-⟩:=k2.form;obtain⟨A3,N3,c3,rfl⟩:=k3.frm;obtain⟨A4,N4,c4,rfl⟩:=k4.frm;obtain⟨A5,N5,c5,rfl⟩:=k5.frm;obtain⟨A6,N6,c6,rfl⟩:=k6.frm;subst hcs
  have ek:kOf F v=F.pols[volP F v].k:=by unfold kOf;rw[zG hp]
  have em:mOf F v=F.pols[volP F v].m:=by unfold mOf;rw[zG hp]
  have eq:qOf F v=F.pols[volP F v].q:=by unfold qOf;rw[zG hp]
  rw[ek,em,eq];exact⟨_,_,_,_,_,_,_,_,_,_,_,_,_,_,hc,by simp[Value.oneCell']⟩
def szN(F:FltM)(v:Nat):Nat:=(kOf F v+mOf F v).toNat
theorem szN_eq{N:Nat}{F:FltM}(hok:FleetOk N F){v:Nat}(hv:v<F.vols.length):(szN F v:Int)=kOf F v+mOf F v:=by
 obtain⟨h1,h2,-⟩:=kmq_ok hok hv;unfold szN;omega
theorem szN_range{N:Nat}{F:FltM}(hok:FleetOk N F){v:Nat}(hv:v<F.vols.length):1<=szN F v/\szN F v<=6:=by
 obtain⟨h1,h2,h3,-⟩:=kmq_ok hok hv;unfold szN;omega
theorem msize_any(N:Nat)(hN:N<=12)(vl vm vd vv vp vo:Value)(F:FltM)(v:Nat)(w:World)(hf:FleetS w (Bl w.heap.size) vl vm vd vv vp vo F)(hok:FleetOk N F)(hv:v<F.vols.length) :
  Calls Tryz.prog 64 #[.agg #[.int .i64 F.ext,vl,vm,vd,vv,vp,vo],.int .i64 (v:Int)] w fun e w'=>e=.returned (.int .i64 (szN F v:Int))/\Below w.heap.size w w':=by
 obtain⟨pb,pof,ob,oof,cp,co,rfl,rfl,hRp,hRo,hat⟩:=polAt hf hok;obtain⟨hp,nm,hvol,a0,a4,a5,a6,a7,a8,a9,a10,a11,a12,a13,a14,a15,a16,hpol,hone⟩:=hat v hv;obtain⟨hk1,hm0,hm4,-,-⟩:=kmq_ok hok hv;have hsz:=szN_eq hok hv;obtain⟨NP,hNP⟩:=zx F.pols.length;obtain⟨NO,hNO⟩:=zx F.vols.length
 have hNP2:NP<=2:=by rw[hNP];exact hok.polN
 have hNO12:NO<=12:=by rw[hNO];have:=hok.volN;omega
 obtain⟨p0,hp0⟩:=zx (volP F v);obtain⟨KK,hKK⟩:=zx (kOf F v);obtain⟨MM,hMM⟩:=zx (mOf F v);obtain⟨QQ,hQQ⟩:=zx (qOf F v);obtain⟨EX,hEX⟩:=zx F.ext;obtain⟨SZ,hSZ⟩:∃n:Int,n=(szN F v:Int):=⟨_,rfl⟩;rw[<-hp0] at hvol hpol hp;rw[<-hKK,<-hMM,<-hQQ] at hpol hone;rw[<-hKK] at hk1 hsz;rw[<-hMM] at hm0 hm4 hsz;rw[<-hSZ] at hsz;rw[<-hNP] at hp;rw[<-hNO] at hv;rw[<-hEX,<-hNP,<-hNO,<-hSZ];clear hp0 hKK hMM hQQ hEX hNP hNO hSZ hat hf hok
 have hsum:IntKind.i64.wrap (KK+MM)=SZ:=by rw[hsz];exact zI _ (by omega)
 have hsum2:wrap64 (KK+MM)=SZ:=by rw[hsz];exact IntWalk.wrap64_in _ (by omega)
 obtain⟨W0,hW0⟩:=zx (w.alloc (.cells #[.int .i64 EX,vl,vm,vd,vv,.slice (some ⟨pb,pof,none⟩) NP cp,.slice (some ⟨ob,oof,none⟩) NO co] 35));obtain⟨z,hz⟩:=zx w.heap.size
 have hb0:Below w.heap.size w W0:=by rw[hW0];exact(zB _ _).alloc (zR _) _
 have hzk:W0.heap[z]?=some (.cells #[.int .i64 EX,vl,vm,vd,vv,.slice (some ⟨pb,pof,none⟩) NP cp,.slice (some ⟨ob,oof,none⟩) NO co] 35 (0,0)):=by rw[hW0,hz];exact zN w _
 have hzl:z<W0.heap.size:=(zA.1 hzk).1;have hob:ob<w.heap.size:=World.block_lt_of_cell? w _ (hvol 0 _ rfl);have hpb:pb<w.heap.size:=World.block_lt_of_cell? w _ (hpol 0 _ rfl)
 have HSK:=zh (fun(w':World) (hb:Below W0.heap.size W0 w')=>(show w'.cell? ⟨z,5,none⟩=some (.slice (some ⟨pb,pof,none⟩) NP cp)/\w'.cell? ⟨z,6,none⟩=some (.slice (some ⟨ob,oof,none⟩) NO co)/\w'.cell? ⟨ob,oof+v*2+1,none⟩=some (.int .i64 (p0:Int))/\w'.rangeAt pb (pof+p0*17) [a0,.int .i64 KK,.int .i64 MM,.int .i64 QQ,a4,a5,a6,a7,a8,a9,a10,a11,a12,a13,a14,a15,a16] from
  ⟨by rw[cell_of_row w' z 5 _ _ _ ((hb.block z hzl).trans hzk)];rfl,by rw[cell_of_row w' z 6 _ _ _ ((hb.block z hzl).trans hzk)];rfl,(World.cell?_of_block (w:=w) (w':=w') ((hb.block ob (zM hob hb0.size)).trans (hb0.block ob hob))).trans (hvol 1 _ rfl),range_same hpol ((hb.block pb (zM hpb hb0.size)).trans (hb0.block pb hpb))⟩))
 have HTH:=zh (show((W0.alloc (.cells #[.string ⟨#[]⟩,.int .i64 0,.int .i64 0,.int .i64 0,.int .i64 0,.int .i64 0,.int .i64 0,.int .i64 0,.int .i64 0,.slice none 0 0,.slice none 0 0,.bool false,.slice none 0 0,.slice none 0 0,.bool false,.slice none 0 0,.slice none 0 0] 55)).drew).there W0.heap.size 0 17 from there_new (w:=(W0.alloc (.cells #[.string ⟨#[]⟩,.int .i64 0,.int .i64 0,.int .i64 0,.int .i64 0,.int .i64 0,.int .i64 0,.int .i64 0,.int .i64 0,.slice none 0 0,.slice none 0 0,.bool false,.slice none 0 0,.slice none 0 0,.bool false,.slice none 0 0,.slice none 0 0] 55)).drew) (cs:=#[.string ⟨#[]⟩,.int .i64 0,.int .i64 0,.int .i64 0,.int .i64 0,.int .i64 0,.int .i64 0,.int .i64 0,.int .i64 0,.slice none 0 0,.slice none 0 0,.bool false,.slice none 0 0,.slice none 0 0,.bool false,.slice none 0 0,.slice none 0 0]) (zN W0 _) (zR 17));have HON:=zh hone;have HW0:=zh hW0;have HQ:=zh hz;have HB0:=zh hb0
 have i1:(v:Int)<(NO:Int):=by omega
 have i2:(p0:Int)<(NP:Int):=by omega
 clear hvol hpol hone hW0 hz hb0 hzk hzl hob hpb hv hp hsz;go_enter Tryz.func64,Tryz.ntmps64;go_upto_region 1 with fail;rw[<-HW0.out,<-HQ.out];refine region_tail (S:=(fun w'=>w'.cell? ⟨z,5,none⟩=some (.slice (some ⟨pb,pof,none⟩) NP cp)/\w'.cell? ⟨z,6,none⟩=some (.slice (some ⟨ob,oof,none⟩) NO co)/\w'.cell? ⟨ob,oof+v*2+1,none⟩=some (.int .i64 (p0:Int))/\w'.rangeAt pb (pof+p0*17) [a0,.int .i64 KK,.int .i64 MM,.int .i64 QQ,a4,a5,a6,a7,a8,a9,a10,a11,a12,a13,a14,a15,a16])) [11] (by kernel_rfl) (HSK.out _ (zB _ _).drew) (fun hHeld=>?_);refine tk 0 6 ?_;refine tk 1 7 ?_;refine tk 2 8 ?_;refine tk 3 9 ?_;refine tk 4 10 ?_;refine tk 5 11 ?_;refine tk 6 12 ?_;refine tk 7 13 ?_;refine tk 8 14 ?_;refine takeT (i:=9) (d:=15) (v:=(.agg #[a0,.int .i64 KK,.int .i64 MM,.int .i64 QQ,a4,a5,a6,a7,a8,a9,a10,a11,a12,a13,a14,a15,a16])) rfl rfl (by kernel_rfl) (by kernel_rfl) (by kernel_rfl) (by kernel_rfl) (fun _ _ _ h=>h) (yieldsIf_load_mid (by rfl) 55 (.tmp 14) rfl pb (pof+p0*17) (by rfl) [a0,.int .i64 KK,.int .i64 MM,.int .i64 QQ,a4,a5,a6,a7,a8,a9,a10,a11,a12,a13,a14,a15,a16] _ (fun w hw=>hw.2.2.2) Tryz.underlying55 rfl size_pol) (by assumption) ?_;(try simp only[Act.put,z1,z2,z3]);refine readyT (rs:=[10]) (by kernel_rfl) (by simp) ?_;refine zC rfl (fun K hK=>?_) ?_
 ·go_simp;refine hK.out _ _ ?_ (fun hHeld=>?_)
  ·exact HSK.out _ ((zB _ _).drew.alloc (zR _) _)
  clear hK K;(try simp only[Act.put,z1,z2,z3]);refine readyT (rs:=[11]) (by kernel_rfl) (by simp) ?_;refine zD rfl rfl (fun K hK=>?_) ?_
  ·rw[if_pos (by rfl)];refine wp_store_mid 55 (.tmp 5) (.tmp 15) rfl W0.heap.size 0 #[a0,.int .i64 KK,.int .i64 MM,.int .i64 QQ,a4,a5,a6,a7,a8,a9,a10,a11,a12,a13,a14,a15,a16] (by rfl) (by rfl) HTH.out size_pol HON.out ?_;refine hK.out _ _ ?_;clear hK K;(try simp only[Act.put,z1,z2,z3]);refine doneT (by kernel_rfl) ?_ _;clear hHeld;obtain⟨W6,hW6⟩:=zx (World.setCells ((W0.alloc (.cells #[.string ⟨#[]⟩,.int .i64 0,.int .i64 0,.int .i64 0,.int .i64 0,.int .i64 0,.int .i64 0,.int .i64 0,.int .i64 0,.slice none 0 0,.slice none 0 0,.bool false,.slice none 0 0,.slice none 0 0,.bool false,.slice none 0 0,.slice none 0 0] 55)).drew) W0.heap.size 0 [a0,.int .i64 KK,.int .i64 MM,.int .i64 QQ,a4,a5,a6,a7,a8,a9,a10,a11,a12,a13,a14,a15,a16]);obtain⟨gp,hgp⟩:=zx W0.heap.size;rw[<-hW6,<-hgp]
   have hb6:Below W0.heap.size W0 W6:=by rw[hW6];exact below_setCellsV (zR _) _ _ _ ((zB _ _).alloc (zR _) _).drew
   have hgr:W6.rangeAt gp 0 [a0,.int .i64 KK,.int .i64 MM,.int .i64 QQ,a4,a5,a6,a7,a8,a9,a10,a11,a12,a13,a14,a15,a16]:=by rw[hW6,hgp];exact World.rangeAt_setCells_same _ _ _ _ HTH.out
   have g1:W6.cell? ⟨gp,1,none⟩=some (.int .i64 KK):=hgr 1 _ rfl;have g2:W6.cell? ⟨gp,2,none⟩=some (.int .i64 MM):=hgr 2 _ rfl;have HB6:=zh (HB0.out.trans (hb6.mono HB0.out.size));clear hW6 hgp hb6 hgr HTH HSK;go_wp2_with fail;go_ret;exact⟨rfl,HB6.out⟩
  exact zE
 exact zE
theorem rfragments_any(N:Nat)(hN:N<=12)(vl vm vd vv vp vo:Value)(F:FltM)(v:Nat)(w:World)(hf:FleetS w (Bl w.heap.size) vl vm vd vv vp vo F)(hok:FleetOk N F)(hv:v<F.vols.length) :
  Calls Tryz.prog 52 #[.agg #[.int .i64 F.ext,vl,vm,vd,vv,vp,vo],.int .i64 (v:Int)] w fun e w'=>e=.returned (.int .i64 (szN F v:Int))/\Below w.heap.size w w':=by
 obtain⟨pb,pof,ob,oof,cp,co,rfl,rfl,hRp,hRo,hat⟩:=polAt hf hok;obtain⟨hp,nm,hvol,a0,a4,a5,a6,a7,a8,a9,a10,a11,a12,a13,a14,a15,a16,hpol,hone⟩:=hat v hv;obtain⟨hk1,hm0,hm4,-,-⟩:=kmq_ok hok hv;have hsz:=szN_eq hok hv;obtain⟨NP,hNP⟩:=zx F.pols.length;obtain⟨NO,hNO⟩:=zx F.vols.length
 have hNP2:NP<=2:=by rw[hNP];exact hok.polN
 have hNO12:NO<=12:=by rw[hNO];have:=hok.volN;omega
 obtain⟨p0,hp0⟩:=zx (volP F v);obtain⟨KK,hKK⟩:=zx (kOf F v);obtain⟨MM,hMM⟩:=zx (mOf F v);obtain⟨QQ,hQQ⟩:=zx (qOf F v);obtain⟨EX,hEX⟩:=zx F.ext;obtain⟨SZ,hSZ⟩:∃n:Int,n=(szN F v:Int):=⟨_,rfl⟩;rw[<-hp0] at hvol hpol hp;rw[<-hKK,<-hMM,<-hQQ] at hpol hone;rw[<-hKK] at hk1 hsz;rw[<-hMM] at hm0 hm4 hsz;rw[<-hSZ] at hsz;rw[<-hNP] at hp;rw[<-hNO] at hv;rw[<-hEX,<-hNP,<-hNO,<-hSZ];clear hp0 hKK hMM hQQ hEX hNP hNO hSZ hat hf hok
 have hsum:IntKind.i64.wrap (KK+MM)=SZ:=by rw[hsz];exact zI _ (by omega)
 have hsum2:wrap64 (KK+MM)=SZ:=by rw[hsz];exact IntWalk.wrap64_in _ (by omega)
 obtain⟨W0,hW0⟩:=zx (w.alloc (.cells #[.int .i64 EX,vl,vm,vd,vv,.slice (some ⟨pb,pof,none⟩) NP cp,.slice (some ⟨ob,oof,none⟩) NO co] 35));obtain⟨z,hz⟩:=zx w.heap.size
 have hb0:Below w.heap.size w W0:=by rw[hW0];exact(zB _ _).alloc (zR _) _
 have hzk:W0.heap[z]?=some (.cells #[.int .i64 EX,vl,vm,vd,vv,.slice (some ⟨pb,pof,none⟩) NP cp,.slice (some ⟨ob,oof,none⟩) NO co] 35 (0,0)):=by rw[hW0,hz];exact zN w _
 have hzl:z<W0.heap.size:=(zA.1 hzk).1;have hob:ob<w.heap.size:=World.block_lt_of_cell? w _ (hvol 0 _ rfl);have hpb:pb<w.heap.size:=World.block_lt_of_cell? w _ (hpol 0 _ rfl)
 have HSK:=zh (fun(w':World) (hb:Below W0.heap.size W0 w')=>(show w'.cell? ⟨z,5,none⟩=some (.slice (some ⟨pb,pof,none⟩) NP cp)/\w'.cell? ⟨z,6,none⟩=some (.slice (some ⟨ob,oof,none⟩) NO co)/\w'.cell? ⟨ob,oof+v*2+1,none⟩=some (.int .i64 (p0:Int))/\w'.rangeAt pb (pof+p0*17) [a0,.int .i64 KK,.int .i64 MM,.int .i64 QQ,a4,a5,a6,a7,a8,a9,a10,a11,a12,a13,a14,a15,a16] from
  ⟨by rw[cell_of_row w' z 5 _ _ _ ((hb.block z hzl).trans hzk)];rfl,by rw[cell_of_row w' z 6 _ _ _ ((hb.block z hzl).trans hzk)];rfl,(World.cell?_of_block (w:=w) (w':=w') ((hb.block ob (zM hob hb0.size)).trans (hb0.block ob hob))).trans (hvol 1 _ rfl),range_same hpol ((hb.block pb (zM hpb hb0.size)).trans (hb0.block pb hpb))⟩))
 have HTH:=zh (show((W0.alloc (.cells #[.string ⟨#[]⟩,.int .i64 0,.int .i64 0,.int .i64 0,.int .i64 0,.int .i64 0,.int .i64 0,.int .i64 0,.int .i64 0,.slice none 0 0,.slice none 0 0,.bool false,.slice none 0 0,.slice none 0 0,.bool false,.slice none 0 0,.slice none 0 0] 55)).drew).there W0.heap.size 0 17 from there_new (w:=(W0.alloc (.cells #[.string ⟨#[]⟩,.int .i64 0,.int .i64 0,.int .i64 0,.int .i64 0,.int .i64 0,.int .i64 0,.int .i64 0,.int .i64 0,.slice none 0 0,.slice none 0 0,.bool false,.slice none 0 0,.slice none 0 0,.bool false,.slice none 0 0,.slice none 0 0] 55)).drew) (cs:=#[.string ⟨#[]⟩,.int .i64 0,.int .i64 0,.int .i64 0,.int .i64 0,.int .i64 0,.int .i64 0,.int .i64 0,.int .i64 0,.slice none 0 0,.slice none 0 0,.bool false,.slice none 0 0,.slice none 0 0,.bool false,.slice none 0 0,.slice none 0 0]) (zN W0 _) (zR 17));have HON:=zh hone;have HW0:=zh hW0;have HQ:=zh hz;have HB0:=zh hb0
 have i1:(v:Int)<(NO:Int):=by omega
 have i2:(p0:Int)<(NP:Int):=by omega
 clear hvol hpol hone hW0 hz hb0 hzk hzl hob hpb hv hp hsz;go_enter Tryz.func52,Tryz.ntmps52;go_upto_region 1 with fail;rw[<-HW0.out,<-HQ.out];refine region_tail (S:=(fun w'=>w'.cell? ⟨z,5,none⟩=some (.slice (some ⟨pb,pof,none⟩) NP cp)/\w'.cell? ⟨z,6,none⟩=some (.slice (some ⟨ob,oof,none⟩) NO co)/\w'.cell? ⟨ob,oof+v*2+1,none⟩=some (.int .i64 (p0:Int))/\w'.rangeAt pb (pof+p0*17) [a0,.int .i64 KK,.int .i64 MM,.int .i64 QQ,a4,a5,a6,a7,a8,a9,a10,a11,a12,a13,a14,a15,a16])) [11] (by kernel_rfl) (HSK.out _ (zB _ _).drew) (fun hHeld=>?_);refine tk 0 6 ?_;refine tk 1 7 ?_;refine tk 2 8 ?_;refine tk 3 9 ?_;refine tk 4 10 ?_;refine tk 5 11 ?_;refine tk 6 12 ?_;refine tk 7 13 ?_;refine tk 8 14 ?_;refine takeT (i:=9) (d:=15) (v:=(.agg #[a0,.int .i64 KK,.int .i64 MM,.int .i64 QQ,a4,a5,a6,a7,a8,a9,a10,a11,a12,a13,a14,a15,a16])) rfl rfl (by kernel_rfl) (by kernel_rfl) (by kernel_rfl) (by kernel_rfl) (fun _ _ _ h=>h) (yieldsIf_load_mid (by rfl) 55 (.tmp 14) rfl pb (pof+p0*17) (by rfl) [a0,.int .i64 KK,.int .i64 MM,.int .i64 QQ,a4,a5,a6,a7,a8,a9,a10,a11,a12,a13,a14,a15,a16] _ (fun w hw=>hw.2.2.2) Tryz.underlying55 rfl size_pol) (by assumption) ?_;(try simp only[Act.put,z1,z2,z3]);refine readyT (rs:=[10]) (by kernel_rfl) (by simp) ?_;refine zC rfl (fun K hK=>?_) ?_
 ·go_simp;refine hK.out _ _ ?_ (fun hHeld=>?_)
  ·exact HSK.out _ ((zB _ _).drew.alloc (zR _) _)
  clear hK K;(try simp only[Act.put,z1,z2,z3]);refine readyT (rs:=[11]) (by kernel_rfl) (by simp) ?_;refine zD rfl rfl (fun K hK=>?_) ?_
  ·rw[if_pos (by rfl)];refine wp_store_mid 55 (.tmp 5) (.tmp 15) rfl W0.heap.size 0 #[a0,.int .i64 KK,.int .i64 MM,.int .i64 QQ,a4,a5,a6,a7,a8,a9,a10,a11,a12,a13,a14,a15,a16] (by rfl) (by rfl) HTH.out size_pol HON.out ?_;refine hK.out _ _ ?_;clear hK K;(try simp only[Act.put,z1,z2,z3]);refine doneT (by kernel_rfl) ?_ _;clear hHeld;obtain⟨W6,hW6⟩:=zx (World.setCells ((W0.alloc (.cells #[.string ⟨#[]⟩,.int .i64 0,.int .i64 0,.int .i64 0,.int .i64 0,.int .i64 0,.int .i64 0,.int .i64 0,.int .i64 0,.slice none 0 0,.slice none 0 0,.bool false,.slice none 0 0,.slice none 0 0,.bool false,.slice none 0 0,.slice none 0 0] 55)).drew) W0.heap.size 0 [a0,.int .i64 KK,.int .i64 MM,.int .i64 QQ,a4,a5,a6,a7,a8,a9,a10,a11,a12,a13,a14,a15,a16]);obtain⟨gp,hgp⟩:=zx W0.heap.size;rw[<-hW6,<-hgp]
   have hb6:Below W0.heap.size W0 W6:=by rw[hW6];exact below_setCellsV (zR _) _ _ _ ((zB _ _).alloc (zR _) _).drew
   have hgr:W6.rangeAt gp 0 [a0,.int .i64 KK,.int .i64 MM,.int .i64 QQ,a4,a5,a6,a7,a8,a9,a10,a11,a12,a13,a14,a15,a16]:=by rw[hW6,hgp];exact World.rangeAt_setCells_same _ _ _ _ HTH.out
   have g1:W6.cell? ⟨gp,1,none⟩=some (.int .i64 KK):=hgr 1 _ rfl;have g2:W6.cell? ⟨gp,2,none⟩=some (.int .i64 MM):=hgr 2 _ rfl;have HB6:=zh (HB0.out.trans (hb6.mono HB0.out.size));clear hW6 hgp hb6 hgr HTH HSK;go_wp2_with fail;go_ret;exact⟨rfl,HB6.out⟩
  exact zE
 exact zE
theorem tfragments_any(N:Nat)(hN:N<=12)(vl vm vd vv vp vo:Value)(F:FltM)(v:Nat)(w:World)(hf:FleetS w (Bl w.heap.size) vl vm vd vv vp vo F)(hok:FleetOk N F)(hv:v<F.vols.length) :
  Calls Tryz.prog 50 #[.agg #[.int .i64 F.ext,vl,vm,vd,vv,vp,vo],.int .i64 (v:Int)] w fun e w'=>e=.returned (.int .i64 (szN F v:Int))/\Below w.heap.size w w':=by
 obtain⟨pb,pof,ob,oof,cp,co,rfl,rfl,hRp,hRo,hat⟩:=polAt hf hok;obtain⟨hp,nm,hvol,a0,a4,a5,a6,a7,a8,a9,a10,a11,a12,a13,a14,a15,a16,hpol,hone⟩:=hat v hv;obtain⟨hk1,hm0,hm4,-,-⟩:=kmq_ok hok hv;have hsz:=szN_eq hok hv;obtain⟨NP,hNP⟩:=zx F.pols.length;obtain⟨NO,hNO⟩:=zx F.vols.length
 have hNP2:NP<=2:=by rw[hNP];exact hok.polN
 have hNO12:NO<=12:=by rw[hNO];have:=hok.volN;omega
 obtain⟨p0,hp0⟩:=zx (volP F v);obtain⟨KK,hKK⟩:=zx (kOf F v);obtain⟨MM,hMM⟩:=zx (mOf F v);obtain⟨QQ,hQQ⟩:=zx (qOf F v);obtain⟨EX,hEX⟩:=zx F.ext;obtain⟨SZ,hSZ⟩:∃n:Int,n=(szN F v:Int):=⟨_,rfl⟩;rw[<-hp0] at hvol hpol hp;rw[<-hKK,<-hMM,<-hQQ] at hpol hone;rw[<-hKK] at hk1 hsz;rw[<-hMM] at hm0 hm4 hsz;rw[<-hSZ] at hsz;rw[<-hNP] at hp;rw[<-hNO] at hv;rw[<-hEX,<-hNP,<-hNO,<-hSZ];clear hp0 hKK hMM hQQ hEX hNP hNO hSZ hat hf hok
 have hsum:IntKind.i64.wrap (KK+MM)=SZ:=by rw[hsz];exact zI _ (by omega)
 have hsum2:wrap64 (KK+MM)=SZ:=by rw[hsz];exact IntWalk.wrap64_in _ (by omega)
 obtain⟨W0,hW0⟩:=zx (w.alloc (.cells #[.int .i64 EX,vl,vm,vd,vv,.slice (some ⟨pb,pof,none⟩) NP cp,.slice (some ⟨ob,oof,none⟩) NO co] 35));obtain⟨z,hz⟩:=zx w.heap.size
 have hb0:Below w.heap.size w W0:=by rw[hW0];exact(zB _ _).alloc (zR _) _
 have hzk:W0.heap[z]?=some (.cells #[.int .i64 EX,vl,vm,vd,vv,.slice (some ⟨pb,pof,none⟩) NP cp,.slice (some ⟨ob,oof,none⟩) NO co] 35 (0,0)):=by rw[hW0,hz];exact zN w _
 have hzl:z<W0.heap.size:=(zA.1 hzk).1;have hob:ob<w.heap.size:=World.block_lt_of_cell? w _ (hvol 0 _ rfl);have hpb:pb<w.heap.size:=World.block_lt_of_cell? w _ (hpol 0 _ rfl)
 have HSK:=zh (fun(w':World) (hb:Below W0.heap.size W0 w')=>(show w'.cell? ⟨z,5,none⟩=some (.slice (some ⟨pb,pof,none⟩) NP cp)/\w'.cell? ⟨z,6,none⟩=some (.slice (some ⟨ob,oof,none⟩) NO co)/\w'.cell? ⟨ob,oof+v*2+1,none⟩=some (.int .i64 (p0:Int))/\w'.rangeAt pb (pof+p0*17) [a0,.int .i64 KK,.int .i64 MM,.int .i64 QQ,a4,a5,a6,a7,a8,a9,a10,a11,a12,a13,a14,a15,a16] from
  ⟨by rw[cell_of_row w' z 5 _ _ _ ((hb.block z hzl).trans hzk)];rfl,by rw[cell_of_row w' z 6 _ _ _ ((hb.block z hzl).trans hzk)];rfl,(World.cell?_of_block (w:=w) (w':=w') ((hb.block ob (zM hob hb0.size)).trans (hb0.block ob hob))).trans (hvol 1 _ rfl),range_same hpol ((hb.block pb (zM hpb hb0.size)).trans (hb0.block pb hpb))⟩))
 have HTH:=zh (show((W0.alloc (.cells #[.string ⟨#[]⟩,.int .i64 0,.int .i64 0,.int .i64 0,.int .i64 0,.int .i64 0,.int .i64 0,.int .i64 0,.int .i64 0,.slice none 0 0,.slice none 0 0,.bool false,.slice none 0 0,.slice none 0 0,.bool false,.slice none 0 0,.slice none 0 0] 55)).drew).there W0.heap.size 0 17 from there_new (w:=(W0.alloc (.cells #[.string ⟨#[]⟩,.int .i64 0,.int .i64 0,.int .i64 0,.int .i64 0,.int .i64 0,.int .i64 0,.int .i64 0,.int .i64 0,.slice none 0 0,.slice none 0 0,.bool false,.slice none 0 0,.slice none 0 0,.bool false,.slice none 0 0,.slice none 0 0] 55)).drew) (cs:=#[.string ⟨#[]⟩,.int .i64 0,.int .i64 0,.int .i64 0,.int .i64 0,.int .i64 0,.int .i64 0,.int .i64 0,.int .i64 0,.slice none 0 0,.slice none 0 0,.bool false,.slice none 0 0,.slice none 0 0,.bool false,.slice none 0 0,.slice none 0 0]) (zN W0 _) (zR 17));have HON:=zh hone;have HW0:=zh hW0;have HQ:=zh hz;have HB0:=zh hb0
 have i1:(v:Int)<(NO:Int):=by omega
 have i2:(p0:Int)<(NP:Int):=by omega
 clear hvol hpol hone hW0 hz hb0 hzk hzl hob hpb hv hp hsz;go_enter Tryz.func50,Tryz.ntmps50;go_upto_region 1 with fail;rw[<-HW0.out,<-HQ.out];refine region_tail (S:=(fun w'=>w'.cell? ⟨z,5,none⟩=some (.slice (some ⟨pb,pof,none⟩) NP cp)/\w'.cell? ⟨z,6,none⟩=some (.slice (some ⟨ob,oof,none⟩) NO co)/\w'.cell? ⟨ob,oof+v*2+1,none⟩=some (.int .i64 (p0:Int))/\w'.rangeAt pb (pof+p0*17) [a0,.int .i64 KK,.int .i64 MM,.int .i64 QQ,a4,a5,a6,a7,a8,a9,a10,a11,a12,a13,a14,a15,a16])) [11] (by kernel_rfl) (HSK.out _ (zB _ _).drew) (fun hHeld=>?_);refine tk 0 6 ?_;refine tk 1 7 ?_;refine tk 2 8 ?_;refine tk 3 9 ?_;refine tk 4 10 ?_;refine tk 5 11 ?_;refine tk 6 12 ?_;refine tk 7 13 ?_;refine tk 8 14 ?_;refine takeT (i:=9) (d:=15) (v:=(.agg #[a0,.int .i64 KK,.int .i64 MM,.int .i64 QQ,a4,a5,a6,a7,a8,a9,a10,a11,a12,a13,a14,a15,a16])) rfl rfl (by kernel_rfl) (by kernel_rfl) (by kernel_rfl) (by kernel_rfl) (fun _ _ _ h=>h) (yieldsIf_load_mid (by rfl) 55 (.tmp 14) rfl pb (pof+p0*17) (by rfl) [a0,.int .i64 KK,.int .i64 MM,.int .i64 QQ,a4,a5,a6,a7,a8,a9,a10,a11,a12,a13,a14,a15,a16] _ (fun w hw=>hw.2.2.2) Tryz.underlying55 rfl size_pol) (by assumption) ?_;(try simp only[Act.put,z1,z2,z3]);refine readyT (rs:=[10]) (by kernel_rfl) (by simp) ?_;refine zC rfl (fun K hK=>?_) ?_
 ·go_simp;refine hK.out _ _ ?_ (fun hHeld=>?_)
  ·exact HSK.out _ ((zB _ _).drew.alloc (zR _) _)
  clear hK K;(try simp only[Act.put,z1,z2,z3]);refine readyT (rs:=[11]) (by kernel_rfl) (by simp) ?_;refine zD rfl rfl (fun K hK=>?_) ?_
  ·rw[if_pos (by rfl)];refine wp_store_mid 55 (.tmp 5) (.tmp 15) rfl W0.heap.size 0 #[a0,.int .i64 KK,.int .i64 MM,.int .i64 QQ,a4,a5,a6,a7,a8,a9,a10,a11,a12,a13,a14,a15,a16] (by rfl) (by rfl) HTH.out size_pol HON.out ?_;refine hK.out _ _ ?_;clear hK K;(try simp only[Act.put,z1,z2,z3]);refine doneT (by kernel_rfl) ?_ _;clear hHeld;obtain⟨W6,hW6⟩:=zx (World.setCells ((W0.alloc (.cells #[.string ⟨#[]⟩,.int .i64 0,.int .i64 0,.int .i64 0,.int .i64 0,.int .i64 0,.int .i64 0,.int .i64 0,.int .i64 0,.slice none 0 0,.slice none 0 0,.bool false,.slice none 0 0,.slice none 0 0,.bool false,.slice none 0 0,.slice none 0 0] 55)).drew) W0.heap.size 0 [a0,.int .i64 KK,.int .i64 MM,.int .i64 QQ,a4,a5,a6,a7,a8,a9,a10,a11,a12,a13,a14,a15,a16]);obtain⟨gp,hgp⟩:=zx W0.heap.size;rw[<-hW6,<-hgp]
   have hb6:Below W0.heap.size W0 W6:=by rw[hW6];exact below_setCellsV (zR _) _ _ _ ((zB _ _).alloc (zR _) _).drew
   have hgr:W6.rangeAt gp 0 [a0,.int .i64 KK,.int .i64 MM,.int .i64 QQ,a4,a5,a6,a7,a8,a9,a10,a11,a12,a13,a14,a15,a16]:=by rw[hW6,hgp];exact World.rangeAt_setCells_same _ _ _ _ HTH.out
   have g1:W6.cell? ⟨gp,1,none⟩=some (.int .i64 KK):=hgr 1 _ rfl;have g2:W6.cell? ⟨gp,2,none⟩=some (.int .i64 MM):=hgr 2 _ rfl;have HB6:=zh (HB0.out.trans (hb6.mono HB0.out.size));clear hW6 hgp hb6 hgr HTH HSK;go_wp2_with fail;go_ret;exact⟨rfl,HB6.out⟩
  exact zE
 exact zE
theorem gfragments_any(N:Nat)(hN:N<=12)(vl vm vd vv vp vo:Value)(F:FltM)(v:Nat)(w:World)(hf:FleetS w (Bl w.heap.size) vl vm vd vv vp vo F)(hok:FleetOk N F)(hv:v<F.vols.length) :
  Calls Tryz.prog 150 #[.agg #[.int .i64 F.ext,vl,vm,vd,vv,vp,vo],.int .i64 (v:Int)] w fun e w'=>e=.returned (.int .i64 (szN F v:Int))/\Below w.heap.size w w':=by
 obtain⟨pb,pof,ob,oof,cp,co,rfl,rfl,hRp,hRo,hat⟩:=polAt hf hok;obtain⟨hp,nm,hvol,a0,a4,a5,a6,a7,a8,a9,a10,a11,a12,a13,a14,a15,a16,hpol,hone⟩:=hat v hv;obtain⟨hk1,hm0,hm4,-,-⟩:=kmq_ok hok hv;have hsz:=szN_eq hok hv;obtain⟨NP,hNP⟩:=zx F.pols.length;obtain⟨NO,hNO⟩:=zx F.vols.length
 have hNP2:NP<=2:=by rw[hNP];exact hok.polN
 have hNO12:NO<=12:=by rw[hNO];have:=hok.volN;omega
 obtain⟨p0,hp0⟩:=zx (volP F v);obtain⟨KK,hKK⟩:=zx (kOf F v);obtain⟨MM,hMM⟩:=zx (mOf F v);obtain⟨QQ,hQQ⟩:=zx (qOf F v);obtain⟨EX,hEX⟩:=zx F.ext;obtain⟨SZ,hSZ⟩:∃n:Int,n=(szN F v:Int):=⟨_,rfl⟩;rw[<-hp0] at hvol hpol hp;rw[<-hKK,<-hMM,<-hQQ] at hpol hone;rw[<-hKK] at hk1 hsz;rw[<-hMM] at hm0 hm4 hsz;rw[<-hSZ] at hsz;rw[<-hNP] at hp;rw[<-hNO] at hv;rw[<-hEX,<-hNP,<-hNO,<-hSZ];clear hp0 hKK hMM hQQ hEX hNP hNO hSZ hat hf hok
 have hsum:IntKind.i64.wrap (KK+MM)=SZ:=by rw[hsz];exact zI _ (by omega)
 have hsum2:wrap64 (KK+MM)=SZ:=by rw[hsz];exact IntWalk.wrap64_in _ (by omega)
 obtain⟨W0,hW0⟩:=zx (w.alloc (.cells #[.int .i64 EX,vl,vm,vd,vv,.slice (some ⟨pb,pof,none⟩) NP cp,.slice (some ⟨ob,oof,none⟩) NO co] 35));obtain⟨z,hz⟩:=zx w.heap.size
 have hb0:Below w.heap.size w W0:=by rw[hW0];exact(zB _ _).alloc (zR _) _
 have hzk:W0.heap[z]?=some (.cells #[.int .i64 EX,vl,vm,vd,vv,.slice (some ⟨pb,pof,none⟩) NP cp,.slice (some ⟨ob,oof,none⟩) NO co] 35 (0,0)):=by rw[hW0,hz];exact zN w _
 have hzl:z<W0.heap.size:=(zA.1 hzk).1;have hob:ob<w.heap.size:=World.block_lt_of_cell? w _ (hvol 0 _ rfl);have hpb:pb<w.heap.size:=World.block_lt_of_cell? w _ (hpol 0 _ rfl)
 have HSK:=zh (fun(w':World) (hb:Below W0.heap.size W0 w')=>(show w'.cell? ⟨z,5,none⟩=some (.slice (some ⟨pb,pof,none⟩) NP cp)/\w'.cell? ⟨z,6,none⟩=some (.slice (some ⟨ob,oof,none⟩) NO co)/\w'.cell? ⟨ob,oof+v*2+1,none⟩=some (.int .i64 (p0:Int))/\w'.rangeAt pb (pof+p0*17) [a0,.int .i64 KK,.int .i64 MM,.int .i64 QQ,a4,a5,a6,a7,a8,a9,a10,a11,a12,a13,a14,a15,a16] from
  ⟨by rw[cell_of_row w' z 5 _ _ _ ((hb.block z hzl).trans hzk)];rfl,by rw[cell_of_row w' z 6 _ _ _ ((hb.block z hzl).trans hzk)];rfl,(World.cell?_of_block (w:=w) (w':=w') ((hb.block ob (zM hob hb0.size)).trans (hb0.block ob hob))).trans (hvol 1 _ rfl),range_same hpol ((hb.block pb (zM hpb hb0.size)).trans (hb0.block pb hpb))⟩))
 have HTH:=zh (show((W0.alloc (.cells #[.string ⟨#[]⟩,.int .i64 0,.int .i64 0,.int .i64 0,.int .i64 0,.int .i64 0,.int .i64 0,.int .i64 0,.int .i64 0,.slice none 0 0,.slice none 0 0,.bool false,.slice none 0 0,.slice none 0 0,.bool false,.slice none 0 0,.slice none 0 0] 55)).drew).there W0.heap.size 0 17 from there_new (w:=(W0.alloc (.cells #[.string ⟨#[]⟩,.int .i64 0,.int .i64 0,.int .i64 0,.int .i64 0,.int .i64 0,.int .i64 0,.int .i64 0,.int .i64 0,.slice none 0 0,.slice none 0 0,.bool false,.slice none 0 0,.slice none 0 0,.bool false,.slice none 0 0,.slice none 0 0] 55)).drew) (cs:=#[.string ⟨#[]⟩,.int .i64 0,.int .i64 0,.int .i64 0,.int .i64 0,.int .i64 0,.int .i64 0,.int .i64 0,.int .i64 0,.slice none 0 0,.slice none 0 0,.bool false,.slice none 0 0,.slice none 0 0,.bool false,.slice none 0 0,.slice none 0 0]) (zN W0 _) (zR 17));have HON:=zh hone;have HW0:=zh hW0;have HQ:=zh hz;have HB0:=zh hb0
 have i1:(v:Int)<(NO:Int):=by omega
 have i2:(p0:Int)<(NP:Int):=by omega
 clear hvol hpol hone hW0 hz hb0 hzk hzl hob hpb hv hp hsz;go_enter Tryz.func150,Tryz.ntmps150;go_upto_region 1 with fail;rw[<-HW0.out,<-HQ.out];refine region_tail (S:=(fun w'=>w'.cell? ⟨z,5,none⟩=some (.slice (some ⟨pb,pof,none⟩) NP cp)/\w'.cell? ⟨z,6,none⟩=some (.slice (some ⟨ob,oof,none⟩) NO co)/\w'.cell? ⟨ob,oof+v*2+1,none⟩=some (.int .i64 (p0:Int))/\w'.rangeAt pb (pof+p0*17) [a0,.int .i64 KK,.int .i64 MM,.int .i64 QQ,a4,a5,a6,a7,a8,a9,a10,a11,a12,a13,a14,a15,a16])) [11] (by kernel_rfl) (HSK.out _ (zB _ _).drew) (fun hHeld=>?_);refine tk 0 6 ?_;refine tk 1 7 ?_;refine tk 2 8 ?_;refine tk 3 9 ?_;refine tk 4 10 ?_;refine tk 5 11 ?_;refine tk 6 12 ?_;refine tk 7 13 ?_;refine tk 8 14 ?_;refine takeT (i:=9) (d:=15) (v:=(.agg #[a0,.int .i64 KK,.int .i64 MM,.int .i64 QQ,a4,a5,a6,a7,a8,a9,a10,a11,a12,a13,a14,a15,a16])) rfl rfl (by kernel_rfl) (by kernel_rfl) (by kernel_rfl) (by kernel_rfl) (fun _ _ _ h=>h) (yieldsIf_load_mid (by rfl) 55 (.tmp 14) rfl pb (pof+p0*17) (by rfl) [a0,.int .i64 KK,.int .i64 MM,.int .i64 QQ,a4,a5,a6,a7,a8,a9,a10,a11,a12,a13,a14,a15,a16] _ (fun w hw=>hw.2.2.2) Tryz.underlying55 rfl size_pol) (by assumption) ?_;(try simp only[Act.put,z1,z2,z3]);refine readyT (rs:=[10]) (by kernel_rfl) (by simp) ?_;refine zC rfl (fun K hK=>?_) ?_
 ·go_simp;refine hK.out _ _ ?_ (fun hHeld=>?_)
  ·exact HSK.out _ ((zB _ _).drew.alloc (zR _) _)
  clear hK K;(try simp only[Act.put,z1,z2,z3]);refine readyT (rs:=[11]) (by kernel_rfl) (by simp) ?_;refine zD rfl rfl (fun K hK=>?_) ?_
  ·rw[if_pos (by rfl)];refine wp_store_mid 55 (.tmp 5) (.tmp 15) rfl W0.heap.size 0 #[a0,.int .i64 KK,.int .i64 MM,.int .i64 QQ,a4,a5,a6,a7,a8,a9,a10,a11,a12,a13,a14,a15,a16] (by rfl) (by rfl) HTH.out size_pol HON.out ?_;refine hK.out _ _ ?_;clear hK K;(try simp only[Act.put,z1,z2,z3]);refine doneT (by kernel_rfl) ?_ _;clear hHeld;obtain⟨W6,hW6⟩:=zx (World.setCells ((W0.alloc (.cells #[.string ⟨#[]⟩,.int .i64 0,.int .i64 0,.int .i64 0,.int .i64 0,.int .i64 0,.int .i64 0,.int .i64 0,.int .i64 0,.slice none 0 0,.slice none 0 0,.bool false,.slice none 0 0,.slice none 0 0,.bool false,.slice none 0 0,.slice none 0 0] 55)).drew) W0.heap.size 0 [a0,.int .i64 KK,.int .i64 MM,.int .i64 QQ,a4,a5,a6,a7,a8,a9,a10,a11,a12,a13,a14,a15,a16]);obtain⟨gp,hgp⟩:=zx W0.heap.size;rw[<-hW6,<-hgp]
   have hb6:Below W0.heap.size W0 W6:=by rw[hW6];exact below_setCellsV (zR _) _ _ _ ((zB _ _).alloc (zR _) _).drew
   have hgr:W6.rangeAt gp 0 [a0,.int .i64 KK,.int .i64 MM,.int .i64 QQ,a4,a5,a6,a7,a8,a9,a10,a11,a12,a13,a14,a15,a16]:=by rw[hW6,hgp];exact World.rangeAt_setCells_same _ _ _ _ HTH.out
   have g1:W6.cell? ⟨gp,1,none⟩=some (.int .i64 KK):=hgr 1 _ rfl;have g2:W6.cell? ⟨gp,2,none⟩=some (.int .i64 MM):=hgr 2 _ rfl;have HB6:=zh (HB0.out.trans (hb6.mono HB0.out.size));clear hW6 hgp hb6 hgr HTH HSK;go_wp2_with fail;go_ret;exact⟨rfl,HB6.out⟩
  exact zE
 exact zE
theorem mhas_any(v:Value)(xs:List Int)(x:Int)(R:Nat->Prop)(w:World)(h:IntS w R v xs) :
  Calls Tryz.prog 65 #[v,.int .i64 x] w fun e w'=>e=.returned (.bool (decide (x∈xs)))/\w=w':=by
 obtain⟨A,c,rfl,-,hm⟩:=h.form7;unfold maxLen at hm;have HS:=zh h;obtain⟨L,hL⟩:=zx xs.length;rw[<-hL] at HS hm ⊢;have HL:=zh hL;clear h hL;go_enter Tryz.func65,Tryz.ntmps65;go_wp2_with fail;go_loopg [5] L (fun z v5 wr=>w=wr/\∃j:Nat,j<=L/\z=L-j/\v5=.int .i64 (j:Int)/\Hid (x∉xs.take j))
 case atStart=>exact⟨rfl,0,by omega,rfl,rfl,fun h=>by simp at h⟩
 case round =>
  obtain⟨rfl,j,hj,rfl,rfl,HJ⟩:=hrel;by_cases hlt:j<L
  ·obtain⟨b,off,rfl,hR,hc,-⟩:=HS.out.at7 (k:=j) (by rw[<-HL.out];exact hlt);obtain⟨y,hy⟩:=zx (xs[j]'(by rw[<-HL.out];exact hlt));rw[<-hy] at hc
   have hmem:y∈xs:=by rw[hy];exact List.getElem_mem _
   have htk:xs.take (j+1)=xs.take j++[y]:=by rw[List.take_succ_eq_append_getElem (by rw[<-HL.out];exact hlt),hy]
   have HMEM:=zh hmem;have HTK:=zh htk;clear hy hmem htk;by_cases hxy:y=x
   ·have q:(y==x)=true:=by simpa using hxy
    have HX:=zh hxy;clear hxy;go_wp2_with fail;go_ret;exact⟨by rw[decide_eq_true (by rw[<-HX.out];exact HMEM.out)];rfl,rfl⟩
   ·have q:(y==x)=false:=by simpa using hxy
    have HN:=zh (show x∉xs.take (j+1) by
     rw[HTK.out,List.mem_append];rintro (h1 | h1)
     ·exact HJ.out h1
     ·exact hxy (List.mem_singleton.1 h1).symm)
    clear hxy;go_wp2_with fail;go_roundg (L-(j+1))
    case measure=>omega
    case rel=>exact⟨rfl,j+1,by omega,rfl,by go_num,HN⟩
  ·have HN:=zh (show x∉xs by
    have:=HJ.out;rw[List.take_of_length_le (by rw[<-HL.out];omega)] at this
    exact this)
   go_wp2_with fail;go_ret;exact⟨by rw[decide_eq_false HN.out];rfl,rfl⟩
def RowIK(w:World)(R:Nat->Prop)(cs:List Value)(l:List Int):Prop:=∃v,cs=[v]/\IntS w R v l
theorem rowIK:Steady RowIK:=⟨fun hk ⟨v,e,h⟩=>⟨v,e,h.keep hk⟩,fun hr ⟨v,e,h⟩=>⟨v,e,h.mono hr⟩⟩
theorem info_ints:(Tryz.prog.info? 22).map (fun i=>(i.zero,i.size,i.bytes))=some (some (.slice none 0 0),1,24):=by kernel_rfl
def LayOk(F:FltM)(n:Nat)(L:List (List Int)):Prop:=L.length=n/\∀(v:Nat) (l:List Int),L[v]?=some l->l.length=szN F v/\∀x∈l,-1<=x/\x<F.dves.length
theorem LayOk.nil(F:FltM):LayOk F 0 []:=⟨rfl,fun v l h=>by simp at h⟩
theorem LayOk.push{F:FltM}{n:Nat}{L:List (List Int)}(h:LayOk F n L){l:List Int}(h1:l.length=szN F n)(h2:∀x∈l,-1<=x/\x<F.dves.length):LayOk F (n+1) (L++[l]):=by
 refine⟨by rw[zP,h.1];rfl,fun v x hx=>?_⟩;rcases Nat.lt_or_ge v L.length with hlt | hge
 ·rw[List.getElem?_append_left hlt] at hx;exact h.2 v x hx
 ·have hv:v=L.length:=by
   have:=(zL.1 hx).1;rw[zP] at this;simp at this;omega
  subst hv;rw[List.getElem?_append_right (zR _),Nat.sub_self] at hx;simp at hx;subst hx;rw[h.1];exact⟨h1,h2⟩
theorem app_rows{ops:Array Oper}{rest:List Oper}{o:Oper}{a:Act}{Q:Exit->Act->World->Prop}{w:World}(v0:Value)(h1:v0.oneCell'=true)(t:TypeId)(ht:Tryz.prog.underlying t=some (.slice 22))(s x:Operand)(hgd:o.guard=none)(ho:o.op=.call { callee:=.builtin .append,args:=#[s,x],argTypes:=#[t,t] })
  (base:Nat) (v:Value) (n:Nat) (cs:List Value) (hs:a.eval s=v) (hown:w.ownsRow base 22 1 v n cs)
  (hx:a.eval x=.slice (some ⟨w.heap.size,0,none⟩) 1 1) (hn:n+1<=16777216) (hbase:base<=w.heap.size)
  (h:∀v' w',w'.ownsRow base 22 1 v' (n+1) (cs++[v0])->w.grownBy w' v.ownBlock->(v'.ownBlock=v.ownBlock\/v'.ownBlock=some (w.heap.size+1))->wpList Tryz.prog ops Q rest (a.put o.dst v') w') :
  wpList Tryz.prog ops Q (o :: rest) a (w.alloc (.cells #[v0] 22)):=by
 obtain⟨i0,hi0,hz0,hz1,hz2⟩:=info_parts info_ints;exact wpList_append1 hgd s x _ ho base i0 _ 1 24 ht hi0 hz0 hz1 hz2 rfl (by omega) (by omega) v n _ hs hown hx rfl (by simpa using h1) hn hbase h
structure LayT (gT:Nat) (vt:Value) (W0 wr:World) (F:FltM) (I n:Nat) (v:Value) (L:List (List Int)):Prop where
 tape:TapeB wr gT vt I
 hot:HotBy [some gT] W0 wr
 own:OwnK 1 RowIK wr W0.heap.size 22 v L (Fz W0.heap.size wr.heap.size v)
 ok:LayOk F n L
structure RowT (gT:Nat) (vt:Value) (W1 wr:World) (F:FltM) (I n:Nat) (v:Value) (xs:List Int):Prop where
 tape:TapeB wr gT vt I
 hot:HotBy [some gT] W1 wr
 own:wr.ownsRow W1.heap.size 3 1 v n (xs.map (Value.int .i64))
 len:xs.length=n
 ok:∀x∈xs,-1<=x/\x<F.dves.length
theorem RowT.next{gT:Nat}{vt:Value}{W1 wr w':World}{F:FltM}{I n:Nat}{v:Value}{xs:List Int}(h:RowT gT vt W1 wr F I n v xs)(hT:gT<W1.heap.size)(ht:TapeB w' gT vt (I+1))(hg:wr.grownBy w' (some gT)):RowT gT vt W1 w' F (I+1) n v xs :=
 have hh:HotBy [some gT] wr w':=HotBy.grown hg (.inl (by simp))
 ⟨ht,h.hot.trans hh,own_hot h.own hh (fun g hg e=>by have:=h.own.lt g hg;simp at e;omega),h.len,h.ok⟩
theorem RowT.below{gT:Nat}{vt:Value}{W1 wr w':World}{F:FltM}{I n:Nat}{v:Value}{xs:List Int}(h:RowT gT vt W1 wr F I n v xs)(hb:Below wr.heap.size wr w'):RowT gT vt W1 w' F I n v xs :=
 ⟨(hb.block gT h.tape.lt).trans h.tape,h.hot.trans (HotBy.below hb),own_below h.own hb,h.len,h.ok⟩
theorem RowT.push{gT:Nat}{vt:Value}{W1 wr w':World}{F:FltM}{I n:Nat}{v v':Value}{xs:List Int}{x:Int}(h:RowT gT vt W1 wr F I n v xs)(hT:gT<W1.heap.size)(ho:OwnI w' W1.heap.size v' (xs++[x]))(hg:wr.grownBy w' v.ownBlock)(hx : -1<=x/\x<F.dves.length):RowT gT vt W1 w' F I (n+1) v' (xs++[x]):=by
 have hlt:=fun g (e:v.ownBlock=some g)=>h.own.lt g e
 have hl:(xs++[x]).length=n+1:=by rw[zP,h.len];rfl
 have hh:HotBy [v.ownBlock] wr w':=HotBy.grown hg (.inl (by simp));refine⟨(hg.block gT h.tape.lt (fun e=>by have:=hlt gT e.symm;omega)).trans h.tape,h.hot.transNew hh (fun y e hy=>by simp at e;have:=hlt y e.symm;omega),?_,hl,fun y hy=>?_⟩
 ·have:=ho;unfold OwnI at this;rw[hl] at this;exact this
 ·rcases List.mem_append.1 hy with hy | hy
  ·exact h.ok y hy
  ·simp at hy;subst hy;exact hx
theorem RowT.intS{gT:Nat}{vt:Value}{W1 wr:World}{F:FltM}{I n:Nat}{v:Value}{xs:List Int}(h:RowT gT vt W1 wr F I n v xs)(hD:F.dves.length<=1000):IntS wr (Fr W1.heap.size wr.heap.size) v xs :=
 OwnI.intS (by unfold OwnI;rw[h.len];exact h.own) (fun x hx=>by have:=h.ok x hx;unfold I64;omega)
theorem LayT.push{gT:Nat}{vt:Value}{W0 W1 wr w':World}{F:FltM}{I J n m:Nat}{v v' u:Value}{L:List (List Int)}{xs:List Int}{cs:List Value}(h:LayT gT vt W0 W1 F I n v L)(hr:RowT gT vt W1 wr F J m u xs)(hT:gT<W0.heap.size)(hm:m=szN F n)(hD:F.dves.length<=1000)
  (hown:w'.ownsRow W0.heap.size 22 1 v' (L.length+1) (cs++[u])) (c2:∀k x,L[k]?=some x->∃c,c.length=1/\(∀i y,c[i]?=some y->cs[k*1+i]?=some y)/\RowIK wr (Fz W0.heap.size wr.heap.size v) c x) (c1:cs.length=L.length*1) (hv:∀b,v.ownBlock=some b->b<W1.heap.size/\W0.heap.size<=b)
  (hg:wr.grownBy w' v.ownBlock) (hat:v'.ownBlock=v.ownBlock\/v'.ownBlock=some (wr.heap.size+1)):LayT gT vt W0 w' F J (n+1) v' (L++[xs]):=by
 have h10:=h.hot.size;have h1r:=hr.hot.size;have hTl:=hr.tape.lt;have hh:HotBy [v.ownBlock] wr w':=HotBy.grown hg (.inl (by simp));refine⟨?_,(h.hot.trans (hr.hot.more (fun x hx _=>hx))).transNew hh (fun y e hy=>by simp at e;have:=hv y e.symm;omega),?_,h.ok.push (by rw[hr.len,hm]) hr.ok⟩
 ·exact(hh.block gT hTl (fun e=>by simp at e;have:=hv gT e.symm;omega)).trans hr.tape
 ·refine OwnK.pushF rowIK c2 c1 (fun b hb=>zM (hv b hb).1 h1r) hown rfl ⟨u,rfl,?_⟩ hh (fun b e h3 h4=>by simp at e;exact e.symm) ?_
  ·refine(hr.intS hD).mono (fun b hb=>?_);exact⟨Nat.le_trans h10 hb.1,hb.2,fun e=>by have:=hv b e;have:=hb.1;omega⟩
  ·rcases hat with h1 | h1
   ·exact .inl h1
   ·exact .inr ⟨_,h1,by omega⟩
theorem layout_any(N:Nat)(hN:N<=12)(gT:Nat)(vt:Value)(xs:List Int)(I:Nat)(vl vm vd vv vp vo:Value)(F:FltM)(w:World)(R RF:Nat->Prop)(hT:TapeB w gT vt I)(hx:IntS w R vt xs)(hR:∀b,R b->b<w.heap.size/\b≠gT)(hI:I<=100000)(hf:FleetS w RF vl vm vd vv vp vo F)(hRF:∀b,RF b->b<w.heap.size/\b≠gT)(hok:FleetOk N F) :
  Calls Tryz.prog 25 #[.pointer (some ⟨gT,0,none⟩),.agg #[.int .i64 F.ext,vl,vm,vd,vv,vp,vo]] w fun e w'=>∃v L I',e=.returned v/\SlS 1 RowIK w' (Fr w.heap.size w'.heap.size) v L/\LayOk F F.vols.length L/\TapeB w' gT vt I'/\I'<=I+1000/\w.grownBy w' (some gT):=by
 obtain⟨Al,nl,cl,hvl⟩:=hf.1.form3;obtain⟨Am,nm,cm,hvm⟩:=hf.2.1.form3;obtain⟨Ad,nd,cd,hvd⟩:=hf.2.2.1.form3;obtain⟨Av,cv,hvv,-,-⟩:=hf.2.2.2.1.form;obtain⟨Ap,np,cp,hvp⟩:=hf.2.2.2.2.1.form3;obtain⟨Ao,co,hvo,-,-⟩:=hf.2.2.2.2.2.form;obtain⟨ND,hND⟩:=zx F.dves.length;obtain⟨NV,hNV⟩:=zx F.vols.length;obtain⟨EX,hEX⟩:=zx F.ext;rw[<-hND] at hvv;rw[<-hNV] at hvo;rw[<-hEX,<-hNV];subst hvl hvm hvd hvv hvp hvo;have hTl:gT<w.heap.size:=hT.lt;obtain⟨W0,hW0⟩:=zx (w.alloc (.cells #[.int .i64 EX,.slice Al nl cl,.slice Am nm cm,.slice Ad nd cd,.slice Av ND cv,.slice Ap np cp,.slice Ao NV co] 35));obtain⟨gF,hgF⟩:=zx w.heap.size
 have hh0:HotBy [some gT] w W0:=by rw[hW0];exact HotBy.alloc _ _ _
 have hT0:TapeB W0 gT vt I:=by
  have:W0.heap[gT]?=w.heap[gT]?:=by rw[hW0];exact zH w _ gT hTl
  exact this.trans hT
 have hgk:W0.heap[gF]?=some (.cells #[.int .i64 EX,.slice Al nl cl,.slice Am nm cm,.slice Ad nd cd,.slice Av ND cv,.slice Ap np cp,.slice Ao NV co] 35 (0,0)):=by rw[hW0,hgF];exact zN _ _
 have hgl:gF<W0.heap.size:=(zA.1 hgk).1;have HC:=zh (fun(w':World) (hh:HotBy [some gT] W0 w')=>cells7 ((hh.block gF hgl (fun e=>by simp at e;omega)).trans hgk))
 have HFL:=zh (fun(w':World) (hh:HotBy [some gT] W0 w')=>(show FleetS w' (Bl w'.heap.size) (.slice Al nl cl) (.slice Am nm cm) (.slice Ad nd cd) (.slice Av ND cv) (.slice Ap np cp) (.slice Ao NV co) F from
  (hf.keep (fun b hb=>(hh0.trans hh).block b (hRF b hb).1 (fun e=>by simp at e;exact(hRF b hb).2 e))).mono (fun b hb=>zM (hRF b hb).1 (hh0.trans hh).size)))
 have HSZ:=zh (fun(w':World) (hh:HotBy [some gT] W0 w') (v:Nat) (hv:v<NV)=>msize_any N hN _ _ _ _ _ _ F v w' (HFL.out w' hh) hok (by rw[<-hNV];exact hv));rw[<-hEX] at HSZ;have HNX:=zh (fun wr I hh hT hI n h1 h2=>next_hot w R gT vt xs hx hR wr (hh0.trans hh) I hT hI n h1 h2);have hDr:=hok.dve1;have hDN:=hok.dveN;have HSR:=zh (fun(v:Nat) (hv:v<NV)=>szN_range hok (by rw[<-hNV];exact hv));rw[<-hND] at hDr hDN;have HDR:=zh (And.intro hDr hDN)
 have hV12:NV<=12:=by rw[hNV];have:=hok.volN;omega
 have HND:=zh hND;have HNV:=zh hNV;have HH0:=zh hh0;have HT0:=zh hT0;have HTL:=zh (show gT<w.heap.size/\gT<W0.heap.size from⟨hTl,hT0.lt⟩);have HW0:=zh hW0;have HGF:=zh hgF;have HII:=zh hI
 have d1:(1:Int)<=(ND:Int):=by omega
 have d2:(ND:Int)<=9:=by omega
 have v12:(NV:Int)<=12:=by omega
 clear hT hx hR hI hf hRF hok hND hNV hEX hTl hW0 hgF hh0 hT0 hgk hgl HFL hDr hDN hV12;go_enter Tryz.func25,Tryz.ntmps25;go_wp2_with fail;rw[<-HW0.out,<-HGF.out];go_loopg [5,6] NV (fun z v5 v6 wr=>∃j I' L,j<=NV/\z=NV-j/\v6=.int .i64 (j:Int)/\Hid (I'<=I+j*12)/\Hid (LayT gT vt W0 wr F I' j v5 L))
 case atStart=>exact⟨0,I,[],by omega,rfl,rfl,zh (by omega),HT0.out,HotBy.refl _ _,OwnK.nil _ _ _ _ _ _,LayOk.nil F⟩
 case round =>
  obtain⟨j,I1,L,hj,rfl,rfl,HI1,HL⟩:=hrel;obtain⟨W1,hW1⟩:=zx wr;rw[<-hW1] at HL ⊢;clear hW1;obtain⟨c0,c1,c2,c3,c4,c5,c6⟩:=HC.out W1 HL.out.hot;by_cases hlt:j<NV
  ·have i1:(j:Int)<(NV:Int):=by omega
   have HLT:=zh hlt;go_wp2_with fail;obtain⟨W2,hW2⟩:=zx (W1.alloc (.cells #[] 3))
   have hrow:W2.ownsRow W1.heap.size 3 1 (.slice (some ⟨W1.heap.size,0,none⟩) 0 0) 0 []:=by rw[hW2];exact World.ownsRow_made W1 #[] 0 (zR _) (by unfold maxLen;omega) rfl
   have hb2:Below W1.heap.size W1 W2:=by rw[hW2];exact(zB _ _).alloc (zR _) _
   have HR0:=zh (show RowT gT vt W1 W2 F I1 0 (.slice (some ⟨W1.heap.size,0,none⟩) 0 0) [] from⟨(hb2.block gT HL.out.tape.lt).trans HL.out.tape,HotBy.below hb2,hrow,rfl,fun x hx=>by cases hx⟩);rw[<-hW2];obtain⟨SZ,hSZ⟩:=zx (szN F j);have hsr:=HSR.out j HLT.out;have HSZ1:=zh (fun(w':World) (hh:HotBy [some gT] W0 w')=>HSZ.out w' hh j HLT.out);rw[<-hSZ] at hsr HSZ1;have HSE:=zh hSZ;have HI6:=zh (show j<NV/\NV<=12/\SZ<=6 from⟨hlt,by omega,hsr.2⟩);have HTL1:=zh (show gT<W1.heap.size from HL.out.tape.lt)
   have s1:(1:Int)<=(SZ:Int):=by omega
   have s6:(SZ:Int)<=6:=by omega
   clear hrow hb2 hW2 hSZ hsr c0 c1 c2 c3 c4 c5 c6;go_loopg [7,8] SZ (fun z v7 v8 wr=>∃i I2 xs,i<=SZ/\z=SZ-i/\v8=.int .i64 (i:Int)/\Hid (I2<=I1+i*2)/\Hid (RowT gT vt W1 wr F I2 i v7 xs))
   case atStart=>exact⟨0,I1,[],by omega,rfl,rfl,zh (by omega),HR0.out⟩
   case round =>
    obtain⟨i,I2,xs,hi,rfl,rfl,HI2,HR⟩:=hrel;obtain⟨W3,hW3⟩:=zx wr;rw[<-hW3] at HR ⊢;clear hW3;obtain⟨c0,c1,c2,c3,c4,c5,c6⟩:=HC.out W3 (HL.out.hot.trans HR.out.hot);by_cases hlt2:i<SZ
    ·have i2:(i:Int)<(SZ:Int):=by omega
     go_wp2_with fail;refine(HSZ1.out W3 (HL.out.hot.trans HR.out.hot)).mono ?_;rintro e w3 ⟨rfl,hb3⟩;have HR3:=zh (HR.out.below hb3);clear hb3 c0 c1 c2 c3 c4 c5 c6;obtain⟨c0,c1,c2,c3,c4,c5,c6⟩:=HC.out w3 (HL.out.hot.trans HR3.out.hot);go_wp2_with fail;refine(HNX.out w3 I2 (HL.out.hot.trans HR3.out.hot) HR3.out.tape (by have:=HI2.out;have:=HI1.out;have:=HII.out;have:=HI6.out;omega) ND (by omega) (by omega)).mono ?_;rintro e w4 ⟨r,rfl,hr,hT4,hg4⟩;have HR4:=zh (HR3.out.next HTL1.out hT4 hg4);have HD9:=zh (show F.dves.length<=1000 from by have:=HND.out;omega);have HRR:=zh hr;clear hT4 hg4 c0 c1 c2 c3 c4 c5 c6 HR HR3 hr;go_wp2_with fail;go_loopg [9,10] ND (fun z v9 v10 wr=>w4=wr/\∃k d:Nat,k<=ND/\z=ND-k/\v9=.int .i64 (d:Int)/\v10=.int .i64 (k:Int)/\Hid (d<ND))
     case atStart=>exact⟨rfl,0,r,by omega,rfl,rfl,rfl,HRR.out⟩
     case round =>
      obtain⟨rfl,k,d,hk,rfl,rfl,rfl,HDD⟩:=hrel;obtain⟨c0,c1,c2,c3,c4,c5,c6⟩:=HC.out w4 (HL.out.hot.trans HR4.out.hot);by_cases hlt3:k<ND
      ·have i3:(k:Int)<(ND:Int):=by omega
       have HHB:=zh (mhas_any u7 xs (d:Int) _ w4 (HR4.out.intS HD9.out));obtain⟨B0,hB0⟩:=zx (decide ((d:Int)∈xs));rw[<-hB0] at HHB;clear hB0
       cases B0 with
       | true =>
        have hrem:IntKind.i64.wrap (((d:Int)+1).tmod (ND:Int))=(((d+1) % ND:Nat):Int):=by
         have h1:((d:Int)+1)=((d+1:Nat):Int):=by omega
         rw[h1,<-Int.ofNat_tmod];have h2:(d+1) % ND<ND:=Nat.mod_lt _ (by omega);exact zI _ (by omega)
        have hadd:IntKind.i64.wrap ((d:Int)+1)=(d:Int)+1:=zI _ (by have:=HDD.out;omega)
        have hnz:((ND:Int)==0)=false:=by simp;omega
        have HDM:=zh (show(d+1) % ND<ND from Nat.mod_lt _ (by omega));go_wp2_with fail;refine HHB.out.mono ?_;rintro e w5 ⟨rfl,rfl⟩;go_wp2_with fail;go_roundg (ND-(k+1))
        case measure=>omega
        case rel=>exact⟨rfl,k+1,(d+1) % ND,by omega,rfl,by first | rfl | go_num,by go_num,HDM⟩
       | false =>
        go_wp2_with fail;refine HHB.out.mono ?_;rintro e w5 ⟨rfl,rfl⟩;clear c0 c1 c2 c3 c4 c5 c6;go_wp2_with fail;have HHA:=zh (mhas_any u7 xs (d:Int) _ w4 (HR4.out.intS HD9.out));obtain⟨B,hB⟩:=zx (decide ((d:Int)∈xs));rw[<-hB] at HHA;clear hB
        cases B with
        | true =>
         go_wp2_with fail;refine HHA.out.mono ?_;rintro e w5 ⟨rfl,rfl⟩;go_wp2_with (at_builtin;refine app_i (-1) (.tmp 57) (.tmp 59) rfl rfl W1.heap.size u7 i xs HR4.out.len (by rfl) HR4.out.own (by rfl) (by have:=HI6.out;omega) HR4.out.hot.size ?_;intro v7' w7 ho7 hg7 _;have HR7:=zh (HR4.out.push HTL1.out ho7 hg7 ⟨by omega,by omega⟩);clear ho7 hg7);go_roundg (SZ-(i+1))
         case measure=>omega
         case rel=>exact⟨i+1,I2+1,xs++[(-1)],by omega,rfl,by go_num,zh (by have:=HI2.out;omega),HR7.out⟩
        | false =>
         go_wp2_with fail;refine HHA.out.mono ?_;rintro e w5 ⟨rfl,rfl⟩;go_wp2_with fail;refine(HNX.out w4 (I2+1) (HL.out.hot.trans HR4.out.hot) HR4.out.tape (by have:=HI2.out;have:=HI1.out;have:=HII.out;have:=HI6.out;omega) 12 (by omega) (by omega)).mono ?_;rintro e w6 ⟨r2,rfl,hr2,hT6,hg6⟩;have HR6:=zh (HR4.out.next HTL1.out hT6 hg6);clear hT6 hg6;by_cases hr0:r2=0
         ·have q0:((r2:Int)==0)=true:=by simpa using hr0
          clear hr0;go_wp2_with (at_builtin;refine app_i (-1) (.tmp 57) (.tmp 59) rfl rfl W1.heap.size u7 i xs HR6.out.len (by rfl) HR6.out.own (by rfl) (by have:=HI6.out;omega) HR6.out.hot.size ?_;intro v7' w7 ho7 hg7 _;have HR7:=zh (HR6.out.push HTL1.out ho7 hg7 ⟨by omega,by omega⟩);clear ho7 hg7);go_roundg (SZ-(i+1))
          case measure=>omega
          case rel=>exact⟨i+1,I2+1+1,xs++[(-1)],by omega,rfl,by go_num,zh (by have:=HI2.out;omega),HR7.out⟩
         ·have q0:((r2:Int)==0)=false:=by simpa using hr0
          clear hr0;go_wp2_with (at_builtin;refine app_i (d:Int) (.tmp 57) (.tmp 59) rfl rfl W1.heap.size u7 i xs HR6.out.len (by rfl) HR6.out.own (by rfl) (by have:=HI6.out;omega) HR6.out.hot.size ?_;intro v7' w7 ho7 hg7 _;have HR7:=zh (HR6.out.push HTL1.out ho7 hg7 ⟨by omega,by have:=HDD.out;have:=HND.out;omega⟩);clear ho7 hg7);go_roundg (SZ-(i+1))
          case measure=>omega
          case rel=>exact⟨i+1,I2+1+1,xs++[(d:Int)],by omega,rfl,by go_num,zh (by have:=HI2.out;omega),HR7.out⟩
      ·clear c0 c1 c2 c3 c5 c6;go_wp2_with fail;have HHA:=zh (mhas_any u7 xs (d:Int) _ w4 (HR4.out.intS HD9.out));obtain⟨B,hB⟩:=zx (decide ((d:Int)∈xs));rw[<-hB] at HHA;clear hB
       cases B with
       | true =>
        go_wp2_with fail;refine HHA.out.mono ?_;rintro e w5 ⟨rfl,rfl⟩;go_wp2_with (at_builtin;refine app_i (-1) (.tmp 57) (.tmp 59) rfl rfl W1.heap.size u7 i xs HR4.out.len (by rfl) HR4.out.own (by rfl) (by have:=HI6.out;omega) HR4.out.hot.size ?_;intro v7' w7 ho7 hg7 _;have HR7:=zh (HR4.out.push HTL1.out ho7 hg7 ⟨by omega,by omega⟩);clear ho7 hg7);go_roundg (SZ-(i+1))
        case measure=>omega
        case rel=>exact⟨i+1,I2+1,xs++[(-1)],by omega,rfl,by go_num,zh (by have:=HI2.out;omega),HR7.out⟩
       | false =>
        go_wp2_with fail;refine HHA.out.mono ?_;rintro e w5 ⟨rfl,rfl⟩;go_wp2_with fail;refine(HNX.out w4 (I2+1) (HL.out.hot.trans HR4.out.hot) HR4.out.tape (by have:=HI2.out;have:=HI1.out;have:=HII.out;have:=HI6.out;omega) 12 (by omega) (by omega)).mono ?_;rintro e w6 ⟨r2,rfl,hr2,hT6,hg6⟩;have HR6:=zh (HR4.out.next HTL1.out hT6 hg6);clear hT6 hg6;by_cases hr0:r2=0
        ·have q0:((r2:Int)==0)=true:=by simpa using hr0
         clear hr0;go_wp2_with (at_builtin;refine app_i (-1) (.tmp 57) (.tmp 59) rfl rfl W1.heap.size u7 i xs HR6.out.len (by rfl) HR6.out.own (by rfl) (by have:=HI6.out;omega) HR6.out.hot.size ?_;intro v7' w7 ho7 hg7 _;have HR7:=zh (HR6.out.push HTL1.out ho7 hg7 ⟨by omega,by omega⟩);clear ho7 hg7);go_roundg (SZ-(i+1))
         case measure=>omega
         case rel=>exact⟨i+1,I2+1+1,xs++[(-1)],by omega,rfl,by go_num,zh (by have:=HI2.out;omega),HR7.out⟩
        ·have q0:((r2:Int)==0)=false:=by simpa using hr0
         clear hr0;go_wp2_with (at_builtin;refine app_i (d:Int) (.tmp 57) (.tmp 59) rfl rfl W1.heap.size u7 i xs HR6.out.len (by rfl) HR6.out.own (by rfl) (by have:=HI6.out;omega) HR6.out.hot.size ?_;intro v7' w7 ho7 hg7 _;have HR7:=zh (HR6.out.push HTL1.out ho7 hg7 ⟨by omega,by have:=HDD.out;have:=HND.out;omega⟩);clear ho7 hg7);go_roundg (SZ-(i+1))
         case measure=>omega
         case rel=>exact⟨i+1,I2+1+1,xs++[(d:Int)],by omega,rfl,by go_num,zh (by have:=HI2.out;omega),HR7.out⟩
    ·go_wp2_with fail;refine(HSZ1.out W3 (HL.out.hot.trans HR.out.hot)).mono ?_;rintro e w3 ⟨rfl,hb3⟩;have HR3:=zh (HR.out.below hb3);clear hb3 c0 c1 c2 c3 c4 c5 c6;have hst:=HL.out.own.stayF rowIK HR3.out.hot (fun b e=>.inl (by simp at e;have:=HTL.out.2;omega));obtain⟨cs,k1,k2⟩:=hst;have HK:=zh (And.intro k1 k2);clear k1 k2;obtain⟨A7,c7,h7⟩:=own_form HR3.out.own;subst h7;have HLL:=zh (show L.length=j from HL.out.ok.1);have HIE:=zh (show i=szN F j from by have:=HSE.out;omega);have HD9:=zh (show F.dves.length<=1000 from by have:=HND.out;omega);go_wp2_with (at_builtin;refine app_rows (.slice A7 i c7) rfl 37 Tryz.underlying37 (.tmp 61) (.tmp 63) rfl rfl W0.heap.size u5 L.length cs (by rfl) HK.out.1 (by rfl) (by have:=HLL.out;have:=HI6.out;omega) (Nat.le_trans HL.out.hot.size HR3.out.hot.size) ?_;intro v5' w7 ho7 hg7 ha7;have HLN:=zh (LayT.push HL.out HR3.out HTL.out.2 HIE.out HD9.out ho7 HK.out.2 HK.out.1.1 (fun b hb=>⟨(HL.out.own.lt b hb).2,(HL.out.own.lt b hb).1⟩) hg7 ha7);clear ho7 hg7 ha7);go_roundg (NV-(j+1))
     case measure=>omega
     case rel=>exact⟨j+1,I2,L++[xs],by omega,rfl,by go_num,zh (by have:=HI2.out;have:=HI1.out;have:=HI6.out;omega),HLN.out⟩
  ·have HJE:=zh (show j=NV by omega);go_wp2_with fail;go_ret;have hz:=HH0.out.trans HL.out.hot;have hws:w.heap.size<=W0.heap.size:=HH0.out.size;exact⟨_,L,I1,rfl,HL.out.own.slS rowIK (fun b hb=>⟨Nat.le_trans hws hb.1,hb.2.1⟩) (fun b hb=>⟨Nat.le_trans hws (HL.out.own.lt b hb).1,(HL.out.own.lt b hb).2⟩),by rw[<-HJE.out];exact HL.out.ok,HL.out.tape,by have:=HI1.out;omega,⟨hz.os,hz.tape,hz.output,hz.size,fun b hb hne=>hz.block b hb (fun e=>by simp at e;exact hne (by rw[e]))⟩⟩
theorem setCells_flat{g:Nat}:∀(vs:List Value) (o:Nat) (w:World),(w.setCells g o vs).os=w.os/\(w.setCells g o vs).tape=w.tape/\(w.setCells g o vs).output=w.output
 | [],_,_=>⟨rfl,rfl,rfl⟩
 | v :: r,o,w=>by
  obtain⟨h1,h2,h3⟩:=setCells_flat (g:=g) r (o+1) (w.setCell ⟨g,o,none⟩ v);exact⟨h1,h2,h3⟩
theorem size_frac7:(Tryz.prog.info? 26).map (·.size)=some 3:=by kernel_rfl
theorem info_frac7:(Tryz.prog.info? 26).map (fun i=>(i.zero,i.size,i.bytes))=some (some (.agg #[.bool false,.slice none 0 0,.slice none 0 0]),3,56):=by kernel_rfl
theorem mk_fracs(n:Nat)(hn:n<=1000):∃cs:Array Value,cs.size=n*3/\∀w:World,(Instr.makeSlice 53 (.int .i64 (n:Int)) (.int .i64 (n:Int))).run Tryz.prog w=.ok (.slice (some ⟨w.heap.size,0,none⟩) n n) (w.alloc (.cells cs 26)):=by
 obtain⟨i0,hi0,hz0,hz1,hz2⟩:=info_parts info_frac7;refine⟨madeCells (Value.agg #[.bool false,.slice none 0 0,.slice none 0 0]).cells (n*3),size_madeCells _ _,fun w=>?_⟩;have h:=run_make (P:=Tryz.prog) w 53 26 i0 _ Tryz.underlying53 hi0 hz0 .i64 .i64 (n:Int) (n:Int) (by omega) (by omega) (by rw[hz2];omega) (by omega);rw[hz1] at h
 simpa using h
theorem pfracs_any(v:Value)(l:List Frc)(w:World)(h:SlS 3 FrcK w (Bl w.heap.size) v l)(hn:l.length<=1000)(hsm:∀x∈l,(natL x.num).length<=100000/\(natL x.den).length<=100000) :
  Calls Tryz.prog 75 #[v] w fun e w'=>∃g,e=.returned (.slice (some ⟨g,0,none⟩) l.length l.length)/\w.heap.size<=g/\OwnK 3 FrcK w' w.heap.size 26 (.slice (some ⟨g,0,none⟩) l.length l.length) l (fun b=>w.heap.size<=b/\b<w'.heap.size/\b≠g)/\Below w.heap.size w w':=by
 obtain⟨A,c,rfl,-,hm⟩:=h.form;obtain⟨L,hL⟩:=zx l.length;obtain⟨cs0,hz0,hmk⟩:=mk_fracs L (by omega);obtain⟨W0,hW0⟩:=zx (w.alloc (.cells cs0 26));obtain⟨g,hg⟩:=zx w.heap.size;rw[<-hL] at hn hm ⊢
 have hb0:Below w.heap.size w W0:=by rw[hW0];exact(zB _ _).alloc (zR _) _
 have hgk:W0.heap[g]?=some (.cells cs0 26 (0,0)):=by rw[hW0,hg];exact zN _ _
 have HF0:=zh (show FillTo 3 FrcK W0 w.heap.size 26 g L 0 l from FillTo.start (by omega) hgk hz0);have HB0:=zh hb0;have HS:=zh h;have HSM:=zh hsm;have HL:=zh hL;have HW0:=zh hW0;have HG:=zh hg;clear h hsm hL hW0 hg hb0 hgk hz0;go_enter Tryz.func75,Tryz.ntmps75;go_wp2_with fail;clear hmk;rw[<-HW0.out,<-HG.out];go_loopg [11] L (fun z v11 wr=>∃j:Nat,j<=L/\z=L-j/\v11=.int .i64 (j:Int)/\Hid (Below w.heap.size w wr)/\Hid (FillTo 3 FrcK wr w.heap.size 26 g L j l))
 case atStart=>exact⟨0,by omega,rfl,rfl,HB0,HF0⟩
 case round =>
  obtain⟨j,hj,rfl,rfl,HB,HF⟩:=hrel;obtain⟨W1,hW1⟩:=zx wr;rw[<-hW1] at HB HF ⊢;clear hW1;by_cases hlt:j<L
  ·obtain⟨b,off,cs,e,hR,hcl,hc,hK⟩:=HS.out.at_ (k:=j) (by rw[<-HL.out];exact hlt);obtain⟨x,hx⟩:∃x,l[j]?=some x:=⟨_,zG (by rw[<-HL.out];exact hlt)⟩;have hxe:l[j]'(by rw[<-HL.out];exact hlt)=x:=(zL.1 hx).2;rw[hxe] at hK;obtain⟨vn,vd,rfl,hn1,hn2⟩:=hK;obtain⟨A1,N1,c1,rfl⟩:=hn1.frm;obtain⟨A2,N2,c2,rfl⟩:=hn2.frm
   have hcx:∀i u,[Value.bool x.neg,.slice A1 N1 c1,.slice A2 N2 c2][i]?=some u->W1.cell? ⟨b,off+j*3+i,none⟩=some u:=fun i u hu=>(HB.out.cell (p:=⟨b,off+j*3+i,none⟩) hR).trans (hc i u hu)
   have e0:W1.cell? ⟨b,off+j*3,none⟩=some (.bool x.neg):=hcx 0 _ rfl;have e1:W1.cell? ⟨b,off+j*3+1,none⟩=some (.slice A1 N1 c1):=hcx 1 _ rfl;have e2:W1.cell? ⟨b,off+j*3+2,none⟩=some (.slice A2 N2 c2):=hcx 2 _ rfl
   have i1:(j:Int)<(L:Int):=by omega
   have l1:(L:Int)<=1000:=by omega
   have HX:=zh hx;have HN1:=zh hn1;have HN2:=zh hn2;subst e;clear hx hxe hn1 hn2 hcx hc hcl hR;go_wp2_with fail;have hb4:Below W1.heap.size W1 (W1.alloc (.cells #[.bool x.neg,.slice A1 N1 c1,.slice A2 N2 c2] 26)):=(zB _ _).alloc (zR _) _;obtain⟨W4,hW4⟩:=zx (W1.alloc (.cells #[.bool x.neg,.slice A1 N1 c1,.slice A2 N2 c2] 26));rw[<-hW4] at hb4 ⊢;have HB4:=zh hb4;have hw4:Below w.heap.size w W4:=HB.out.trans (hb4.mono HB.out.size);have hs2:=HSM.out x (List.mem_of_getElem? HX.out);have hcl:=pfrac_any x.neg (.slice A1 N1 c1) (.slice A2 N2 c2) (natL x.num) (natL x.den) W4 (HN1.out.below hw4) (HN2.out.below hw4) hs2.1 hs2.2;refine hcl.mono ?_;clear hW4 hb4 hcl e0 e1 e2 hw4 hs2;rintro e w5 ⟨un,ud,rfl,hu,hd,hb5⟩;obtain⟨B1,M1,k1,rfl⟩:=hu.frm;obtain⟨B2,M2,k2,rfl⟩:=hd.frm;have HB5:=zh (HB4.out.trans (hb5.mono HB4.out.size));have HF5:=zh (HF.out.below frcK HB5.out);have hgl:=HF.out.lt;have HF6:=zh (HF5.out.store frcK hlt [.bool x.neg,.slice B1 M1 k1,.slice B2 M2 k2] rfl HX.out (R:=Fr W4.heap.size w5.heap.size) ⟨_,_,rfl,hu,hd⟩ (fun b hb=>⟨by have:=hb.1;have:=HB4.out.size;have:=HB.out.size;omega,hb.2,by have:=hb.1;have:=HB4.out.size;omega⟩));have HTH:=zh (HF5.out.there hlt);have hbg:w.heap.size<=g:=HF.out.1;have HB6:=zh (show Below w.heap.size w (w5.setCells g (j*3) [.bool x.neg,.slice B1 M1 k1,.slice B2 M2 k2]) from(HB.out.trans (HB5.out.mono HB.out.size)).trans ⟨(setCells_flat _ _ _).1,(setCells_flat _ _ _).2.1,(setCells_flat _ _ _).2.2,by rw[setCells_sizeK];exact zR _,fun b hb=>setCells_other _ _ _ _ (by omega)⟩);clear hu hd hb5 hgl hbg
   rename_i hK
   refine hK _ _ ?_;refine wpList_plain rfl (fun K hK=>?_);go_simp;refine hK _ _ ?_;clear hK;(try simp only[Act.put,z1,z2,z3]);refine wpList_store_mid rfl 26 (.tmp 20) (.tmp 19) rfl g (j*3) #[.bool x.neg,.slice B1 M1 k1,.slice B2 M2 k2] (by rfl) (by rfl) HTH.out size_frac7 (by simp[Value.oneCell']) ?_;(try simp only[Act.put,z1,z2,z3]);obtain⟨W6,hW6⟩:=zx (w5.setCells g (j*3) [.bool x.neg,.slice B1 M1 k1,.slice B2 M2 k2]);rw[<-hW6] at HF6 HB6 ⊢;clear hW6;go_wp2_with fail;go_roundg (L-(j+1))
   case measure=>omega
   case rel=>exact⟨j+1,by omega,rfl,by go_num,HB6,HF6⟩
  ·have HJE:=zh (show j=L by omega);go_wp2_with fail;go_ret;have hf:=HF.out;rw[HJE.out] at hf;have ho:=hf.own HL.out.symm (by unfold maxLen;omega);exact⟨g,rfl,hf.1,ho,HB.out⟩
end Go.Proofs.YtgfaieppacabjaaGreat
