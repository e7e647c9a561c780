/- The program's Rescue at a stripe of a made fleet, walked. -/
import Derived.Deep.MidRow
import Derived.Test.YtcfkllnpkmebpaaGreatDoorMh22
import Derived.Test.YtcfkllnpkmebpaaGreatDoorMh01
import Derived.Test.YtcfkllnpkmebpaaGreatDoorMh23
import Derived.Test.YtcfkllnpkmebpaaGreatDoorMh24
import Derived.Test.YtcfkllnpkmebpaaGreatDoorMh05
import Derived.Laws.OwnMore
import Derived.Test.YtcfkllnpkmebpaaGreatDoorMh17
set_option maxRecDepth 100000
set_option maxHeartbeats 12800000
namespace Go.Proofs.YtcfkllnpkmebpaaGreatDoor
open Go.RowKit
set_option linter.unusedVariables false
set_option linter.unusedSimpArgs false
theorem kg_storeW{κ:Type} {kval:κ→Value} {ok:κ→Prop} [DecidableEq κ] {o:Oper} {a:Act} {K:Act→World→Prop} {Q:Exit→Act→World→Prop} {w:World} (m xo vo:Operand) (t kt e:TypeId) (hop:o.op=Op.mapUpdate t m xo vo) (T:KeyT kt kval ok) (ht:Tryz.prog.underlying t=some (.map kt e)) (b n:Nat) (f:κ→Option Value) (x:κ) (v:Value)
  (hm:a.eval m=.map (some b)) (hxo:a.eval xo=kval x) (hvo:a.eval vo=v) (h:MapG w kt kval b n f) (hn:n<maxLen) (hx:ok x)
  (hK:∀w',MapG w' kt kval b (n+1) (updG f x v)→w.grownBy w' (some b)→K (a.put o.dst undef) w'):Oper.wp Tryz.prog o a w K Q:=by
 obtain⟨w',hrun,r1,r2⟩:=h.store T ht hn hx v
 unfold Oper.wp
 simp[execOp,hop,hm,hxo,hvo,hrun,Result.andThen]
 exact hK w' r1 r2
theorem two_pow_wrap(i:Nat) (h:i<4):wrap64 (2 ^ i)=((2 ^ i:Nat):Int):=by
 have:i=0∨i=1∨i=2∨i=3:=by omega
 rcases this with rfl | rfl | rfl | rfl <;> decide +kernel
theorem two_pow_wrap2(i:Nat) (h:i<4):IntKind.i64.wrap (2 ^ i)=((2 ^ i:Nat):Int):=by
 have:i=0∨i=1∨i=2∨i=3:=by omega
 rcases this with rfl | rfl | rfl | rfl <;> decide +kernel
theorem two_pow_lt(i:Nat) (h:i<4):2 ^ i≤8:=by
 have:i=0∨i=1∨i=2∨i=3:=by omega
 rcases this with rfl | rfl | rfl | rfl <;> decide +kernel
theorem rescue_in(N:Nat) (hN:N≤12) (vl vm vd vv vp vo vp0 vo0 va0:Value) (F:FltM) (r:Re) (v s EX KN KM:Nat) (w:World) (hf:FleetS w (Bl w.heap.size) vl vm vd vv vp vo F) (hok:FleetOk N F) (h:ReS w (Bl w.heap.size) vp0 vo0 va0 r) (hp:r.plat.length≤24) (hl:∀l∈r.plat,l.length≤1000) (hac:r.acks.length≤1000000)
  (hv:v<F.vols.length) (hEX:F.ext=(EX:Int)) (hs:s<EX) (hKN:kOf F v=(KN:Int)) (hKM:kOf F v+mOf F v=(KM:Int)) :
  Calls Tryz.prog 23 #[.agg #[.int .i64 F.ext,vl,vm,vd,vv,vp,vo],.agg #[vp0,vo0,va0],.int .i64 (v:Int),.int .i64 (s:Int)] w fun e w'=>∃u,e=.returned (.tuple #[u,.int .i64 (resS F r (v:Int) (s:Int)).2])∧OwnI w' w.heap.size u ((resS F r (v:Int) (s:Int)).1.map (fun x:Nat=>(x:Int)))∧Below w.heap.size w w':=by
 have hkm4:(KN=1∨KN=2)∧KM≤4:=by
  obtain⟨kk,m1,m2,-,-⟩:=kmq_ok hok hv
  omega
 have hstr:isStr F.vols.length F.ext (v:Int) (s:Int)=true:=by unfold isStr;rw[decide_eq_true_eq];omega
 obtain⟨RS,hRS⟩:=zx (resS F r (v:Int) (s:Int))
 rw[←hRS]
 obtain⟨LB,hLB⟩:=zx (keyP F r (condR true) (v,s))
 obtain⟨AB,hAB⟩:=zx (keyP F r (condR false) (v,s))
 have HRES:=zh (show(LB=true→RS=([],121))∧(LB=false→AB=false→RS=([],110))∧(LB=false→AB=true→RS=(rescL r (v:Int) (s:Int) KM KN,0)∧KN≤((List.range KM).filter (anyF r (v:Int) (s:Int))).length∧cntS r (v:Int) (s:Int) KM []<KN) from by
  rw[hLB,hAB,hRS]
  refine⟨fun h1=>resS_lost hstr h1,fun h1 h2=>resS_state hstr h1 h2,fun h1 h2=>⟨resS_ok hKM hKN hstr h1 h2,?_⟩⟩
  obtain⟨k1,k2,-⟩:=key_away hKM hKN (by omega) h2
  exact⟨k1,k2⟩)
 obtain⟨pb,pof,ob,oof,cp,co,rfl,rfl,hRp,hRo,hPA⟩:=polAt hf hok
 obtain⟨Ap,cpl,rfl,-,-⟩:=h.1.form
 obtain⟨Ao,col,rfl,-,-⟩:=h.2.1.form
 obtain⟨Aa,cal,rfl,-,-⟩:=h.2.2.form
 obtain⟨vp0,hvp0⟩:=zx (Value.slice Ap r.plat.length cpl)
 obtain⟨vo0,hvo0⟩:=zx (Value.slice Ao r.on.length col)
 obtain⟨va0,hva0⟩:=zx (Value.slice Aa r.acks.length cal)
 rw[←hvp0,←hvo0,←hva0] at h ⊢
 have HVA:=zh (fun(w':World) (hb:Below w.heap.size w w')=>fvalidate_any N hN vl vm vd vv _ _ F w' (hf.below hb) hok)
 have HLO0:=zh (fun(w':World) (hb:Below w.heap.size w w')=>lost_any N hN vl vm vd vv _ _ vp0 vo0 va0 F r w' (hf.below hb) hok (h.below hb) (by omega) hl hac)
 have HUN0:=zh (fun(w':World) (hb:Below w.heap.size w w')=>unav_any N hN vl vm vd vv _ _ vp0 vo0 va0 F r w' (hf.below hb) hok (h.below hb) (by omega) hl hac)
 have HGD:=zh (fun(i:Nat) (w':World) (hb:Below w.heap.size w w')=>good_any vp0 vo0 va0 r (v:Int) (i:Int) (s:Int) w' (h.below hb) (by omega) hl hac (by have:=hok.volN;unfold I64;omega) (by have:=hok.ext;unfold I64;omega))
 have HONL:=zh (fun(d:Nat) (hd:d≤1048576) (w':World) (hb:Below w.heap.size w w')=>ionline_any vp0 vo0 va0 r d w' (h.below hb) hd)
 have hgl:∀i:Nat,(goodI r (v:Int) (i:Int) (s:Int)).length≤1000000:=fun i=>by
  have h0:=goodTo_length (v:Int) (i:Int) (s:Int) (pieces r)
  have h1:=piecesTo_length r 1000 hl r.plat.length
  have h2:r.plat.length * 1000≤24 * 1000:=Nat.mul_le_mul_right 1000 hp
  unfold goodI
  unfold pieces at h0 ⊢
  omega
 have HGL:=zh hgl
 obtain⟨hpl,nm,hvol,a0,a4,a5,a6,a7,a8,a9,a10,a11,a12,a13,a14,a15,a16,hpol,hone⟩:=hPA v hv
 obtain⟨MM,hMM⟩:=zx (mOf F v)
 obtain⟨QQ,hQ⟩:=zx (qOf F v)
 obtain⟨p0,hpp⟩:=zx (volP F v)
 rw[hKN,←hMM,←hQ] at hpol hone
 rw[←hpp] at hvol hpl hpol
 rw[hKN,←hMM] at hKM
 have HKM:=zh (show(KN=1∨KN=2)∧(KN:Int)+MM=(KM:Int)∧KM≤4 from⟨hkm4.1,hKM,hkm4.2⟩)
 have hex:EX≤2:=by have:=hok.ext;omega
 have hno:=hok.volN
 have hnp:=hok.polN
 have HIS:=zh (fun(w':World)=>iisStripe_any vl vm vd vv (.slice (some ⟨pb,pof,none⟩) F.pols.length cp) (some ⟨ob,oof,none⟩) F.vols.length co (EX:Int) (v:Int) (s:Int) w' (by omega))
 rw[←hEX,hstr,hEX] at HIS
 obtain⟨KL1,hKL1⟩:=zx (keyL F r (condR true) F.ext.toNat F.vols.length 0)
 obtain⟨KL2,hKL2⟩:=zx (keyL F r (condR false) F.ext.toNat F.vols.length 0)
 have HK12:=zh (show decide ((v,s)∈KL1)=LB∧decide ((v,s)∈KL2)=AB from by
  rw[hKL1,hKL2,hLB,hAB]
  exact⟨keyL_dec F r _ _ _ v s hv (by omega),keyL_dec F r _ _ _ v s hv (by omega)⟩)
 rw[←hKL1] at HLO0
 rw[←hKL2] at HUN0
 rw[hEX] at HVA HLO0 HUN0 ⊢
 obtain⟨NO,hNO⟩:=zx F.vols.length
 obtain⟨NP,hNP⟩:=zx F.pols.length
 obtain⟨NPL,hNPL⟩:=zx r.plat.length
 rw[←hNO] at hno hv HVA HIS HLO0 HUN0 ⊢
 rw[←hNP] at hnp hpl HVA HIS HLO0 HUN0 ⊢
 rw[←hNPL] at hp hvp0
 have HNPL:=zh hNPL
 obtain⟨W0,hW0⟩:=zx ((w.alloc (.cells #[.int .i64 (EX:Int),vl,vm,vd,vv,.slice (some ⟨pb,pof,none⟩) NP cp,.slice (some ⟨ob,oof,none⟩) NO co] 35)).alloc (.cells #[vp0,vo0,va0] 40))
 obtain⟨z,hz⟩:=zx w.heap.size
 obtain⟨y,hy⟩:=zx (w.heap.size+1)
 have hb0:Below w.heap.size w W0:=by rw[hW0];exact((Below.refl _ _).alloc (Nat.le_refl _) _).alloc (by simp) _
 have hyk:W0.heap[y]?=some (.cells #[vp0,vo0,va0] 40 (0,0)):=by
  rw[hW0];exact heap_alloc_at _ _ _ (by rw[hy];simp)
 have hzk:W0.heap[z]?=some (.cells #[.int .i64 (EX:Int),vl,vm,vd,vv,.slice (some ⟨pb,pof,none⟩) NP cp,.slice (some ⟨ob,oof,none⟩) NO co] 35 (0,0)):=by
  rw[hW0,hz];exact(Below.heap_alloc _ _ _ (by simp)).trans (heap_alloc_new w _)
 have hyl:y<W0.heap.size:=(Array.getElem?_eq_some_iff.1 hyk).1
 have hzl:z<W0.heap.size:=(Array.getElem?_eq_some_iff.1 hzk).1
 have HC:=zh (fun(w':World) (hb:Below W0.heap.size W0 w')=>And.intro (cells7 ((hb.block z hzl).trans hzk)) (cells3 ((hb.block y hyl).trans hyk)))
 have HRE:=zh (fun(w':World) (hb:Below W0.heap.size W0 w')=>hb0.trans (hb.mono hb0.size))
 have HW0:=zh hW0
 have HZ:=zh hz
 have HY:=zh hy
 have HB0:=zh hb0
 have HVOL:=zh (fun(w':World) (hb:Below W0.heap.size W0 w')=>(show w'.cell? ⟨ob,oof+v * 2+1,none⟩=some (.int .i64 (p0:Int)) from range_same hvol ((hb0.trans (hb.mono hb0.size)).block ob hRo) 1 _ rfl))
 have HPOL:=zh (fun(w':World) (hb:Below W0.heap.size W0 w')=>(show w'.rangeAt pb (pof+p0 * 17) [a0,.int .i64 (KN:Int),.int .i64 MM,.int .i64 QQ,a4,a5,a6,a7,a8,a9,a10,a11,a12,a13,a14,a15,a16] from range_same hpol ((hb0.trans (hb.mono hb0.size)).block pb hRp)))
 have HON:=zh hone
 have HVP:=zh hvp0
 have i1:(v:Int)<(NO:Int):=by omega
 have i2:(p0:Int)<(NP:Int):=by omega
 have i3:(KN:Int)≤2:=by omega
 have i4:(1:Int)≤(KN:Int):=by omega
 have i5:(KM:Int)≤4:=by have:=HKM.out;omega
 have i6:(NPL:Int)≤24:=by omega
 have hkw:IntKind.i64.wrap ((KN:Int)+MM)=(KM:Int):=by rw[HKM.out.2.1];exact IntWalk.i64_in _ (by omega)
 have hkm:(KN:Int)+MM=(KM:Int):=HKM.out.2.1
 obtain⟨⟨c0,c1,c2,c3,c4,c5,c6⟩,-⟩:=HC.out W0 (Below.refl _ _)
 clear hf hok h hPA hRp hRo hvol hpol hone hW0 hz hy hb0 hyk hzk hyl hzl hNO hNP hEX hKN hMM hQ hpp hpl hKM hstr hRS hLB hAB hKL1 hKL2 hNPL hvp0 hvo0 hva0 hgl hkm4 hl hac hN
 go_enter Tryz.func23,Tryz.ntmps23
 go_wp2_with fail
 rw[←HW0.out,←HY.out,←HZ.out]
 refine(HVA.out _ HB0.out).mono ?_
 rintro e w0 ⟨rfl,hb00⟩
 have HB00:=zh hb00
 clear c0 c1 c2 c3 c4 c5 c6 hb00
 obtain⟨⟨c0,c1,c2,c3,c4,c5,c6⟩,-⟩:=HC.out w0 HB00.out
 go_wp2_with fail
 refine(HIS.out _).mono ?_
 rintro e w1 ⟨rfl,hb1⟩
 have HB1:=zh (HB00.out.trans (hb1.mono HB00.out.size))
 clear c0 c1 c2 c3 c4 c5 c6 hb1
 obtain⟨-,y0,-⟩:=HC.out w1 HB1.out
 rw[HVP.out] at y0
 obtain⟨W3,hW3⟩:=zx (w1.alloc (.cells #[.int .i64 (v:Int),.int .i64 (s:Int)] 67))
 obtain⟨gk,hgk⟩:=zx w1.heap.size
 have hb3:Below w1.heap.size w1 W3:=by rw[hW3];exact(Below.refl _ _).alloc (Nat.le_refl _) _
 have hgkk:W3.heap[gk]?=some (.cells #[.int .i64 (v:Int),.int .i64 (s:Int)] 67 (0,0)):=by
  rw[hW3,hgk];exact heap_alloc_new w1 _
 have HB3:=zh (HB1.out.trans (hb3.mono HB1.out.size))
 have hgkl:gk<W3.heap.size:=(Array.getElem?_eq_some_iff.1 hgkk).1
 have HS4:=zh (fun(w':World) (hb:Below W3.heap.size W3 w')=>(show w'.cell? ⟨z,0,none⟩=some (.int .i64 (EX:Int))∧w'.cell? ⟨z,1,none⟩=some vl∧w'.cell? ⟨z,2,none⟩=some vm∧w'.cell? ⟨z,3,none⟩=some vd∧w'.cell? ⟨z,4,none⟩=some vv∧w'.cell? ⟨z,5,none⟩=some (.slice (some ⟨pb,pof,none⟩) NP cp)∧w'.cell? ⟨z,6,none⟩=some (.slice (some ⟨ob,oof,none⟩) NO co)∧w'.cell? ⟨y,0,none⟩=some vp0∧w'.cell? ⟨y,1,none⟩=some vo0∧w'.cell? ⟨y,2,none⟩=some va0∧w'.cell? ⟨gk,0,none⟩=some (.int .i64 (v:Int))∧w'.cell? ⟨gk,1,none⟩=some (.int .i64 (s:Int))∧Below W3.heap.size W3 w' from by
  obtain⟨⟨x0,x1,x2,x3,x4,x5,x6⟩,y0,y1,y2,-⟩:=HC.out w' (HB3.out.trans (hb.mono HB3.out.size))
  have hk:=(hb.block gk hgkl).trans hgkk
  exact⟨x0,x1,x2,x3,x4,x5,x6,y0,y1,y2,by rw[cell_of_row _ _ _ _ _ _ hk];rfl,by rw[cell_of_row _ _ _ _ _ _ hk];rfl,hb⟩))
 have HLO:=zh (fun(w':World) (hb:Below W3.heap.size W3 w')=>HLO0.out w' (HRE.out w' (HB3.out.trans (hb.mono HB3.out.size))))
 have HUN:=zh (fun(w':World) (hb:Below W3.heap.size W3 w')=>HUN0.out w' (HRE.out w' (HB3.out.trans (hb.mono HB3.out.size))))
 have HW3:=zh hW3
 have HGK:=zh hgk
 clear hW3 hgk hb3 hgkk hgkl
 go_upto_region 4 with fail
 rw[←HW3.out,←HGK.out]
 clear y0
 refine region_tail (S:=(fun w'=>w'.cell? ⟨z,0,none⟩=some (.int .i64 (EX:Int))∧w'.cell? ⟨z,1,none⟩=some vl∧w'.cell? ⟨z,2,none⟩=some vm∧w'.cell? ⟨z,3,none⟩=some vd∧w'.cell? ⟨z,4,none⟩=some vv∧w'.cell? ⟨z,5,none⟩=some (.slice (some ⟨pb,pof,none⟩) NP cp)∧w'.cell? ⟨z,6,none⟩=some (.slice (some ⟨ob,oof,none⟩) NO co)∧w'.cell? ⟨y,0,none⟩=some vp0∧w'.cell? ⟨y,1,none⟩=some vo0∧w'.cell? ⟨y,2,none⟩=some va0∧w'.cell? ⟨gk,0,none⟩=some (.int .i64 (v:Int))∧w'.cell? ⟨gk,1,none⟩=some (.int .i64 (s:Int))∧Below W3.heap.size W3 w')) [] (by kernel_rfl) (HS4.out _ ((Below.refl W3.heap.size W3).drew)) (fun hHeld=>?_)
 refine tk 0 39 ?_
 refine tk 1 40 ?_
 refine tk 3 42 ?_
 refine readyT (rs:=[2]) (by kernel_rfl) (by simp) ?_
 refine AllReadyT.cons rfl (fun K hK=>?_) ?_
 ·go_simp
  refine(HLO.out _ (Below.refl W3.heap.size W3).drew).mono ?_
  rintro e wc ⟨u,rfl,ho,hb4⟩
  have hb5:=((Below.refl W3.heap.size W3).drew).trans (hb4.mono ((Below.refl W3.heap.size W3).drew).size)
  have hS5:=HS4.out _ hb5
  refine hK.out _ _ ?_ (fun hHeld=>?_)
  ·(first|exact hS7|exact hS5)
  clear hK K
  (try simp only[Act.put,z1,z2,z3])
  refine readyT (rs:=[4]) (by kernel_rfl) (by simp) ?_
  refine AllReadyT.cons rfl (fun K hK=>?_) ?_
  ·go_simp
   have hkc:=kcontains_any u KL1 v s _ _ (ho.slS) (fun b h=>h.2)
   rw[HK12.out.1] at hkc
   refine hkc.mono ?_
   rintro e wd ⟨rfl,hb6⟩
   have hb7:=hb5.trans (hb6.mono hb5.size)
   have hS7:=HS4.out _ hb7
   refine hK.out _ _ ?_ (fun hHeld=>?_)
   ·(first|exact hS7|exact hS5)
   clear hK K
   (try simp only[Act.put,z1,z2,z3])
   refine doneT (by kernel_rfl) ?_ _
   obtain⟨w5,hw5⟩:=zx wd
   rw[←hw5] at hb7 ⊢
   have HB5:=zh hb7
   subst hw5
   clear hHeld hS5 hS7 hb4 hb5 hb6 hb7 ho
   cases LB with
   | true =>
    go_wp2_with fail
    go_ret2
    rw[HRES.out.1 (by simp)]
    exact⟨_,rfl,OwnI.nil _ _,HB0.out.trans ((HB3.out.trans (HB5.out.mono HB3.out.size)).mono HB0.out.size)⟩
   | false =>
    go_upto_region 6 with fail
    refine region_tail (S:=(fun w'=>w'.cell? ⟨z,0,none⟩=some (.int .i64 (EX:Int))∧w'.cell? ⟨z,1,none⟩=some vl∧w'.cell? ⟨z,2,none⟩=some vm∧w'.cell? ⟨z,3,none⟩=some vd∧w'.cell? ⟨z,4,none⟩=some vv∧w'.cell? ⟨z,5,none⟩=some (.slice (some ⟨pb,pof,none⟩) NP cp)∧w'.cell? ⟨z,6,none⟩=some (.slice (some ⟨ob,oof,none⟩) NO co)∧w'.cell? ⟨y,0,none⟩=some vp0∧w'.cell? ⟨y,1,none⟩=some vo0∧w'.cell? ⟨y,2,none⟩=some va0∧w'.cell? ⟨gk,0,none⟩=some (.int .i64 (v:Int))∧w'.cell? ⟨gk,1,none⟩=some (.int .i64 (s:Int))∧Below W3.heap.size W3 w')) [] (by kernel_rfl) (HS4.out _ (HB5.out.drew)) (fun hHeld=>?_)
    refine tk 0 44 ?_
    refine tk 1 45 ?_
    refine tk 3 47 ?_
    refine readyT (rs:=[2]) (by kernel_rfl) (by simp) ?_
    refine AllReadyT.cons rfl (fun K hK=>?_) ?_
    ·go_simp
     refine(HUN.out _ HB5.out.drew).mono ?_
     rintro e wc ⟨u,rfl,ho,hb4⟩
     have hb5:=(HB5.out.drew).trans (hb4.mono (HB5.out.drew).size)
     have hS5:=HS4.out _ hb5
     refine hK.out _ _ ?_ (fun hHeld=>?_)
     ·(first|exact hS7|exact hS5)
     clear hK K
     (try simp only[Act.put,z1,z2,z3])
     refine readyT (rs:=[4]) (by kernel_rfl) (by simp) ?_
     refine AllReadyT.cons rfl (fun K hK=>?_) ?_
     ·go_simp
      have hkc:=kcontains_any u KL2 v s _ _ (ho.slS) (fun b h=>h.2)
      rw[HK12.out.2] at hkc
      refine hkc.mono ?_
      rintro e wd ⟨rfl,hb6⟩
      have hb7:=hb5.trans (hb6.mono hb5.size)
      have hS7:=HS4.out _ hb7
      refine hK.out _ _ ?_ (fun hHeld=>?_)
      ·(first|exact hS7|exact hS5)
      clear hK K
      (try simp only[Act.put,z1,z2,z3])
      refine tk 5 49 ?_
      refine doneT (by kernel_rfl) ?_ _
      obtain⟨w7,hw7⟩:=zx wd
      rw[←hw7] at hb7 ⊢
      have HB7:=zh hb7
      subst hw7
      clear hHeld hS5 hS7 hb4 hb5 hb6 hb7 ho
      cases AB with
      | false =>
       go_wp2_with fail
       go_ret2
       rw[HRES.out.2.1 (by simp) (by simp)]
       exact⟨_,rfl,OwnI.nil _ _,HB0.out.trans ((HB3.out.trans (HB7.out.mono HB3.out.size)).mono HB0.out.size)⟩
      | true =>
       obtain⟨hrs,hk1,hk2⟩:=HRES.out.2.2 (by simp) (by simp)
       have HRS:=zh hrs
       have HK1:=zh (And.intro hk1 hk2)
       clear hrs hk1 hk2 HRES
       have HTH:=zh (show((w7.alloc (.cells #[.string ⟨#[]⟩,.int .i64 0,.int .i64 0,.int .i64 0,.int .i64 0,.int .i64 0,.int .i64 0,.int .i64 0,.int .i64 0,.slice none 0 0,.slice none 0 0,.bool false,.slice none 0 0,.slice none 0 0,.bool false,.slice none 0 0,.slice none 0 0] 85)).drew).there w7.heap.size 0 17 from there_of_block (w:=(w7.alloc (.cells #[.string ⟨#[]⟩,.int .i64 0,.int .i64 0,.int .i64 0,.int .i64 0,.int .i64 0,.int .i64 0,.int .i64 0,.int .i64 0,.slice none 0 0,.slice none 0 0,.bool false,.slice none 0 0,.slice none 0 0,.bool false,.slice none 0 0,.slice none 0 0] 85)).drew) (cs:=#[.string ⟨#[]⟩,.int .i64 0,.int .i64 0,.int .i64 0,.int .i64 0,.int .i64 0,.int .i64 0,.int .i64 0,.int .i64 0,.slice none 0 0,.slice none 0 0,.bool false,.slice none 0 0,.slice none 0 0,.bool false,.slice none 0 0,.slice none 0 0]) (heap_alloc_new w7 _) (Nat.le_refl 17))
       have HSK:=zh (fun(w':World) (hb:Below w7.heap.size w7 w')=>(show w'.cell? ⟨z,5,none⟩=some (.slice (some ⟨pb,pof,none⟩) NP cp)∧w'.cell? ⟨z,6,none⟩=some (.slice (some ⟨ob,oof,none⟩) NO co)∧w'.cell? ⟨ob,oof+v * 2+1,none⟩=some (.int .i64 (p0:Int))∧w'.rangeAt pb (pof+p0 * 17) [a0,.int .i64 (KN:Int),.int .i64 MM,.int .i64 QQ,a4,a5,a6,a7,a8,a9,a10,a11,a12,a13,a14,a15,a16] from by
        have hb0':=HB3.out.trans ((HB7.out.trans (hb.mono HB7.out.size)).mono HB3.out.size)
        obtain⟨⟨-,-,-,-,-,x5,x6⟩,-⟩:=HC.out w' hb0'
        exact⟨x5,x6,HVOL.out w' hb0',HPOL.out w' hb0'⟩))
       go_upto_region 8 with fail
       refine region_tail (S:=(fun w'=>w'.cell? ⟨z,5,none⟩=some (.slice (some ⟨pb,pof,none⟩) NP cp)∧w'.cell? ⟨z,6,none⟩=some (.slice (some ⟨ob,oof,none⟩) NO co)∧w'.cell? ⟨ob,oof+v * 2+1,none⟩=some (.int .i64 (p0:Int))∧w'.rangeAt pb (pof+p0 * 17) [a0,.int .i64 (KN:Int),.int .i64 MM,.int .i64 QQ,a4,a5,a6,a7,a8,a9,a10,a11,a12,a13,a14,a15,a16])) [11] (by kernel_rfl) (HSK.out _ (Below.refl _ _).drew) (fun hHeld=>?_)
       refine tk 0 50 ?_
       refine tk 1 51 ?_
       refine tk 2 52 ?_
       refine tk 3 53 ?_
       refine tk 4 54 ?_
       refine tk 5 55 ?_
       refine tk 6 56 ?_
       refine tk 7 57 ?_
       refine tk 8 58 ?_
       refine takeT (i:=9) (d:=59) (v:=(.agg #[a0,.int .i64 (KN:Int),.int .i64 MM,.int .i64 QQ,a4,a5,a6,a7,a8,a9,a10,a11,a12,a13,a14,a15,a16])) rfl rfl (by kernel_rfl) (by kernel_rfl) (by kernel_rfl) (by kernel_rfl) (fun _ _ _ h=>h) (yieldsIf_load_mid (by rfl) 85 (.tmp 58) rfl pb (pof+p0 * 17) (by rfl) [a0,.int .i64 (KN:Int),.int .i64 MM,.int .i64 QQ,a4,a5,a6,a7,a8,a9,a10,a11,a12,a13,a14,a15,a16] _ (fun w hw=>hw.2.2.2) Tryz.underlying85 rfl size_pol) (by assumption) ?_
       (try simp only[Act.put,z1,z2,z3])
       refine readyT (rs:=[10]) (by kernel_rfl) (by simp) ?_
       refine AllReadyT.cons rfl (fun K hK=>?_) ?_
       ·go_simp
        refine hK.out _ _ ?_ (fun hHeld=>?_)
        ·exact HSK.out _ ((Below.refl _ _).drew.alloc (Nat.le_refl _) _)
        clear hK K
        (try simp only[Act.put,z1,z2,z3])
        refine readyT (rs:=[11]) (by kernel_rfl) (by simp) ?_
        refine AllReadyT.consT rfl rfl (fun K hK=>?_) ?_
        ·rw[if_pos (by rfl)]
         refine wp_store_mid 85 (.tmp 11) (.tmp 59) rfl w7.heap.size 0 #[a0,.int .i64 (KN:Int),.int .i64 MM,.int .i64 QQ,a4,a5,a6,a7,a8,a9,a10,a11,a12,a13,a14,a15,a16] (by rfl) (by rfl) HTH.out size_pol HON.out ?_
         refine hK.out _ _ ?_
         clear hK K
         (try simp only[Act.put,z1,z2,z3])
         refine doneT (by kernel_rfl) ?_ _
         clear hHeld
         obtain⟨W8,hW8⟩:=zx (World.setCells ((w7.alloc (.cells #[.string ⟨#[]⟩,.int .i64 0,.int .i64 0,.int .i64 0,.int .i64 0,.int .i64 0,.int .i64 0,.int .i64 0,.int .i64 0,.slice none 0 0,.slice none 0 0,.bool false,.slice none 0 0,.slice none 0 0,.bool false,.slice none 0 0,.slice none 0 0] 85)).drew) w7.heap.size 0 [a0,.int .i64 (KN:Int),.int .i64 MM,.int .i64 QQ,a4,a5,a6,a7,a8,a9,a10,a11,a12,a13,a14,a15,a16])
         obtain⟨gp,hgp⟩:=zx w7.heap.size
         have hb8:Below w7.heap.size w7 W8:=by rw[hW8];exact below_setCellsV (Nat.le_refl _) _ _ _ ((Below.refl _ _).alloc (Nat.le_refl _) _).drew
         have hgr:W8.rangeAt gp 0 [a0,.int .i64 (KN:Int),.int .i64 MM,.int .i64 QQ,a4,a5,a6,a7,a8,a9,a10,a11,a12,a13,a14,a15,a16]:=by rw[hW8,hgp];exact World.rangeAt_setCells_same _ _ _ _ HTH.out
         have HGP:=zh (fun(w':World) (hb:Below W8.heap.size W8 w')=>(show w'.cell? ⟨gp,1,none⟩=some (.int .i64 (KN:Int))∧w'.cell? ⟨gp,2,none⟩=some (.int .i64 MM) from
          have hl:=World.block_lt_of_cell? W8 _ (hgr 0 _ rfl)
          ⟨range_same hgr (hb.block gp hl) 1 _ rfl,range_same hgr (hb.block gp hl) 2 _ rfl⟩))
         have HB8:=zh (HB3.out.trans ((HB7.out.trans (hb8.mono HB7.out.size)).mono HB3.out.size))
         have HW8:=zh hW8
         have HGG:=zh hgp
         obtain⟨W9,hW9⟩:=zx (W8.alloc (.map #[] 0))
         obtain⟨gm,hgm⟩:=zx W8.heap.size
         have HM0:=zh (show MapG W9 3 kint gm 0 (fun _=>none) from by rw[hW9,hgm];exact MapG.made W8 _)
         have HB9:=zh (show Below W8.heap.size W8 W9 from by rw[hW9];exact(Below.refl _ _).alloc (Nat.le_refl _) _)
         have HW9:=zh hW9
         have HGM:=zh hgm
         clear hW8 hgp hb8 hgr HTH HSK hW9 hgm
         have hmm:=@run_makeMap Tryz.prog
         go_upto_region 10 with fail
         clear hmm
         rw[←HW8.out,←HGG.out,←HW9.out,←HGM.out]
         obtain⟨p1,p2⟩:=HGP.out W9 HB9.out
         go_wp2_with fail
         clear p1 p2
         go_loopg [13,66] KM (fun z v13 v66 wr=>∃(i base n:Nat) (hv:Nat→Nat) (f:Int→Option Value),v66=.int .i64 (i:Int)∧v13=.int .i64 (base:Int)∧i≤KM∧z=KM - i∧n≤i * 1000000∧Hid (GotP r (v:Int) (s:Int) i 0 hv base)∧Hid (MapG wr 3 kint gm n f)∧Hid (∀d:Nat,(f (d:Int)).getD (.int .i64 0)=.int .i64 (hv d:Int))∧Hid (Below W8.heap.size W8 wr))
         case atStart=>exact⟨0,0,0,fun _=>0,fun _=>none,rfl,rfl,Nat.zero_le _,rfl,Nat.zero_le _,zh (GotP.start r (v:Int) (s:Int)),HM0,zh (fun d=>rfl),HB9⟩
         case round =>
          clear HM0 HB9
          obtain⟨i,base,n,hv,f,rfl,rfl,hi,rfl,hn,HG,HM,HF,HB⟩:=hrel
          by_cases hlt:i<KM
          ·have HR0:=zh (HB8.out.trans (HB.out.mono HB8.out.size))
           obtain⟨-,y0,y1,y2,-⟩:=HC.out wr HR0.out
           have hgi:=HGD.out i wr (HRE.out wr HR0.out)
           obtain⟨G,hG⟩:=zx (goodI r (v:Int) (i:Int) (s:Int))
           rw[←hG] at hgi
           have HGI:=zh hgi
           have HGN:=zh hG
           obtain⟨LG,hLG⟩:=zx G.length
           have hgn:LG≤1000000:=by rw[hLG,hG];exact HGL.out i
           have HLG:=zh hLG
           have HLT:=zh hlt
           clear hG hgi hLG
           go_wp2_with (go_at_call 61;refine HGI.out.mono ?_;rintro e w2 ⟨u,rfl,hou,hb2⟩;obtain⟨Au,cu,hu⟩:=hou.form;rw[←HLG.out] at hu;subst hu;have HOU:=zh (hou.intS (fun x hx=>(by rw[HGN.out] at hx;obtain⟨d,rfl,hd⟩:=good_nat r _ _ _ x hx;have:=HNPL.out;unfold I64;omega)));have HB2:=zh hb2;clear hou hb2)
           clear y0 y1 y2
           have HM2:=zh (HM.out.below HB2.out HM.out.lt)
           have HBW2:=zh (HB.out.trans (HB2.out.mono HB.out.size))
           have HGL2:=zh (show gm<wr.heap.size from HM.out.lt)
           go_loopg [13,75] LG (fun z v13 v75 wi=>∃(j base' n':Nat) (hv':Nat→Nat) (f':Int→Option Value),v75=.int .i64 (j:Int)∧v13=.int .i64 (base':Int)∧j≤LG∧z=LG - j∧n'≤n+j∧Hid (GotP r (v:Int) (s:Int) i j hv' base')∧Hid (MapG wi 3 kint gm n' f')∧Hid (∀d:Nat,(f' (d:Int)).getD (.int .i64 0)=.int .i64 (hv' d:Int))∧Hid (HotBy [some gm] w2 wi)∧Hid (Below W8.heap.size W8 wi))
           case atStart=>exact⟨0,base,n,hv,f,rfl,rfl,Nat.zero_le _,rfl,Nat.le_refl _,HG,HM2,HF,zh (HotBy.refl _ _),HBW2⟩
           case round =>
            clear HM2 HBW2
            obtain⟨j,base',n',hv',f',rfl,rfl,hj,rfl,hn',HG',HM',HF',HH,HB'⟩:=hrel
            by_cases hlj:j<LG
            ·have hjg:j<G.length:=by rw[←HLG.out];exact hlj
             obtain⟨d,hd,hdl⟩:=good_nat r (v:Int) (i:Int) (s:Int) G[j] (by rw[←HGN.out];exact List.getElem_mem hjg)
             obtain⟨b,off,hA,hR,hc,-⟩:=HOU.out.at7 (k:=j) hjg
             subst hA
             rw[hd] at hc
             have hbm:some b∉[some gm]:=by simp;have:=HGL2.out;have:=hR.1;omega
             have e0:wr.cell? ⟨b,off+j,none⟩=some (.int .i64 (d:Int)):=(World.cell?_of_block (w:=w2) (HH.out.block b hR.2 hbm)).trans hc
             have HDE:=zh (show ∀h:j<(goodI r (v:Int) (i:Int) (s:Int)).length,(goodI r (v:Int) (i:Int) (s:Int))[j]=(d:Int) from by rw[←HGN.out];exact fun _=>hd)
             have HJG:=zh (show j<(goodI r (v:Int) (i:Int) (s:Int)).length from by rw[←HGN.out];exact hjg)
             have hdn:d<NPL:=by rw[HNPL.out];exact hdl
             have HR1:=zh (HB8.out.trans (HB'.out.mono HB8.out.size))
             obtain⟨-,y0,y1,y2,-⟩:=HC.out wr HR1.out
             have hio:=HONL.out d (by omega) wr (HRE.out wr HR1.out)
             obtain⟨ob,hob⟩:=zx (onB r d)
             rw[←hob] at hio
             have HIO:=zh hio
             have HOB:=zh hob
             have HID:=zh (show I64 (d:Int) from⟨by omega,by omega⟩)
             have HSM:=zh (HG'.out.small (by omega))
             have hbs:=HSM.out.1
             have hhs:=HSM.out.2 d
             obtain⟨x,hx⟩:=zx (hv' d)
             rw[←hx] at hhs
             have hfd:=HF'.out d
             rw[←hx] at hfd
             have HFD:=zh hfd
             have HX:=zh hx
             have hi3:(i:Int)<4:=by omega
             clear hjg hd hdl hR hc hbm hio hob hfd hx
             have h2i:=two_pow_wrap i (by omega)
             have h2l:=two_pow_lt i (by omega)
             obtain⟨bn,hbn⟩:=zx (base' ||| 2 ^ i)
             obtain⟨xn,hxn⟩:=zx (x ||| 2 ^ i)
             have hob3:bits .or .i64 (x:Int) (IntKind.i64.wrap (2 ^ i))=(xn:Int):=by rw[hxn,two_pow_wrap2 i (by omega)];exact i64_or_nat _ _ (by omega) (by omega)
             have hob1:bits .or .i64 (base':Int) (wrap64 (2 ^ i))=(bn:Int):=by rw[hbn,h2i];exact i64_or_nat _ _ (by omega) (by omega)
             have hob2:bits .or .i64 (x:Int) (wrap64 (2 ^ i))=(xn:Int):=by rw[hxn,h2i];exact i64_or_nat _ _ (by omega) (by omega)
             have HBN:=zh (And.intro hbn hxn)
             clear hbn hxn h2i h2l
             cases ob with
             | true =>
              go_wp2_with (go_at_call 62;refine HIO.out.mono ?_;rintro e w3 ⟨rfl,hb3⟩;have HB3':=zh hb3;clear hb3)
              go_roundg (LG - (j+1))
              case measure=>omega
              case rel=>exact⟨j+1,bn,n',hv',f',by go_num,rfl,by omega,rfl,by omega,zh (by rw[HBN.out.1];exact HG'.out.on HJG.out (HDE.out _) (by have:=HOB.out;simpa using this)),zh (HM'.out.below HB3'.out HM'.out.lt),HF',zh (HH.out.trans (HotBy.below HB3'.out)),zh (HB'.out.trans (HB3'.out.mono HB'.out.size))⟩
             | false =>
              go_upto_region 19 with (go_at_call 62;refine HIO.out.mono ?_;rintro e w3 ⟨rfl,hb3⟩;have HB3':=zh hb3;clear hb3)
              have HM3:=zh (HM'.out.below HB3'.out HM'.out.lt)
              refine region_tail (S:=(fun w'=>MapG w' 3 kint gm n' f')) [6] (by kernel_rfl) (HM3.out.same rfl) (fun hHeld=>?_)
              refine tk 0 86 ?_
              refine tk 1 87 ?_
              refine takeT (i:=2) (d:=88) (v:=?_) rfl rfl (by kernel_rfl) (by kernel_rfl) (by kernel_rfl) (by kernel_rfl) (fun _ _ _ h=>h) (Or.inl ⟨by rfl,?_⟩) (by assumption) ?_
              rotate_left
              ·(intro w hSw;(try dsimp only at hSw);have hlk:=MapG.look (e:=3) (int_key Tryz.underlying3) hSw Tryz.underlying132 (zero_int8 w) HID.out;rw[HFD.out] at hlk;unfold kint at hlk;go_simp;first | done | with_reducible rfl)
              (try simp only[Act.put,z1,z2,z3])
              refine tk 3 89 ?_
              refine tk 4 90 ?_
              refine tk 5 91 ?_
              refine readyT (rs:=[6]) (by kernel_rfl) (by simp) ?_
              refine AllReadyT.consT rfl rfl (fun K hK=>?_) ?_
              ·rw[if_pos (by rfl)]
               refine kg_storeW (.tmp 86) (.tmp 87) (.tmp 91) 132 3 3 rfl (int_key Tryz.underlying3) Tryz.underlying132 gm n' f' (d:Int) (.int .i64 (xn:Int)) (by rfl) (by rfl) (by first | rfl | exact congrArg (Value.int .i64) hob2 | exact congrArg (Value.int .i64) hob3) (HM3.out.same (w':=w3.drew) rfl) (by unfold maxLen;omega) HID.out ?_
               intro w5 hM5 hg5
               refine hK.out _ _ ?_
               clear hK K
               (try simp only[Act.put,z1,z2,z3])
               refine doneT (by kernel_rfl) ?_ _
               have HM5:=zh hM5
               have HG5:=zh hg5
               clear hM5 hg5 hHeld
               go_wp2_with fail
               go_roundg (LG - (j+1))
               case measure=>omega
               case rel =>
                refine⟨j+1,base',n'+1,updN hv' d (hv' d ||| 2 ^ i),updG f' (d:Int) (.int .i64 (xn:Int)),by go_num,rfl,by omega,rfl,by omega,zh (HG'.out.off HJG.out (HDE.out _) (by have:=HOB.out;simpa using this)),HM5,zh (fun c=>?_),zh ((HH.out.trans (HotBy.below HB3'.out)).trans (HotBy.drew (HotBy.refl _ _) |>.trans (HotBy.grown HG5.out (.inl (by simp))))),zh ((HB'.out.trans (HB3'.out.mono HB'.out.size)).drew.grown HG5.out (HB'.out.trans (HB3'.out.mono HB'.out.size)).size (fun b e=>by injection e with e;have:=HGM.out;omega))⟩
                by_cases hcd:c=d
                ·subst hcd
                 rw[updG_same]
                 unfold updN
                 rw[if_pos rfl,Option.getD_some,←HX.out,HBN.out.2]
                ·rw[updG_other (fun e=>hcd (by omega))]
                 unfold updN
                 rw[if_neg hcd]
                 exact HF'.out c
              exact AllReadyT.nil
            ·have HGX:=zh (HG'.out.next (by rw[←HGN.out,←HLG.out];omega))
             go_wp2_with fail
             go_roundg (KM - (i+1))
             case measure=>have:=HLT.out;omega
             case rel=>exact⟨i+1,base',n',hv',f',by go_num,rfl,by have:=HLT.out;omega,rfl,by omega,HGX,HM',HF',HB'⟩
          ·obtain rfl:KM=i:=by omega
           have hkm2:=HKM.out
           obtain⟨hvo,hbo⟩:=HG.out.end_
           have hsml:=HG.out.small (by omega)
           obtain⟨hnn,hcc⟩:=HK1.out
           have hc1:=chs_one_eq (K:=KN) (by omega) hvo hbo
           have hc2:=chs_two_eq (K:=KN) (by omega) hvo hbo
           rw[←HNPL.out] at hc1 hc2
           have HC1:=zh (show chs hv NPL KN 1 0 base=(offD r (v:Int) (s:Int) KM).findSome? (oneP r (v:Int) (s:Int) KM KN) from hc1)
           have HC2:=zh (show chs hv NPL KN 2 0 base=pick2 (twoP r (v:Int) (s:Int) KM KN) (offD r (v:Int) (s:Int) KM) from hc2)
           have HLEFT:=zh (fun h=>resc_left (r:=r) (v:=(v:Int)) (s:=(s:Int)) (n:=KM) (K:=KN) hkm2.1 hnn hcc h)
           have HCH:=zh (fun(m:Nat) (hm:m≤2) (w1:World) (hM:MapG w1 3 kint gm n f)=>choose_any gm n f hv NPL KN (fun d _=>HF.out d) hsml.2 (by omega) (by omega) m hm 0 base w1 (Nat.zero_le _) hsml.1 hM)
           clear hkm2 hvo hbo hsml hnn hcc hc1 hc2
           go_wp2_with fail
           go_loopg [17] 2 (fun z v17 wr=>((v17=.int .i64 1∧z=2)∨(v17=.int .i64 2∧z=1∧KN=2∧Hid (chs hv NPL KN 1 0 base=none)))∧Hid (MapG wr 3 kint gm n f)∧Hid (Below W8.heap.size W8 wr))
           case atStart=>exact⟨.inl ⟨rfl,rfl⟩,HM,HB⟩
           case round =>
            clear HM HB
            obtain⟨hrel,HMM,HBB⟩:=hrel
            have HR0:=zh (HB8.out.trans (HBB.out.mono HB8.out.size))
            obtain⟨-,y0,-⟩:=HC.out wr HR0.out
            rw[HVP.out] at y0
            obtain⟨p1,-⟩:=HGP.out wr HBB.out
            rcases hrel with ⟨rfl,rfl⟩ | ⟨rfl,rfl,hk2,HNO1⟩
            ·obtain⟨o,ho⟩:=zx (chs hv NPL KN 1 0 base)
             have hcall:Calls Tryz.prog 63 #[.map (some gm),.int .i64 (NPL:Int),.int .i64 1,.int .i64 0,.int .i64 (base:Int),.int .i64 (KN:Int)] wr (ChP wr o):=by rw[ho];exact HCH.out 1 (by omega) wr HMM.out
             have HCALL:=zh hcall
             have HO:=zh ho
             clear hcall ho
             cases o with
             | some l =>
              go_wp2_with (go_at_call 63;refine HCALL.out.mono ?_;rintro e w5 ⟨u,rfl,hO,hb5⟩;have HO5:=zh hO;have HB5x:=zh hb5;clear hO hb5)
              go_ret2
              have hbw:=HB0.out.trans ((HR0.out.trans (HB5x.out.mono HR0.out.size)).mono HB0.out.size)
              have hsz:=(HB0.out.trans (HR0.out.mono HB0.out.size)).size
              rw[HRS.out]
              refine⟨u,rfl,?_,hbw⟩
              show OwnI w5 w.heap.size u ((rescL r (v:Int) (s:Int) KM KN).map (fun x:Nat=>(x:Int)))
              rw[resc_one (HC1.out.symm.trans HO.out.symm)]
              exact HO5.out.base hsz
             | none =>
              have HNO1:=zh HO.out.symm
              have HK2:=zh (HLEFT.out (HC1.out.symm.trans HO.out.symm)).1
              go_wp2_with (go_at_call 63;refine HCALL.out.mono ?_;rintro e w5 ⟨u,rfl,hO,hb5⟩;have HB5x:=zh hb5;clear hO hb5)
              go_roundg 1
              case measure=>omega
              case rel=>exact⟨.inr ⟨by go_num,rfl,HK2.out,HNO1⟩,zh (HMM.out.below HB5x.out HMM.out.lt),zh (HBB.out.trans (HB5x.out.mono HBB.out.size))⟩
            ·obtain⟨-,l,hl2⟩:=HLEFT.out (HC1.out.symm.trans HNO1.out)
             have hcall:Calls Tryz.prog 63 #[.map (some gm),.int .i64 (NPL:Int),.int .i64 2,.int .i64 0,.int .i64 (base:Int),.int .i64 (KN:Int)] wr (ChP wr (some l)):=by rw[←hl2,←HC2.out];exact HCH.out 2 (by omega) wr HMM.out
             have HCALL:=zh hcall
             have HL2:=zh hl2
             have hkk:(2:Int)≤(KN:Int):=by omega
             clear hcall hl2 hk2
             go_wp2_with (go_at_call 63;refine HCALL.out.mono ?_;rintro e w5 ⟨u,rfl,hO,hb5⟩;have HO5:=zh hO;have HB5x:=zh hb5;clear hO hb5)
             go_ret2
             have hbw:=HB0.out.trans ((HR0.out.trans (HB5x.out.mono HR0.out.size)).mono HB0.out.size)
             have hsz:=(HB0.out.trans (HR0.out.mono HB0.out.size)).size
             rw[HRS.out]
             refine⟨u,rfl,?_,hbw⟩
             show OwnI w5 w.heap.size u ((rescL r (v:Int) (s:Int) KM KN).map (fun x:Nat=>(x:Int)))
             rw[resc_two (HC1.out.symm.trans HNO1.out) HL2.out]
             exact HO5.out.base hsz
        exact AllReadyT.nil
       exact AllReadyT.nil
     exact AllReadyT.nil
    exact AllReadyT.nil
  exact AllReadyT.nil
 exact AllReadyT.nil
def hasP(r:Re) (d:Nat) (v f s:Int):Bool:=(pieces r).any fun x=>isB x.p v f s&&decide (x.drive=d)
theorem mem_take_succ{α:Type} {l:List α} {j:Nat} {x:α} (h:j<l.length) (hx:x∈l.take (j+1)):x∈l.take j∨x=l[j]:=by
 rw[List.take_succ_eq_append_getElem h,List.mem_append,List.mem_singleton] at hx
 exact hx
theorem refPiece_any(vp vo va:Value) (r:Re) (d:Nat) (v f s:Int) (w:World) (h:ReS w (Bl w.heap.size) vp vo va r) (hp:r.plat.length≤1000) (hl:∀l∈r.plat,l.length≤1000) :
  Calls Tryz.prog 64 #[.agg #[vp,vo,va],.int .i64 (d:Int),.int .i64 v,.int .i64 f,.int .i64 s] w fun e w'=>∃u,e=.returned (.tuple #[u,.bool (hasP r d v f s)])∧Below w.heap.size w w':=by
 have HR:=zh h
 have HPC:=zh (fun w1 h1=>pieces_any vp vo va r w1 h1 hp hl)
 have HPD:=zh (pieces_drive r (by omega))
 have hlenp:(pieces r).length≤1000000:=by
  have h1:=piecesTo_length r 1000 hl r.plat.length
  have h2:r.plat.length * 1000≤1000 * 1000:=Nat.mul_le_mul_right 1000 hp
  unfold pieces
  omega
 obtain⟨l,hpl⟩:=zx (pieces r)
 rw[←hpl] at hlenp HPD HPC
 have HPL:=zh hpl
 obtain⟨W0,hW0⟩:=zx (w.alloc (.cells #[vp,vo,va] 40))
 obtain⟨q,hq⟩:=zx w.heap.size
 have c0:W0.cell? ⟨q,0,none⟩=some vp:=by rw[hW0,hq];simp
 have c1:W0.cell? ⟨q,1,none⟩=some vo:=by rw[hW0,hq];simp
 have c2:W0.cell? ⟨q,2,none⟩=some va:=by rw[hW0,hq];simp
 have hb0:Below w.heap.size w W0:=by rw[hW0];exact(Below.refl _ _).alloc (Nat.le_refl _) _
 have HQ:=zh hq
 have HW0:=zh hW0
 have HB0:=zh hb0
 have HR0:=zh (h.below hb0)
 clear h hp hl hW0 hq hb0 hpl
 go_enter Tryz.func64,Tryz.ntmps64
 go_wp2_with fail
 rw[←HW0.out,←HQ.out]
 refine(HPC.out _ HR0.out).mono ?_
 rintro e w1 ⟨ul,rfl,hOF,hbf⟩
 have hb1:=HB0.out.trans (hbf.mono HB0.out.size)
 have hLL:=hOF.slBl HPD.out
 obtain⟨Al,cl,rfl,-,hm⟩:=SlS.form hLL
 have HL:=zh hLL
 have HB1:=zh hb1
 obtain⟨W1,hW1⟩:=zx w1
 rw[←hW1] at HL HB1 hbf
 have HBF:=zh hbf
 subst hW1
 clear c0 c1 c2 hOF hb1 hLL hbf
 unfold maxLen at hm
 go_wp2_with fail
 go_loopg [13] l.length (fun z v13 wr=>∃j:Nat,j≤l.length∧z=l.length - j∧v13=.int .i64 (j:Int)∧Hid (∀x∈l.take j,(isB x.p v f s&&decide (x.drive=d))=false)∧Below W1.heap.size W1 wr)
 case atStart=>exact⟨0,by omega,rfl,rfl,zh (fun x hx=>by simp at hx),Below.refl _ _⟩
 case round =>
  obtain⟨j,hj,rfl,rfl,HNO,hbr⟩:=hrel
  by_cases hlt:j<l.length
  ·obtain⟨b,off,cs,rfl,hRb,-,hcs,hfk,hdr⟩:=HL.out.at_ hlt
   obtain⟨k0,k1,k2,k3,k4,k5,k6⟩:=seven hcs hfk
   obtain⟨x,hx⟩:=zx (l[j])
   rw[←hx] at k0 k1 k2 k3 k4 k5 k6 hdr
   have HIS:=zh (fun w=>is_any x.p v f s w)
   have hbl:b<wr.heap.size:=Nat.lt_of_lt_of_le hRb hbr.size
   have kk:∀i u,W1.cell? ⟨b,i,none⟩=some u→wr.cell? ⟨b,i,none⟩=some u:=fun i u e=>(hbr.cell (p:=⟨b,i,none⟩) hRb).trans e
   have HXM:=zh (show x∈l by rw[hx];exact List.getElem_mem hlt)
   have HXE:=zh hx
   obtain⟨dr,⟨pa,pb,pc,pg,pr,px⟩⟩:=x
   unfold PcV at HIS
   simp only at k0 k1 k2 k3 k4 k5 k6 HIS hdr
   obtain⟨y,hy⟩:∃y:ByteArray,y=⟨px.toArray⟩:=⟨_,rfl⟩
   rw[←hy] at k6 HIS
   have e0:=kk _ _ k0
   have e1:=kk _ _ k1
   have e2:=kk _ _ k2
   have e3:=kk _ _ k3
   have e4:=kk _ _ k4
   have e5:=kk _ _ k5
   have e6:=kk _ _ k6
   obtain⟨wo,rfl⟩:=zx (wr:World)
   have j0:(0:Int)≤(j:Int):=by omega
   have j1:(j:Int)<(l.length:Int):=by omega
   clear k0 k1 k2 k3 k4 k5 k6 hcs hfk hx hy kk cs hRb
   by_cases hd:dr=d
   ·cases hi:isB ⟨pa,pb,pc,pg,pr,px⟩ v f s with
    | false =>
     rw[hi] at HIS
     have HNX:=zh (show(isB (l[j]).p v f s&&decide ((l[j]).drive=d))=false by rw[←HXE.out];simp[hi])
     have q1:((dr:Int)==(d:Int))=true:=by rw[hd];simp
     clear hi hd
     go_wp2_with (go_at_call 112;refine(HIS.out _).mono ?_;rintro e w2 ⟨rfl,hb2⟩)
     go_roundg (l.length - (j+1))
     case measure=>omega
     case rel=>exact⟨j+1,by omega,rfl,by go_num,zh (fun x hx=>by rcases mem_take_succ hlt hx with h | h;exact HNO.out x h;exact h▸HNX.out),hbr.trans (hb2.mono hbr.size)⟩
    | true =>
     rw[hi] at HIS
     have HNX:=zh (show hasP r d v f s=true by unfold hasP;rw[←HPL.out,List.any_eq_true];exact⟨_,HXM.out,by simp[hi,hd]⟩)
     have q1:((dr:Int)==(d:Int))=true:=by rw[hd];simp
     clear hi hd
     go_wp2_with (go_at_call 112;refine(HIS.out _).mono ?_;rintro e w2 ⟨rfl,hb2⟩;have f6:=(hb2.cell (p:=⟨b,off+j * 7+6,none⟩) hbl).trans e6)
     go_ret2
     exact⟨.string y,by rw[HNX.out];rfl,HB1.out.trans ((hbr.trans (hb2.mono hbr.size)).mono HB1.out.size)⟩
   ·have HNX:=zh (show(isB (l[j]).p v f s&&decide ((l[j]).drive=d))=false by rw[←HXE.out];simp[hd])
    have q1:((dr:Int)==(d:Int))=false:=by rw[beq_eq_false_iff_ne];omega
    clear hd
    go_wp2_with fail
    go_roundg (l.length - (j+1))
    case measure=>omega
    case rel=>exact⟨j+1,by omega,rfl,by go_num,zh (fun x hx=>by rcases mem_take_succ hlt hx with h | h;exact HNO.out x h;exact h▸HNX.out),hbr⟩
  ·have HE:=zh (show hasP r d v f s=false by
    unfold hasP
    rw[←HPL.out,List.any_eq_false]
    intro x hx
    have:=HNO.out x (by rw[List.take_of_length_le (by omega)];exact hx)
    rw[this];simp)
   have hbz:=HB1.out.trans (hbr.mono HB1.out.size)
   go_wp2_with fail
   go_ret2
   exact⟨.string ⟨#[]⟩,by rw[HE.out];rfl,hbz⟩
theorem OwnI.at_{w:World} {base:Nat} {v:Value} {xs:List Int} (h:OwnI w base v xs) (h0:xs≠[]):∃g c,v=.slice (some ⟨g,0,none⟩) xs.length c∧base≤g∧g<w.heap.size∧∀(j:Nat) (x:Int),xs[j]?=some x→w.cell? ⟨g,j,none⟩=some (.int .i64 x):=by
 have h1:w.ownsRow base 3 1 v xs.length (xs.map (Value.int .i64)):=h
 have hc:=fun g=>h1.cells (g:=g)
 have hlt:=h1.lt
 rcases h1.2 with ⟨rfl,h0'⟩ | ⟨g,cap,cur,rfl,_,_,_,_,_⟩
 ·exact absurd (List.eq_nil_of_length_eq_zero h0') h0
 ·refine⟨g,cap,rfl,(hlt g rfl).1,(hlt g rfl).2,fun j x hx=>?_⟩
  have:=hc g rfl j (.int .i64 x) (by simp[hx])
  rw[←this]
  unfold Addr.add;split <;> simp_all
theorem OwnI.set{w:World} {base g c:Nat} {xs:List Int} (h:OwnI w base (.slice (some ⟨g,0,none⟩) xs.length c) xs) (j:Nat) (x:Int) :
  OwnI (w.setCell ⟨g,j,none⟩ (.int .i64 x)) base (.slice (some ⟨g,0,none⟩) xs.length c) (xs.set j x)∧w.grownBy (w.setCell ⟨g,j,none⟩ (.int .i64 x)) (some g):=by
 have h1:w.ownsRow base 3 1 (.slice (some ⟨g,0,none⟩) xs.length c) xs.length (xs.map (Value.int .i64)):=h
 obtain⟨r1,r2⟩:=h1.stored j (.int .i64 x)
 refine⟨?_,r2⟩
 show World.ownsRow _ base 3 1 _ (xs.set j x).length ((xs.set j x).map (Value.int .i64))
 rw[List.length_set,List.map_set]
 exact r1
def NxP(w:World) (o:Option (List Nat)) (e:Ending) (w':World):Prop :=
 ∃u,e=.returned (.tuple #[u,.bool o.isSome])∧(∀l,o=some l→OwnI w' w.heap.size u (l.map (fun x:Nat=>(x:Int))))∧Below w.heap.size w w'
theorem next1_any(x n:Nat) (v:Value) (base:Nat) (w:World) (h:OwnI w base v [(x:Int)]) (hx:x≤1000) (hn:n≤1000) (hn0:1≤n) :
  Calls Tryz.prog 65 #[v,.int .i64 (n:Int)] w (NxP w (if x+1<n then some [x+1] else none)):=by
 obtain⟨A,c,rfl⟩:=h.form
 have HO:=zh h
 obtain⟨res,hres⟩:=zx ((if x+1<n then some [x+1] else none))
 rw[←hres]
 have HRES:=zh hres
 clear h hres
 go_enter Tryz.func65,Tryz.ntmps65
 go_wp2_with (at_builtin;refine app_ints (.const (.slice none 0 0)) (.tmp 9) rfl rfl w.heap.size base (.slice none 0 0) _ [] [(x:Int)] (by rfl) (OwnI.nil _ _) (by rfl) HO.out (by simp) (Nat.le_refl _) ?_;intro v1 w1 hO1 hg1 hat1;obtain⟨g,c1,rfl,hge,hgl,hcl⟩:=OwnI.at_ hO1 (by simp);have hc0:=hcl 0 (x:Int) rfl;have HO1:=zh hO1;have HG1:=zh hg1;clear hO1 hg1 hat1 hcl)
 go_loopg [7] 1 (fun z v7 wr=>((v7=.int .i64 0∧z=1)∨(v7=.int .i64 (-1)∧z=0∧Hid (¬x+1<n)))∧Hid (Below w1.heap.size w1 wr))
 case atStart=>exact⟨.inl ⟨rfl,rfl⟩,zh (Below.refl _ _)⟩
 case round =>
  obtain⟨hrel,HB⟩:=hrel
  rcases hrel with ⟨rfl,rfl⟩ | ⟨rfl,rfl,HX⟩
  ·have hcw:=(HB.out.cell (p:=⟨g,0,none⟩) hgl).trans hc0
   by_cases h1:x+1<n
   ·have h2:(x:Int)<(n:Int) - 1:=by omega
    have HX:=zh h1
    have hO:OwnI wr w.heap.size (.slice (some ⟨g,0,none⟩) [(x:Int)].length c1) [(x:Int)]:=HO1.out.below HB.out
    have hfz:wr.frozen? ⟨g,0,none⟩=false:=World.ownsRow.frozenAt (show wr.ownsRow w.heap.size 3 1 (.slice (some ⟨g,0,none⟩) 1 c1) 1 [.int .i64 (x:Int)] from hO) 0
    have h1:Below w.heap.size w w1:=(Below.refl _ _).grown HG1.out (Nat.le_refl _) (fun b h=>by simp[Value.ownBlock] at h)
    have HBW:=zh (h1.trans (HB.out.mono h1.size))
    have HOW:=zh hO
    clear h1 hO
    go_wp2_with fail
    go_loopg [8] 0 (fun z v8 w2=>v8=.int .i64 1∧Hid (OwnI w2 w.heap.size (.slice (some ⟨g,0,none⟩) 1 c1) [(x:Int)+1])∧Hid (Below w.heap.size w w2))
    case atStart =>
     obtain⟨r1,r2⟩:=HOW.out.set 0 ((x:Int)+1)
     exact⟨rfl,zh r1,zh (HBW.out.grown r2 HBW.out.size (fun b h=>by injection h with h;omega))⟩
    case round =>
     obtain⟨rfl,HO5,HB5⟩:=hrel
     go_wp2_with fail
     go_ret2
     have hr0:=HRES.out
     rw[if_pos HX.out] at hr0
     refine⟨.slice (some ⟨g,0,none⟩) 1 c1,by rw[hr0];rfl,fun l hl=>?_,HB5.out⟩
     rw[hr0] at hl
     injection hl with hl
     subst hl
     exact HO5.out
   ·have h2:¬(x:Int)<(n:Int) - 1:=by omega
    have HX:=zh h1
    clear h1
    go_wp2_with fail
    go_roundg 0
    case measure=>omega
    case rel=>exact⟨.inr ⟨rfl,rfl,HX⟩,HB⟩
  ·go_wp2_with fail
   go_ret2
   have hr0:=HRES.out
   rw[if_neg HX.out] at hr0
   exact⟨.slice none 0 0,by rw[hr0];rfl,fun l hl=>(by rw[hr0] at hl;cases hl),by have h1:Below w.heap.size w w1:=(Below.refl _ _).grown HG1.out (Nat.le_refl _) (fun b h=>by simp[Value.ownBlock] at h);exact h1.trans (HB.out.mono h1.size)⟩
theorem next2_any(x y n:Nat) (v:Value) (base:Nat) (w:World) (h:OwnI w base v [(x:Int),(y:Int)]) (hx:x≤1000) (hy:y≤1000) (hn:n≤1000) (hn0:2≤n) :
  Calls Tryz.prog 65 #[v,.int .i64 (n:Int)] w (NxP w (nextL n [x,y])):=by
 obtain⟨A,c,rfl⟩:=h.form
 have HO:=zh h
 obtain⟨res,hres⟩:=zx (nextL n [x,y])
 rw[←hres]
 have HRES:=zh (show res=if y+1<n then some [x,y+1] else if x+2<n then some [x+1,x+2] else none from hres)
 clear h hres
 go_enter Tryz.func65,Tryz.ntmps65
 go_wp2_with (at_builtin;refine app_ints (.const (.slice none 0 0)) (.tmp 9) rfl rfl w.heap.size base (.slice none 0 0) _ [] [(x:Int),(y:Int)] (by rfl) (OwnI.nil _ _) (by rfl) HO.out (by simp) (Nat.le_refl _) ?_;intro v1 w1 hO1 hg1 hat1;obtain⟨g,c1,rfl,hge,hgl,hcl⟩:=OwnI.at_ hO1 (by simp);have hc0:=hcl 0 (x:Int) rfl;have hc1:=hcl 1 (y:Int) rfl;have HO1:=zh hO1;have HG1:=zh hg1;clear hO1 hg1 hat1 hcl)
 go_loopg [7] 2 (fun z v7 wr=>((v7=.int .i64 1∧z=2)∨(v7=.int .i64 0∧z=1∧Hid (¬y+1<n))∨(v7=.int .i64 (-1)∧z=0∧Hid (¬y+1<n∧¬x+2<n)))∧Hid (Below w1.heap.size w1 wr))
 case atStart=>exact⟨.inl ⟨rfl,rfl⟩,zh (Below.refl _ _)⟩
 case round =>
  obtain⟨hrel,HB⟩:=hrel
  have hcw0:=(HB.out.cell (p:=⟨g,0,none⟩) hgl).trans hc0
  have hcw1:=(HB.out.cell (p:=⟨g,1,none⟩) hgl).trans hc1
  have hO:OwnI wr w.heap.size (.slice (some ⟨g,0,none⟩) [(x:Int),(y:Int)].length c1) [(x:Int),(y:Int)]:=HO1.out.below HB.out
  have hfz:∀j,wr.frozen? ⟨g,j,none⟩=false:=fun j=>World.ownsRow.frozenAt (show wr.ownsRow w.heap.size 3 1 (.slice (some ⟨g,0,none⟩) 2 c1) 2 [.int .i64 (x:Int),.int .i64 (y:Int)] from hO) j
  have h1:Below w.heap.size w w1:=(Below.refl _ _).grown HG1.out (Nat.le_refl _) (fun b h=>by simp[Value.ownBlock] at h)
  have HBW:=zh (h1.trans (HB.out.mono h1.size))
  have HOW:=zh hO
  clear h1 hO
  rcases hrel with ⟨rfl,rfl⟩ | ⟨rfl,rfl,HY⟩ | ⟨rfl,rfl,HY⟩
  ·by_cases h1:y+1<n
   ·have h2:(y:Int)<(n:Int) - 2+1:=by omega
    have HX:=zh h1
    have hf1:=hfz 1
    clear h1 hfz
    go_wp2_with fail
    go_loopg [8] 0 (fun z v8 w2=>v8=.int .i64 2∧Hid (OwnI w2 w.heap.size (.slice (some ⟨g,0,none⟩) 2 c1) [(x:Int),(y:Int)+1])∧Hid (Below w.heap.size w w2))
    case atStart =>
     obtain⟨r1,r2⟩:=HOW.out.set 1 ((y:Int)+1)
     exact⟨rfl,zh r1,zh (HBW.out.grown r2 HBW.out.size (fun b h=>by injection h with h;omega))⟩
    case round =>
     obtain⟨rfl,HO5,HB5⟩:=hrel
     go_wp2_with fail
     go_ret2
     have hr0:=HRES.out
     rw[if_pos HX.out] at hr0
     refine⟨.slice (some ⟨g,0,none⟩) 2 c1,by rw[hr0];rfl,fun l hl=>?_,HB5.out⟩
     rw[hr0] at hl
     injection hl with hl
     subst hl
     exact HO5.out
   ·have h2:¬(y:Int)<(n:Int) - 2+1:=by omega
    have HX:=zh h1
    clear h1 hfz
    go_wp2_with fail
    go_roundg 1
    case measure=>omega
    case rel=>exact⟨.inr (.inl ⟨rfl,rfl,HX⟩),HB⟩
  ·by_cases h1:x+2<n
   ·have h2:(x:Int)<(n:Int) - 2:=by omega
    have HX:=zh h1
    have hf0:=hfz 0
    clear h1 hfz
    go_wp2_with fail
    go_loopg [8] 1 (fun z v8 w2=>((v8=.int .i64 1∧z=1∧Hid (OwnI w2 w.heap.size (.slice (some ⟨g,0,none⟩) 2 c1) [(x:Int)+1,(y:Int)]))∨(v8=.int .i64 2∧z=0∧Hid (OwnI w2 w.heap.size (.slice (some ⟨g,0,none⟩) 2 c1) [(x:Int)+1,(x:Int)+1+1])))∧Hid (Below w.heap.size w w2))
    case atStart =>
     obtain⟨r1,r2⟩:=HOW.out.set 0 ((x:Int)+1)
     exact⟨.inl ⟨rfl,rfl,zh r1⟩,zh (HBW.out.grown r2 HBW.out.size (fun b h=>by injection h with h;omega))⟩
    case round =>
     obtain⟨hrel,HB5⟩:=hrel
     rcases hrel with ⟨rfl,rfl,HO5⟩ | ⟨rfl,rfl,HO5⟩
     ·obtain⟨g',c',hv,-,-,hcl⟩:=OwnI.at_ HO5.out (by simp)
      injection hv with e1 e2 e3
      injection e1 with e1
      injection e1 with e1
      subst e1
      have k0:=hcl 0 ((x:Int)+1) rfl
      have k1:=hcl 1 (y:Int) rfl
      have kf:wr.frozen? ⟨g,1,none⟩=false:=World.ownsRow.frozenAt (show wr.ownsRow w.heap.size 3 1 (.slice (some ⟨g,0,none⟩) 2 c1) 2 [.int .i64 ((x:Int)+1),.int .i64 (y:Int)] from HO5.out) 1
      clear hcl e2 e3
      go_wp2_with fail
      go_roundg 0
      case measure=>omega
      case rel =>
       obtain⟨r1,r2⟩:=OwnI.set (xs:=[(x:Int)+1,(y:Int)]) HO5.out 1 ((x:Int)+1+1)
       exact⟨.inr ⟨rfl,rfl,zh r1⟩,zh (HB5.out.grown r2 HB5.out.size (fun b h=>by injection h with h;omega))⟩
     ·go_wp2_with fail
      go_ret2
      have hr0:=HRES.out
      rw[if_neg HY.out,if_pos HX.out] at hr0
      refine⟨.slice (some ⟨g,0,none⟩) 2 c1,by rw[hr0];rfl,fun l hl=>?_,HB5.out⟩
      rw[hr0] at hl
      injection hl with hl
      subst hl
      exact HO5.out
   ·have h2:¬(x:Int)<(n:Int) - 2:=by omega
    have HX:=zh h1
    clear h1 hfz
    go_wp2_with fail
    go_roundg 0
    case measure=>omega
    case rel=>exact⟨.inr (.inr ⟨rfl,rfl,zh ⟨HY.out,HX.out⟩⟩),HB⟩
  ·go_wp2_with fail
   go_ret2
   have hr0:=HRES.out
   rw[if_neg HY.out.1,if_neg HY.out.2] at hr0
   exact⟨.slice none 0 0,by rw[hr0];rfl,fun l hl=>(by rw[hr0] at hl;cases hl),HBW.out⟩
theorem in_any(va:Value) (ks:List (Nat×Nat)) (x y:Nat) (R:Nat→Prop) (w:World) (ha:SlS 2 KyK w R va ks) (hR:∀b,R b→b<w.heap.size) :
  Calls Tryz.prog 39 #[va,.agg #[.int .i64 (x:Int),.int .i64 (y:Int)]] w fun e w'=>e=.returned (.bool (decide ((x,y)∈ks)))∧Below w.heap.size w w':=by
 obtain⟨A,c,rfl,h1,h2⟩:=ha.form
 unfold maxLen at h2
 obtain⟨W0,hW0⟩:=zx (w.alloc (.cells #[.int .i64 (x:Int),.int .i64 (y:Int)] 67))
 obtain⟨q,hq⟩:=zx w.heap.size
 have hb0:Below w.heap.size w W0:=by rw[hW0];exact(Below.refl _ _).alloc (Nat.le_refl _) _
 have p0:W0.cell? ⟨q,0,none⟩=some (.int .i64 (x:Int)):=by rw[hW0,hq];simp
 have p1:W0.cell? ⟨q,1,none⟩=some (.int .i64 (y:Int)):=by rw[hW0,hq];simp
 have hq0:q<W0.heap.size:=by rw[hW0,hq];simp
 have HA:=zh ha
 have HB0:=zh hb0
 have HW0:=zh hW0
 have HQ:=zh hq
 have HQ0:=zh hq0
 have HR:=zh hR
 obtain⟨L,hL⟩:=zx ks.length
 rw[←hL] at HA h1 h2 ⊢
 have HL:=zh hL
 obtain⟨res,hres⟩:=zx (decide ((x,y)∈ks))
 rw[←hres]
 have HRES:=zh hres
 clear ha hL hW0 hq hb0 hq0 hres hR
 go_enter Tryz.func39,Tryz.ntmps39
 go_wp2_with fail
 rw[←HW0.out,←HQ.out]
 go_loopg [5] L (fun z v5 wr=>∃j:Nat,j≤L∧z=L - j∧v5=.int .i64 (j:Int)∧Hid (∀k∈ks.take j,k≠(x,y))∧Hid (Below W0.heap.size W0 wr))
 case atStart=>exact⟨0,by omega,rfl,rfl,zh (fun k hk=>by simp at hk),zh (Below.refl _ _)⟩
 case round =>
  obtain⟨j,hj,rfl,rfl,HN,HB⟩:=hrel
  have e0:=(HB.out.cell (p:=⟨q,0,none⟩) HQ0.out).trans p0
  have e1:=(HB.out.cell (p:=⟨q,1,none⟩) HQ0.out).trans p1
  have HBB:=zh (HB0.out.trans (HB.out.mono HB0.out.size))
  by_cases hlt:j<L
  ·have hjl:j<ks.length:=by rw[←HL.out];exact hlt
   obtain⟨b,off,cs,rfl,hRb,-,hc,hcs⟩:=HA.out.at_ (k:=j) hjl
   obtain⟨c0,c1⟩:=two_ky hc hcs
   have hbw:=HR.out b hRb
   have d0:=(HBB.out.cell (p:=⟨b,off+j * 2,none⟩) hbw).trans c0
   have d1:=(HBB.out.cell (p:=⟨b,off+j * 2+1,none⟩) hbw).trans c1
   have HKM:=zh (List.getElem_mem hjl)
   have HST:=zh (fun(h:ks[j]≠(x,y))=>(fun k hk=>by
    rw[List.take_succ_eq_append_getElem hjl,List.mem_append,List.mem_singleton] at hk
    rcases hk with hk | rfl
    ·exact HN.out k hk
    ·exact h:∀k∈ks.take (j+1),k≠(x,y)))
   clear c0 c1 hc hcs
   generalize ks[j]=u at *
   obtain⟨u1,u2⟩:=u
   simp only at d0 d1
   by_cases hu:u1=x∧u2=y
   ·obtain⟨rfl,rfl⟩:=hu
    have HE:=zh (show res=true by rw[HRES.out];exact decide_eq_true HKM.out)
    go_upto_region 4 with fail
    go_quiet (fail)
    go_wp2_with fail
    go_ret
    exact⟨by rw[HE.out];rfl,(by first | exact HBB.out | exact Below.drewN' HBB.out _)⟩
   ·have HS:=zh (HST.out (fun e=>hu (by injection e with e1 e2;exact⟨e1,e2⟩)))
    by_cases e:u1=x
    ·subst e
     have hv:((u2:Int)==(y:Int))=false:=by rw[beq_eq_false_iff_ne];exact fun e2=>hu ⟨rfl,by omega⟩
     clear hu
     go_upto_region 4 with fail
     go_quiet (fail)
     go_wp2_with fail
     go_roundg (L - (j+1))
     case measure=>omega
     case rel=>exact⟨j+1,by omega,rfl,by go_num,HS,zh (by first | exact HB.out | exact Below.drewN' HB.out _)⟩
    ·have hv:((u1:Int)==(x:Int))=false:=by rw[beq_eq_false_iff_ne];omega
     clear hu e
     go_upto_region 4 with fail
     go_quiet (fail)
     go_wp2_with fail
     go_roundg (L - (j+1))
     case measure=>omega
     case rel=>exact⟨j+1,by omega,rfl,by go_num,HS,zh (by first | exact HB.out | exact Below.drewN' HB.out _)⟩
  ·have HE:=zh (show res=false by rw[HRES.out];exact decide_eq_false (fun h=>HN.out _ (by rw[List.take_of_length_le (by have:=HL.out;omega)];exact h) rfl))
   go_wp2_with fail
   go_ret
   exact⟨by rw[HE.out];rfl,HBB.out⟩
theorem rpolicy44_any(ext k m q:Int) (vl vm vd vv a0 a4 a5 a6 a7 a8 a9 a10 a11 a12 a13 a14 a15 a16:Value) (nm:ByteArray) (pb pof ob oof NP NO cp co v p:Nat) (w:World) (hv:v<NO) (hp:p<NP) (hno:NO≤1000) (hnp:NP≤1000)
  (hvol:w.rangeAt ob (oof+v * 2) [.string nm,.int .i64 (p:Int)]) (hpol:w.rangeAt pb (pof+p * 17) [a0,.int .i64 k,.int .i64 m,.int .i64 q,a4,a5,a6,a7,a8,a9,a10,a11,a12,a13,a14,a15,a16]) (hone:(#[a0,.int .i64 k,.int .i64 m,.int .i64 q,a4,a5,a6,a7,a8,a9,a10,a11,a12,a13,a14,a15,a16]:Array Value).all (·.oneCell')=true) :
  Calls Tryz.prog 40 #[.agg #[.int .i64 ext,vl,vm,vd,vv,.slice (some ⟨pb,pof,none⟩) NP cp,.slice (some ⟨ob,oof,none⟩) NO co],.int .i64 (v:Int)] w fun e w'=>e=.returned (.agg #[a0,.int .i64 k,.int .i64 m,.int .i64 q,a4,a5,a6,a7,a8,a9,a10,a11,a12,a13,a14,a15,a16])∧Below w.heap.size w w':=by
 obtain⟨W0,hW0⟩:=zx ((w.alloc (.cells #[.int .i64 ext,vl,vm,vd,vv,.slice (some ⟨pb,pof,none⟩) NP cp,.slice (some ⟨ob,oof,none⟩) NO co] 35)).alloc (.cells #[.string ⟨#[]⟩,.int .i64 0,.int .i64 0,.int .i64 0,.int .i64 0,.int .i64 0,.int .i64 0,.int .i64 0,.int .i64 0,.slice none 0 0,.slice none 0 0,.bool false,.slice none 0 0,.slice none 0 0,.bool false,.slice none 0 0,.slice none 0 0] 85))
 obtain⟨z,hz⟩:=zx w.heap.size
 obtain⟨g,hg⟩:=zx (w.heap.size+1)
 have hb0:Below w.heap.size w W0:=by rw[hW0];exact((Below.refl _ _).alloc (Nat.le_refl _) _).alloc (by simp) _
 have hgk:W0.heap[g]?=some (.cells #[.string ⟨#[]⟩,.int .i64 0,.int .i64 0,.int .i64 0,.int .i64 0,.int .i64 0,.int .i64 0,.int .i64 0,.int .i64 0,.slice none 0 0,.slice none 0 0,.bool false,.slice none 0 0,.slice none 0 0,.bool false,.slice none 0 0,.slice none 0 0] 85 (0,0)):=by
  rw[hW0];exact heap_alloc_at _ _ _ (by rw[hg];simp)
 have hzk:W0.heap[z]?=some (.cells #[.int .i64 ext,vl,vm,vd,vv,.slice (some ⟨pb,pof,none⟩) NP cp,.slice (some ⟨ob,oof,none⟩) NO co] 35 (0,0)):=by
  rw[hW0,hz];exact(Below.heap_alloc _ _ _ (by simp)).trans (heap_alloc_new w _)
 have z5:W0.drew.cell? ⟨z,5,none⟩=some (.slice (some ⟨pb,pof,none⟩) NP cp):=by rw[cell_of_row W0.drew z 5 _ _ _ hzk];rfl
 have z6:W0.drew.cell? ⟨z,6,none⟩=some (.slice (some ⟨ob,oof,none⟩) NO co):=by rw[cell_of_row W0.drew z 6 _ _ _ hzk];rfl
 have hob:ob<w.heap.size:=World.block_lt_of_cell? w _ (hvol 0 _ rfl)
 have hpb:pb<w.heap.size:=World.block_lt_of_cell? w _ (hpol 0 _ rfl)
 have hv0:W0.drew.cell? ⟨ob,oof+v * 2+1,none⟩=some (.int .i64 (p:Int)):=(World.cell?_of_block (w:=w) (w':=W0.drew) (hb0.block ob hob)).trans (hvol 1 _ rfl)
 have hp0:W0.drew.rangeAt pb (pof+p * 17) [a0,.int .i64 k,.int .i64 m,.int .i64 q,a4,a5,a6,a7,a8,a9,a10,a11,a12,a13,a14,a15,a16]:=range_same hpol (hb0.block pb hpb)
 have HTH:=zh (show W0.drew.there g 0 17 from there_of_block (w:=W0.drew) (cs:=#[.string ⟨#[]⟩,.int .i64 0,.int .i64 0,.int .i64 0,.int .i64 0,.int .i64 0,.int .i64 0,.int .i64 0,.int .i64 0,.slice none 0 0,.slice none 0 0,.bool false,.slice none 0 0,.slice none 0 0,.bool false,.slice none 0 0,.slice none 0 0]) hgk (Nat.le_refl 17))
 have HS0:=zh (And.intro z5 (And.intro z6 (And.intro hv0 hp0)))
 have HON:=zh hone
 have HW0:=zh hW0
 have HG:=zh hg
 have HGW:=zh (show w.heap.size≤g from by omega)
 have HQ:=zh hz
 have HB0:=zh hb0
 have i1:(v:Int)<(NO:Int):=by omega
 have i2:(p:Int)<(NP:Int):=by omega
 clear hvol hpol hone hW0 hz hg hb0 hgk hzk z5 z6 hob hpb hv0 hp0 hv hp
 go_enter Tryz.func40,Tryz.ntmps40
 go_upto_region 1 with fail
 rw[←HW0.out,←HG.out,←HQ.out]
 refine region_tail (S:=(fun w'=>w'.cell? ⟨z,5,none⟩=some (.slice (some ⟨pb,pof,none⟩) NP cp)∧w'.cell? ⟨z,6,none⟩=some (.slice (some ⟨ob,oof,none⟩) NO co)∧w'.cell? ⟨ob,oof+v * 2+1,none⟩=some (.int .i64 (p:Int))∧w'.rangeAt pb (pof+p * 17) [a0,.int .i64 k,.int .i64 m,.int .i64 q,a4,a5,a6,a7,a8,a9,a10,a11,a12,a13,a14,a15,a16])) [10] (by kernel_rfl) HS0.out (fun hHeld=>?_)
 refine tk 0 5 ?_
 refine tk 1 6 ?_
 refine tk 2 7 ?_
 refine tk 3 8 ?_
 refine tk 4 9 ?_
 refine tk 5 10 ?_
 refine tk 6 11 ?_
 refine tk 7 12 ?_
 refine tk 8 13 ?_
 refine takeT (i:=9) (d:=14) (v:=(.agg #[a0,.int .i64 k,.int .i64 m,.int .i64 q,a4,a5,a6,a7,a8,a9,a10,a11,a12,a13,a14,a15,a16])) rfl rfl (by kernel_rfl) (by kernel_rfl) (by kernel_rfl) (by kernel_rfl) (fun _ _ _ h=>h) (yieldsIf_load_mid (by rfl) 85 (.tmp 13) rfl pb (pof+p * 17) (by rfl) [a0,.int .i64 k,.int .i64 m,.int .i64 q,a4,a5,a6,a7,a8,a9,a10,a11,a12,a13,a14,a15,a16] _ (fun w hw=>hw.2.2.2) Tryz.underlying85 rfl size_pol) (by assumption) ?_
 (try simp only[Act.put,z1,z2,z3])
 refine readyT (rs:=[10]) (by kernel_rfl) (by simp) ?_
 refine AllReadyT.consT rfl rfl (fun K hK=>?_) ?_
 ·rw[if_pos (by rfl)]
  refine wp_store_mid 85 (.tmp 4) (.tmp 14) rfl g 0 #[a0,.int .i64 k,.int .i64 m,.int .i64 q,a4,a5,a6,a7,a8,a9,a10,a11,a12,a13,a14,a15,a16] (by rfl) (by rfl) HTH.out size_pol HON.out ?_
  refine hK.out _ _ ?_
  clear hK K
  (try simp only[Act.put,z1,z2,z3])
  refine doneT (by kernel_rfl) ?_ _
  go_wp2_with fail
  obtain⟨w5,hw5⟩:=zx (World.setCells W0.drew g 0 [a0,.int .i64 k,.int .i64 m,.int .i64 q,a4,a5,a6,a7,a8,a9,a10,a11,a12,a13,a14,a15,a16])
  rw[←hw5]
  have hr5:w5.rangeAt g 0 [a0,.int .i64 k,.int .i64 m,.int .i64 q,a4,a5,a6,a7,a8,a9,a10,a11,a12,a13,a14,a15,a16]:=by rw[hw5];exact World.rangeAt_setCells_same _ _ _ _ HTH.out
  have hb5:Below w.heap.size w w5:=by rw[hw5];exact below_setCellsV HGW.out _ _ _ HB0.out.drew
  clear hw5 hHeld
  have hld:=run_loadVar_mid (P:=Tryz.prog) w5 g 0 85 _ _ hr5 Tryz.underlying85 rfl size_pol
  exact bodyPost_ret (v:=.agg #[a0,.int .i64 k,.int .i64 m,.int .i64 q,a4,a5,a6,a7,a8,a9,a10,a11,a12,a13,a14,a15,a16]) (results_cell _ 85 4 _ _ _ ⟨g,0,none⟩ Tryz.results40 (by rfl) hld) rfl ⟨rfl,hb5⟩
 exact AllReadyT.nil
end Go.Proofs.YtcfkllnpkmebpaaGreatDoor
