/- The program's Rescue at a stripe of a made fleet, walked. -/
import Derived.Test.YtcfkllnpkmebpaaGreatDoorMh01
import Derived.Test.YtcfkllnpkmebpaaGreatDoorMh02
import Derived.Test.YtcfkllnpkmebpaaGreatDoorMh03
import Derived.Test.YtcfkllnpkmebpaaGreatDoorMh04
import Derived.Test.YtcfkllnpkmebpaaGreatDoorMh05
import Derived.Test.YtcfkllnpkmebpaaGreatDoorMh06
import Derived.Test.YtcfkllnpkmebpaaGreatDoorMh07
import Derived.Test.YtcfkllnpkmebpaaGreatDoorMh08
import Derived.Test.YtcfkllnpkmebpaaGreatDoorMh09
import Derived.Test.YtcfkllnpkmebpaaGreatDoorMh10
import Derived.Test.YtcfkllnpkmebpaaGreatDoorMh11
import Derived.Test.YtcfkllnpkmebpaaGreatDoorMh12
import Derived.Test.YtcfkllnpkmebpaaGreatDoorMh13
import Derived.Test.YtcfkllnpkmebpaaGreatDoorMh14
import Derived.Test.YtcfkllnpkmebpaaGreatDoorMh15
import Derived.Test.YtcfkllnpkmebpaaGreatDoorMh16
import Derived.Test.YtcfkllnpkmebpaaGreatDoorMh17
import Derived.Test.YtcfkllnpkmebpaaGreatDoorMh18
import Derived.Deep.MidRow
import Derived.Test.YtcfkllnpkmebpaaGreatDoorMn03
import Derived.Test.YtcfkllnpkmebpaaGreatDoorMn05
import Derived.Test.YtcfkllnpkmebpaaGreatDoorMn04
import Derived.Test.YtcfkllnpkmebpaaGreatDoorMn01
import Derived.Test.YtcfkllnpkmebpaaGreatDoorMn02
set_option maxRecDepth 100000
set_option maxHeartbeats 12800000
namespace Go.Proofs.YtcfkllnpkmebpaaGreatDoor
open Go.RowKit
set_option linter.unusedVariables false
set_option linter.unusedSimpArgs false
theorem kg_storeW{κ:Type} {kval:κ→Value} {ok:κ→Prop} [DecidableEq κ] {o:Oper} {a:Act} {K:Act→World→Prop} {Q:Exit→Act→World→Prop} {w:World} (m xo vo:Operand) (t kt e:TypeId) (hop:o.op=Op.mapUpdate t m xo vo) (T:KeyT kt kval ok) (ht:Tryz.prog.underlying t=some (.map kt e)) (b n:Nat) (f:κ→Option Value) (x:κ) (v:Value)
  (hm:a.eval m=.map (some b)) (hxo:a.eval xo=kval x) (hvo:a.eval vo=v) (h:MapG w kt kval b n f) (hn:n<maxLen) (hx:ok x)
  (hK:∀w',MapG w' kt kval b (n+1) (updG f x v)→w.grownBy w' (some b)→K (a.put o.dst undef) w'):Oper.wp Tryz.prog o a w K Q:=by
 obtain⟨w',hrun,r1,r2⟩:=h.store T ht hn hx v
 unfold Oper.wp
 simp[execOp,hop,hm,hxo,hvo,hrun,Result.andThen]
 exact hK w' r1 r2
theorem two_pow_wrap(i:Nat) (h:i<4):wrap64 (2 ^ i)=((2 ^ i:Nat):Int):=by
 have:i=0∨i=1∨i=2∨i=3:=by omega
 rcases this with rfl | rfl | rfl | rfl <;> decide +kernel
theorem two_pow_wrap2(i:Nat) (h:i<4):IntKind.i64.wrap (2 ^ i)=((2 ^ i:Nat):Int):=by
 have:i=0∨i=1∨i=2∨i=3:=by omega
 rcases this with rfl | rfl | rfl | rfl <;> decide +kernel
theorem two_pow_lt(i:Nat) (h:i<4):2 ^ i≤8:=by
 have:i=0∨i=1∨i=2∨i=3:=by omega
 rcases this with rfl | rfl | rfl | rfl <;> decide +kernel
theorem rescue_in(N:Nat) (hN:N≤12) (vl vm vd vv vp vo vp0 vo0 va0:Value) (F:FltM) (r:Re) (v s EX KN KM:Nat) (w:World) (hf:FleetS w (Bl w.heap.size) vl vm vd vv vp vo F) (hok:FleetOk N F) (h:ReS w (Bl w.heap.size) vp0 vo0 va0 r) (hp:r.plat.length≤24) (hl:∀l∈r.plat,l.length≤1000) (hac:r.acks.length≤1000000)
  (hv:v<F.vols.length) (hEX:F.ext=(EX:Int)) (hs:s<EX) (hKN:kOf F v=(KN:Int)) (hKM:kOf F v+mOf F v=(KM:Int)) :
  Calls Tryz.prog 23 #[.agg #[.int .i64 F.ext,vl,vm,vd,vv,vp,vo],.agg #[vp0,vo0,va0],.int .i64 (v:Int),.int .i64 (s:Int)] w fun e w'=>∃u,e=.returned (.tuple #[u,.int .i64 (resS F r (v:Int) (s:Int)).2])∧OwnI w' w.heap.size u ((resS F r (v:Int) (s:Int)).1.map (fun x:Nat=>(x:Int)))∧Below w.heap.size w w':=by
 have hkm4:(KN=1∨KN=2)∧KM≤4:=by
  obtain⟨kk,m1,m2,-,-⟩:=kmq_ok hok hv
  omega
 have hstr:isStr F.vols.length F.ext (v:Int) (s:Int)=true:=by unfold isStr;rw[decide_eq_true_eq];omega
 obtain⟨RS,hRS⟩:=zx (resS F r (v:Int) (s:Int))
 rw[←hRS]
 obtain⟨LB,hLB⟩:=zx (keyP F r (condR true) (v,s))
 obtain⟨AB,hAB⟩:=zx (keyP F r (condR false) (v,s))
 have HRES:=zh (show(LB=true→RS=([],121))∧(LB=false→AB=false→RS=([],110))∧(LB=false→AB=true→RS=(rescL r (v:Int) (s:Int) KM KN,0)∧KN≤((List.range KM).filter (anyF r (v:Int) (s:Int))).length∧cntS r (v:Int) (s:Int) KM []<KN) from by
  rw[hLB,hAB,hRS]
  refine⟨fun h1=>resS_lost hstr h1,fun h1 h2=>resS_state hstr h1 h2,fun h1 h2=>⟨resS_ok hKM hKN hstr h1 h2,?_⟩⟩
  obtain⟨k1,k2,-⟩:=key_away hKM hKN (by omega) h2
  exact⟨k1,k2⟩)
 obtain⟨pb,pof,ob,oof,cp,co,rfl,rfl,hRp,hRo,hPA⟩:=polAt hf hok
 obtain⟨Ap,cpl,rfl,-,-⟩:=h.1.form
 obtain⟨Ao,col,rfl,-,-⟩:=h.2.1.form
 obtain⟨Aa,cal,rfl,-,-⟩:=h.2.2.form
 obtain⟨vp0,hvp0⟩:=zx (Value.slice Ap r.plat.length cpl)
 obtain⟨vo0,hvo0⟩:=zx (Value.slice Ao r.on.length col)
 obtain⟨va0,hva0⟩:=zx (Value.slice Aa r.acks.length cal)
 rw[←hvp0,←hvo0,←hva0] at h ⊢
 have HVA:=zh (fun(w':World) (hb:Below w.heap.size w w')=>fvalidate_any N hN vl vm vd vv _ _ F w' (hf.below hb) hok)
 have HLO0:=zh (fun(w':World) (hb:Below w.heap.size w w')=>lost_any N hN vl vm vd vv _ _ vp0 vo0 va0 F r w' (hf.below hb) hok (h.below hb) (by omega) hl hac)
 have HUN0:=zh (fun(w':World) (hb:Below w.heap.size w w')=>unav_any N hN vl vm vd vv _ _ vp0 vo0 va0 F r w' (hf.below hb) hok (h.below hb) (by omega) hl hac)
 have HGD:=zh (fun(i:Nat) (w':World) (hb:Below w.heap.size w w')=>good_any vp0 vo0 va0 r (v:Int) (i:Int) (s:Int) w' (h.below hb) (by omega) hl hac (by have:=hok.volN;unfold I64;omega) (by have:=hok.ext;unfold I64;omega))
 have HONL:=zh (fun(d:Nat) (hd:d≤1048576) (w':World) (hb:Below w.heap.size w w')=>ionline_any vp0 vo0 va0 r d w' (h.below hb) hd)
 have hgl:∀i:Nat,(goodI r (v:Int) (i:Int) (s:Int)).length≤1000000:=fun i=>by
  have h0:=goodTo_length (v:Int) (i:Int) (s:Int) (pieces r)
  have h1:=piecesTo_length r 1000 hl r.plat.length
  have h2:r.plat.length * 1000≤24 * 1000:=Nat.mul_le_mul_right 1000 hp
  unfold goodI
  unfold pieces at h0 ⊢
  omega
 have HGL:=zh hgl
 obtain⟨hpl,nm,hvol,a0,a4,a5,a6,a7,a8,a9,a10,a11,a12,a13,a14,a15,a16,hpol,hone⟩:=hPA v hv
 obtain⟨MM,hMM⟩:=zx (mOf F v)
 obtain⟨QQ,hQ⟩:=zx (qOf F v)
 obtain⟨p0,hpp⟩:=zx (volP F v)
 rw[hKN,←hMM,←hQ] at hpol hone
 rw[←hpp] at hvol hpl hpol
 rw[hKN,←hMM] at hKM
 have HKM:=zh (show(KN=1∨KN=2)∧(KN:Int)+MM=(KM:Int)∧KM≤4 from⟨hkm4.1,hKM,hkm4.2⟩)
 have hex:EX≤2:=by have:=hok.ext;omega
 have hno:=hok.volN
 have hnp:=hok.polN
 have HIS:=zh (fun(w':World)=>iisStripe_any vl vm vd vv (.slice (some ⟨pb,pof,none⟩) F.pols.length cp) (some ⟨ob,oof,none⟩) F.vols.length co (EX:Int) (v:Int) (s:Int) w' (by omega))
 rw[←hEX,hstr,hEX] at HIS
 obtain⟨KL1,hKL1⟩:=zx (keyL F r (condR true) F.ext.toNat F.vols.length 0)
 obtain⟨KL2,hKL2⟩:=zx (keyL F r (condR false) F.ext.toNat F.vols.length 0)
 have HK12:=zh (show decide ((v,s)∈KL1)=LB∧decide ((v,s)∈KL2)=AB from by
  rw[hKL1,hKL2,hLB,hAB]
  exact⟨keyL_dec F r _ _ _ v s hv (by omega),keyL_dec F r _ _ _ v s hv (by omega)⟩)
 rw[←hKL1] at HLO0
 rw[←hKL2] at HUN0
 rw[hEX] at HVA HLO0 HUN0 ⊢
 obtain⟨NO,hNO⟩:=zx F.vols.length
 obtain⟨NP,hNP⟩:=zx F.pols.length
 obtain⟨NPL,hNPL⟩:=zx r.plat.length
 rw[←hNO] at hno hv HVA HIS HLO0 HUN0 ⊢
 rw[←hNP] at hnp hpl HVA HIS HLO0 HUN0 ⊢
 rw[←hNPL] at hp hvp0
 have HNPL:=zh hNPL
 obtain⟨W0,hW0⟩:=zx ((w.alloc (.cells #[.int .i64 (EX:Int),vl,vm,vd,vv,.slice (some ⟨pb,pof,none⟩) NP cp,.slice (some ⟨ob,oof,none⟩) NO co] 35)).alloc (.cells #[vp0,vo0,va0] 40))
 obtain⟨z,hz⟩:=zx w.heap.size
 obtain⟨y,hy⟩:=zx (w.heap.size+1)
 have hb0:Below w.heap.size w W0:=by rw[hW0];exact((Below.refl _ _).alloc (Nat.le_refl _) _).alloc (by simp) _
 have hyk:W0.heap[y]?=some (.cells #[vp0,vo0,va0] 40 (0,0)):=by
  rw[hW0];exact heap_alloc_at _ _ _ (by rw[hy];simp)
 have hzk:W0.heap[z]?=some (.cells #[.int .i64 (EX:Int),vl,vm,vd,vv,.slice (some ⟨pb,pof,none⟩) NP cp,.slice (some ⟨ob,oof,none⟩) NO co] 35 (0,0)):=by
  rw[hW0,hz];exact(Below.heap_alloc _ _ _ (by simp)).trans (heap_alloc_new w _)
 have hyl:y<W0.heap.size:=(Array.getElem?_eq_some_iff.1 hyk).1
 have hzl:z<W0.heap.size:=(Array.getElem?_eq_some_iff.1 hzk).1
 have HC:=zh (fun(w':World) (hb:Below W0.heap.size W0 w')=>And.intro (cells7 ((hb.block z hzl).trans hzk)) (cells3 ((hb.block y hyl).trans hyk)))
 have HRE:=zh (fun(w':World) (hb:Below W0.heap.size W0 w')=>hb0.trans (hb.mono hb0.size))
 have HW0:=zh hW0
 have HZ:=zh hz
 have HY:=zh hy
 have HB0:=zh hb0
 have HVOL:=zh (fun(w':World) (hb:Below W0.heap.size W0 w')=>(show w'.cell? ⟨ob,oof+v * 2+1,none⟩=some (.int .i64 (p0:Int)) from range_same hvol ((hb0.trans (hb.mono hb0.size)).block ob hRo) 1 _ rfl))
 have HPOL:=zh (fun(w':World) (hb:Below W0.heap.size W0 w')=>(show w'.rangeAt pb (pof+p0 * 17) [a0,.int .i64 (KN:Int),.int .i64 MM,.int .i64 QQ,a4,a5,a6,a7,a8,a9,a10,a11,a12,a13,a14,a15,a16] from range_same hpol ((hb0.trans (hb.mono hb0.size)).block pb hRp)))
 have HON:=zh hone
 have HVP:=zh hvp0
 have i1:(v:Int)<(NO:Int):=by omega
 have i2:(p0:Int)<(NP:Int):=by omega
 have i3:(KN:Int)≤2:=by omega
 have i4:(1:Int)≤(KN:Int):=by omega
 have i5:(KM:Int)≤4:=by have:=HKM.out;omega
 have i6:(NPL:Int)≤24:=by omega
 have hkw:IntKind.i64.wrap ((KN:Int)+MM)=(KM:Int):=by rw[HKM.out.2.1];exact IntWalk.i64_in _ (by omega)
 have hkm:(KN:Int)+MM=(KM:Int):=HKM.out.2.1
 obtain⟨⟨c0,c1,c2,c3,c4,c5,c6⟩,-⟩:=HC.out W0 (Below.refl _ _)
 clear hf hok h hPA hRp hRo hvol hpol hone hW0 hz hy hb0 hyk hzk hyl hzl hNO hNP hEX hKN hMM hQ hpp hpl hKM hstr hRS hLB hAB hKL1 hKL2 hNPL hvp0 hvo0 hva0 hgl hkm4 hl hac hN
 go_enter Tryz.func23,Tryz.ntmps23
 go_wp2_with fail
 rw[←HW0.out,←HY.out,←HZ.out]
 refine(HVA.out _ HB0.out).mono ?_
 rintro e w0 ⟨rfl,hb00⟩
 have HB00:=zh hb00
 clear c0 c1 c2 c3 c4 c5 c6 hb00
 obtain⟨⟨c0,c1,c2,c3,c4,c5,c6⟩,-⟩:=HC.out w0 HB00.out
 go_wp2_with fail
 refine(HIS.out _).mono ?_
 rintro e w1 ⟨rfl,hb1⟩
 have HB1:=zh (HB00.out.trans (hb1.mono HB00.out.size))
 clear c0 c1 c2 c3 c4 c5 c6 hb1
 obtain⟨-,y0,-⟩:=HC.out w1 HB1.out
 rw[HVP.out] at y0
 obtain⟨W3,hW3⟩:=zx (w1.alloc (.cells #[.int .i64 (v:Int),.int .i64 (s:Int)] 67))
 obtain⟨gk,hgk⟩:=zx w1.heap.size
 have hb3:Below w1.heap.size w1 W3:=by rw[hW3];exact(Below.refl _ _).alloc (Nat.le_refl _) _
 have hgkk:W3.heap[gk]?=some (.cells #[.int .i64 (v:Int),.int .i64 (s:Int)] 67 (0,0)):=by
  rw[hW3,hgk];exact heap_alloc_new w1 _
 have HB3:=zh (HB1.out.trans (hb3.mono HB1.out.size))
 have hgkl:gk<W3.heap.size:=(Array.getElem?_eq_some_iff.1 hgkk).1
 have HS4:=zh (fun(w':World) (hb:Below W3.heap.size W3 w')=>(show w'.cell? ⟨z,0,none⟩=some (.int .i64 (EX:Int))∧w'.cell? ⟨z,1,none⟩=some vl∧w'.cell? ⟨z,2,none⟩=some vm∧w'.cell? ⟨z,3,none⟩=some vd∧w'.cell? ⟨z,4,none⟩=some vv∧w'.cell? ⟨z,5,none⟩=some (.slice (some ⟨pb,pof,none⟩) NP cp)∧w'.cell? ⟨z,6,none⟩=some (.slice (some ⟨ob,oof,none⟩) NO co)∧w'.cell? ⟨y,0,none⟩=some vp0∧w'.cell? ⟨y,1,none⟩=some vo0∧w'.cell? ⟨y,2,none⟩=some va0∧w'.cell? ⟨gk,0,none⟩=some (.int .i64 (v:Int))∧w'.cell? ⟨gk,1,none⟩=some (.int .i64 (s:Int))∧Below W3.heap.size W3 w' from by
  obtain⟨⟨x0,x1,x2,x3,x4,x5,x6⟩,y0,y1,y2,-⟩:=HC.out w' (HB3.out.trans (hb.mono HB3.out.size))
  have hk:=(hb.block gk hgkl).trans hgkk
  exact⟨x0,x1,x2,x3,x4,x5,x6,y0,y1,y2,by rw[cell_of_row _ _ _ _ _ _ hk];rfl,by rw[cell_of_row _ _ _ _ _ _ hk];rfl,hb⟩))
 have HLO:=zh (fun(w':World) (hb:Below W3.heap.size W3 w')=>HLO0.out w' (HRE.out w' (HB3.out.trans (hb.mono HB3.out.size))))
 have HUN:=zh (fun(w':World) (hb:Below W3.heap.size W3 w')=>HUN0.out w' (HRE.out w' (HB3.out.trans (hb.mono HB3.out.size))))
 have HW3:=zh hW3
 have HGK:=zh hgk
 clear hW3 hgk hb3 hgkk hgkl
 go_upto_region 4 with fail
 rw[←HW3.out,←HGK.out]
 clear y0
 refine region_tail (S:=(fun w'=>w'.cell? ⟨z,0,none⟩=some (.int .i64 (EX:Int))∧w'.cell? ⟨z,1,none⟩=some vl∧w'.cell? ⟨z,2,none⟩=some vm∧w'.cell? ⟨z,3,none⟩=some vd∧w'.cell? ⟨z,4,none⟩=some vv∧w'.cell? ⟨z,5,none⟩=some (.slice (some ⟨pb,pof,none⟩) NP cp)∧w'.cell? ⟨z,6,none⟩=some (.slice (some ⟨ob,oof,none⟩) NO co)∧w'.cell? ⟨y,0,none⟩=some vp0∧w'.cell? ⟨y,1,none⟩=some vo0∧w'.cell? ⟨y,2,none⟩=some va0∧w'.cell? ⟨gk,0,none⟩=some (.int .i64 (v:Int))∧w'.cell? ⟨gk,1,none⟩=some (.int .i64 (s:Int))∧Below W3.heap.size W3 w')) [] (by kernel_rfl) (HS4.out _ ((Below.refl W3.heap.size W3).drew)) (fun hHeld=>?_)
 refine tk 0 39 ?_
 refine tk 1 40 ?_
 refine tk 3 42 ?_
 refine readyT (rs:=[2]) (by kernel_rfl) (by simp) ?_
 refine AllReadyT.cons rfl (fun K hK=>?_) ?_
 ·go_simp
  refine(HLO.out _ (Below.refl W3.heap.size W3).drew).mono ?_
  rintro e wc ⟨u,rfl,ho,hb4⟩
  have hb5:=((Below.refl W3.heap.size W3).drew).trans (hb4.mono ((Below.refl W3.heap.size W3).drew).size)
  have hS5:=HS4.out _ hb5
  refine hK.out _ _ ?_ (fun hHeld=>?_)
  ·(first|exact hS7|exact hS5)
  clear hK K
  (try simp only[Act.put,z1,z2,z3])
  refine readyT (rs:=[4]) (by kernel_rfl) (by simp) ?_
  refine AllReadyT.cons rfl (fun K hK=>?_) ?_
  ·go_simp
   have hkc:=kcontains_any u KL1 v s _ _ (ho.slS) (fun b h=>h.2)
   rw[HK12.out.1] at hkc
   refine hkc.mono ?_
   rintro e wd ⟨rfl,hb6⟩
   have hb7:=hb5.trans (hb6.mono hb5.size)
   have hS7:=HS4.out _ hb7
   refine hK.out _ _ ?_ (fun hHeld=>?_)
   ·(first|exact hS7|exact hS5)
   clear hK K
   (try simp only[Act.put,z1,z2,z3])
   refine doneT (by kernel_rfl) ?_ _
   obtain⟨w5,hw5⟩:=zx wd
   rw[←hw5] at hb7 ⊢
   have HB5:=zh hb7
   subst hw5
   clear hHeld hS5 hS7 hb4 hb5 hb6 hb7 ho
   cases LB with
   | true =>
    go_wp2_with fail
    go_ret2
    rw[HRES.out.1 (by simp)]
    exact⟨_,rfl,OwnI.nil _ _,HB0.out.trans ((HB3.out.trans (HB5.out.mono HB3.out.size)).mono HB0.out.size)⟩
   | false =>
    go_upto_region 6 with fail
    refine region_tail (S:=(fun w'=>w'.cell? ⟨z,0,none⟩=some (.int .i64 (EX:Int))∧w'.cell? ⟨z,1,none⟩=some vl∧w'.cell? ⟨z,2,none⟩=some vm∧w'.cell? ⟨z,3,none⟩=some vd∧w'.cell? ⟨z,4,none⟩=some vv∧w'.cell? ⟨z,5,none⟩=some (.slice (some ⟨pb,pof,none⟩) NP cp)∧w'.cell? ⟨z,6,none⟩=some (.slice (some ⟨ob,oof,none⟩) NO co)∧w'.cell? ⟨y,0,none⟩=some vp0∧w'.cell? ⟨y,1,none⟩=some vo0∧w'.cell? ⟨y,2,none⟩=some va0∧w'.cell? ⟨gk,0,none⟩=some (.int .i64 (v:Int))∧w'.cell? ⟨gk,1,none⟩=some (.int .i64 (s:Int))∧Below W3.heap.size W3 w')) [] (by kernel_rfl) (HS4.out _ (HB5.out.drew)) (fun hHeld=>?_)
    refine tk 0 44 ?_
    refine tk 1 45 ?_
    refine tk 3 47 ?_
    refine readyT (rs:=[2]) (by kernel_rfl) (by simp) ?_
    refine AllReadyT.cons rfl (fun K hK=>?_) ?_
    ·go_simp
     refine(HUN.out _ HB5.out.drew).mono ?_
     rintro e wc ⟨u,rfl,ho,hb4⟩
     have hb5:=(HB5.out.drew).trans (hb4.mono (HB5.out.drew).size)
     have hS5:=HS4.out _ hb5
     refine hK.out _ _ ?_ (fun hHeld=>?_)
     ·(first|exact hS7|exact hS5)
     clear hK K
     (try simp only[Act.put,z1,z2,z3])
     refine readyT (rs:=[4]) (by kernel_rfl) (by simp) ?_
     refine AllReadyT.cons rfl (fun K hK=>?_) ?_
     ·go_simp
      have hkc:=kcontains_any u KL2 v s _ _ (ho.slS) (fun b h=>h.2)
      rw[HK12.out.2] at hkc
      refine hkc.mono ?_
      rintro e wd ⟨rfl,hb6⟩
      have hb7:=hb5.trans (hb6.mono hb5.size)
      have hS7:=HS4.out _ hb7
      refine hK.out _ _ ?_ (fun hHeld=>?_)
      ·(first|exact hS7|exact hS5)
      clear hK K
      (try simp only[Act.put,z1,z2,z3])
      refine tk 5 49 ?_
      refine doneT (by kernel_rfl) ?_ _
      obtain⟨w7,hw7⟩:=zx wd
      rw[←hw7] at hb7 ⊢
      have HB7:=zh hb7
      subst hw7
      clear hHeld hS5 hS7 hb4 hb5 hb6 hb7 ho
      cases AB with
      | false =>
       go_wp2_with fail
       go_ret2
       rw[HRES.out.2.1 (by simp) (by simp)]
       exact⟨_,rfl,OwnI.nil _ _,HB0.out.trans ((HB3.out.trans (HB7.out.mono HB3.out.size)).mono HB0.out.size)⟩
      | true =>
       obtain⟨hrs,hk1,hk2⟩:=HRES.out.2.2 (by simp) (by simp)
       have HRS:=zh hrs
       have HK1:=zh (And.intro hk1 hk2)
       clear hrs hk1 hk2 HRES
       have HTH:=zh (show((w7.alloc (.cells #[.string ⟨#[]⟩,.int .i64 0,.int .i64 0,.int .i64 0,.int .i64 0,.int .i64 0,.int .i64 0,.int .i64 0,.int .i64 0,.slice none 0 0,.slice none 0 0,.bool false,.slice none 0 0,.slice none 0 0,.bool false,.slice none 0 0,.slice none 0 0] 85)).drew).there w7.heap.size 0 17 from there_of_block (w:=(w7.alloc (.cells #[.string ⟨#[]⟩,.int .i64 0,.int .i64 0,.int .i64 0,.int .i64 0,.int .i64 0,.int .i64 0,.int .i64 0,.int .i64 0,.slice none 0 0,.slice none 0 0,.bool false,.slice none 0 0,.slice none 0 0,.bool false,.slice none 0 0,.slice none 0 0] 85)).drew) (cs:=#[.string ⟨#[]⟩,.int .i64 0,.int .i64 0,.int .i64 0,.int .i64 0,.int .i64 0,.int .i64 0,.int .i64 0,.int .i64 0,.slice none 0 0,.slice none 0 0,.bool false,.slice none 0 0,.slice none 0 0,.bool false,.slice none 0 0,.slice none 0 0]) (heap_alloc_new w7 _) (Nat.le_refl 17))
       have HSK:=zh (fun(w':World) (hb:Below w7.heap.size w7 w')=>(show w'.cell? ⟨z,5,none⟩=some (.slice (some ⟨pb,pof,none⟩) NP cp)∧w'.cell? ⟨z,6,none⟩=some (.slice (some ⟨ob,oof,none⟩) NO co)∧w'.cell? ⟨ob,oof+v * 2+1,none⟩=some (.int .i64 (p0:Int))∧w'.rangeAt pb (pof+p0 * 17) [a0,.int .i64 (KN:Int),.int .i64 MM,.int .i64 QQ,a4,a5,a6,a7,a8,a9,a10,a11,a12,a13,a14,a15,a16] from by
        have hb0':=HB3.out.trans ((HB7.out.trans (hb.mono HB7.out.size)).mono HB3.out.size)
        obtain⟨⟨-,-,-,-,-,x5,x6⟩,-⟩:=HC.out w' hb0'
        exact⟨x5,x6,HVOL.out w' hb0',HPOL.out w' hb0'⟩))
       go_upto_region 8 with fail
       refine region_tail (S:=(fun w'=>w'.cell? ⟨z,5,none⟩=some (.slice (some ⟨pb,pof,none⟩) NP cp)∧w'.cell? ⟨z,6,none⟩=some (.slice (some ⟨ob,oof,none⟩) NO co)∧w'.cell? ⟨ob,oof+v * 2+1,none⟩=some (.int .i64 (p0:Int))∧w'.rangeAt pb (pof+p0 * 17) [a0,.int .i64 (KN:Int),.int .i64 MM,.int .i64 QQ,a4,a5,a6,a7,a8,a9,a10,a11,a12,a13,a14,a15,a16])) [11] (by kernel_rfl) (HSK.out _ (Below.refl _ _).drew) (fun hHeld=>?_)
       refine tk 0 50 ?_
       refine tk 1 51 ?_
       refine tk 2 52 ?_
       refine tk 3 53 ?_
       refine tk 4 54 ?_
       refine tk 5 55 ?_
       refine tk 6 56 ?_
       refine tk 7 57 ?_
       refine tk 8 58 ?_
       refine takeT (i:=9) (d:=59) (v:=(.agg #[a0,.int .i64 (KN:Int),.int .i64 MM,.int .i64 QQ,a4,a5,a6,a7,a8,a9,a10,a11,a12,a13,a14,a15,a16])) rfl rfl (by kernel_rfl) (by kernel_rfl) (by kernel_rfl) (by kernel_rfl) (fun _ _ _ h=>h) (yieldsIf_load_mid (by rfl) 85 (.tmp 58) rfl pb (pof+p0 * 17) (by rfl) [a0,.int .i64 (KN:Int),.int .i64 MM,.int .i64 QQ,a4,a5,a6,a7,a8,a9,a10,a11,a12,a13,a14,a15,a16] _ (fun w hw=>hw.2.2.2) Tryz.underlying85 rfl size_pol) (by assumption) ?_
       (try simp only[Act.put,z1,z2,z3])
       refine readyT (rs:=[10]) (by kernel_rfl) (by simp) ?_
       refine AllReadyT.cons rfl (fun K hK=>?_) ?_
       ·go_simp
        refine hK.out _ _ ?_ (fun hHeld=>?_)
        ·exact HSK.out _ ((Below.refl _ _).drew.alloc (Nat.le_refl _) _)
        clear hK K
        (try simp only[Act.put,z1,z2,z3])
        refine readyT (rs:=[11]) (by kernel_rfl) (by simp) ?_
        refine AllReadyT.consT rfl rfl (fun K hK=>?_) ?_
        ·rw[if_pos (by rfl)]
         refine wp_store_mid 85 (.tmp 11) (.tmp 59) rfl w7.heap.size 0 #[a0,.int .i64 (KN:Int),.int .i64 MM,.int .i64 QQ,a4,a5,a6,a7,a8,a9,a10,a11,a12,a13,a14,a15,a16] (by rfl) (by rfl) HTH.out size_pol HON.out ?_
         refine hK.out _ _ ?_
         clear hK K
         (try simp only[Act.put,z1,z2,z3])
         refine doneT (by kernel_rfl) ?_ _
         clear hHeld
         obtain⟨W8,hW8⟩:=zx (World.setCells ((w7.alloc (.cells #[.string ⟨#[]⟩,.int .i64 0,.int .i64 0,.int .i64 0,.int .i64 0,.int .i64 0,.int .i64 0,.int .i64 0,.int .i64 0,.slice none 0 0,.slice none 0 0,.bool false,.slice none 0 0,.slice none 0 0,.bool false,.slice none 0 0,.slice none 0 0] 85)).drew) w7.heap.size 0 [a0,.int .i64 (KN:Int),.int .i64 MM,.int .i64 QQ,a4,a5,a6,a7,a8,a9,a10,a11,a12,a13,a14,a15,a16])
         obtain⟨gp,hgp⟩:=zx w7.heap.size
         have hb8:Below w7.heap.size w7 W8:=by rw[hW8];exact below_setCellsV (Nat.le_refl _) _ _ _ ((Below.refl _ _).alloc (Nat.le_refl _) _).drew
         have hgr:W8.rangeAt gp 0 [a0,.int .i64 (KN:Int),.int .i64 MM,.int .i64 QQ,a4,a5,a6,a7,a8,a9,a10,a11,a12,a13,a14,a15,a16]:=by rw[hW8,hgp];exact World.rangeAt_setCells_same _ _ _ _ HTH.out
         have HGP:=zh (fun(w':World) (hb:Below W8.heap.size W8 w')=>(show w'.cell? ⟨gp,1,none⟩=some (.int .i64 (KN:Int))∧w'.cell? ⟨gp,2,none⟩=some (.int .i64 MM) from
          have hl:=World.block_lt_of_cell? W8 _ (hgr 0 _ rfl)
          ⟨range_same hgr (hb.block gp hl) 1 _ rfl,range_same hgr (hb.block gp hl) 2 _ rfl⟩))
         have HB8:=zh (HB3.out.trans ((HB7.out.trans (hb8.mono HB7.out.size)).mono HB3.out.size))
         have HW8:=zh hW8
         have HGG:=zh hgp
         obtain⟨W9,hW9⟩:=zx (W8.alloc (.map #[] 0))
         obtain⟨gm,hgm⟩:=zx W8.heap.size
         have HM0:=zh (show MapG W9 3 kint gm 0 (fun _=>none) from by rw[hW9,hgm];exact MapG.made W8 _)
         have HB9:=zh (show Below W8.heap.size W8 W9 from by rw[hW9];exact(Below.refl _ _).alloc (Nat.le_refl _) _)
         have HW9:=zh hW9
         have HGM:=zh hgm
         clear hW8 hgp hb8 hgr HTH HSK hW9 hgm
         have hmm:=@run_makeMap Tryz.prog
         go_upto_region 10 with fail
         clear hmm
         rw[←HW8.out,←HGG.out,←HW9.out,←HGM.out]
         obtain⟨p1,p2⟩:=HGP.out W9 HB9.out
         go_wp2_with fail
         clear p1 p2
         go_loopg [13,66] KM (fun z v13 v66 wr=>∃(i base n:Nat) (hv:Nat→Nat) (f:Int→Option Value),v66=.int .i64 (i:Int)∧v13=.int .i64 (base:Int)∧i≤KM∧z=KM - i∧n≤i * 1000000∧Hid (GotP r (v:Int) (s:Int) i 0 hv base)∧Hid (MapG wr 3 kint gm n f)∧Hid (∀d:Nat,(f (d:Int)).getD (.int .i64 0)=.int .i64 (hv d:Int))∧Hid (Below W8.heap.size W8 wr))
         case atStart=>exact⟨0,0,0,fun _=>0,fun _=>none,rfl,rfl,Nat.zero_le _,rfl,Nat.zero_le _,zh (GotP.start r (v:Int) (s:Int)),HM0,zh (fun d=>rfl),HB9⟩
         case round =>
          clear HM0 HB9
          obtain⟨i,base,n,hv,f,rfl,rfl,hi,rfl,hn,HG,HM,HF,HB⟩:=hrel
          by_cases hlt:i<KM
          ·have HR0:=zh (HB8.out.trans (HB.out.mono HB8.out.size))
           obtain⟨-,y0,y1,y2,-⟩:=HC.out wr HR0.out
           have hgi:=HGD.out i wr (HRE.out wr HR0.out)
           obtain⟨G,hG⟩:=zx (goodI r (v:Int) (i:Int) (s:Int))
           rw[←hG] at hgi
           have HGI:=zh hgi
           have HGN:=zh hG
           obtain⟨LG,hLG⟩:=zx G.length
           have hgn:LG≤1000000:=by rw[hLG,hG];exact HGL.out i
           have HLG:=zh hLG
           have HLT:=zh hlt
           clear hG hgi hLG
           go_wp2_with (go_at_call 61;refine HGI.out.mono ?_;rintro e w2 ⟨u,rfl,hou,hb2⟩;obtain⟨Au,cu,hu⟩:=hou.form;rw[←HLG.out] at hu;subst hu;have HOU:=zh (hou.intS (fun x hx=>(by rw[HGN.out] at hx;obtain⟨d,rfl,hd⟩:=good_nat r _ _ _ x hx;have:=HNPL.out;unfold I64;omega)));have HB2:=zh hb2;clear hou hb2)
           clear y0 y1 y2
           have HM2:=zh (HM.out.below HB2.out HM.out.lt)
           have HBW2:=zh (HB.out.trans (HB2.out.mono HB.out.size))
           have HGL2:=zh (show gm<wr.heap.size from HM.out.lt)
           go_loopg [13,75] LG (fun z v13 v75 wi=>∃(j base' n':Nat) (hv':Nat→Nat) (f':Int→Option Value),v75=.int .i64 (j:Int)∧v13=.int .i64 (base':Int)∧j≤LG∧z=LG - j∧n'≤n+j∧Hid (GotP r (v:Int) (s:Int) i j hv' base')∧Hid (MapG wi 3 kint gm n' f')∧Hid (∀d:Nat,(f' (d:Int)).getD (.int .i64 0)=.int .i64 (hv' d:Int))∧Hid (HotBy [some gm] w2 wi)∧Hid (Below W8.heap.size W8 wi))
           case atStart=>exact⟨0,base,n,hv,f,rfl,rfl,Nat.zero_le _,rfl,Nat.le_refl _,HG,HM2,HF,zh (HotBy.refl _ _),HBW2⟩
           case round =>
            clear HM2 HBW2
            obtain⟨j,base',n',hv',f',rfl,rfl,hj,rfl,hn',HG',HM',HF',HH,HB'⟩:=hrel
            by_cases hlj:j<LG
            ·have hjg:j<G.length:=by rw[←HLG.out];exact hlj
             obtain⟨d,hd,hdl⟩:=good_nat r (v:Int) (i:Int) (s:Int) G[j] (by rw[←HGN.out];exact List.getElem_mem hjg)
             obtain⟨b,off,hA,hR,hc,-⟩:=HOU.out.at7 (k:=j) hjg
             subst hA
             rw[hd] at hc
             have hbm:some b∉[some gm]:=by simp;have:=HGL2.out;have:=hR.1;omega
             have e0:wr.cell? ⟨b,off+j,none⟩=some (.int .i64 (d:Int)):=(World.cell?_of_block (w:=w2) (HH.out.block b hR.2 hbm)).trans hc
             have HDE:=zh (show ∀h:j<(goodI r (v:Int) (i:Int) (s:Int)).length,(goodI r (v:Int) (i:Int) (s:Int))[j]=(d:Int) from by rw[←HGN.out];exact fun _=>hd)
             have HJG:=zh (show j<(goodI r (v:Int) (i:Int) (s:Int)).length from by rw[←HGN.out];exact hjg)
             have hdn:d<NPL:=by rw[HNPL.out];exact hdl
             have HR1:=zh (HB8.out.trans (HB'.out.mono HB8.out.size))
             obtain⟨-,y0,y1,y2,-⟩:=HC.out wr HR1.out
             have hio:=HONL.out d (by omega) wr (HRE.out wr HR1.out)
             obtain⟨ob,hob⟩:=zx (onB r d)
             rw[←hob] at hio
             have HIO:=zh hio
             have HOB:=zh hob
             have HID:=zh (show I64 (d:Int) from⟨by omega,by omega⟩)
             have HSM:=zh (HG'.out.small (by omega))
             have hbs:=HSM.out.1
             have hhs:=HSM.out.2 d
             obtain⟨x,hx⟩:=zx (hv' d)
             rw[←hx] at hhs
             have hfd:=HF'.out d
             rw[←hx] at hfd
             have HFD:=zh hfd
             have HX:=zh hx
             have hi3:(i:Int)<4:=by omega
             clear hjg hd hdl hR hc hbm hio hob hfd hx
             have h2i:=two_pow_wrap i (by omega)
             have h2l:=two_pow_lt i (by omega)
             obtain⟨bn,hbn⟩:=zx (base' ||| 2 ^ i)
             obtain⟨xn,hxn⟩:=zx (x ||| 2 ^ i)
             have hob3:bits .or .i64 (x:Int) (IntKind.i64.wrap (2 ^ i))=(xn:Int):=by rw[hxn,two_pow_wrap2 i (by omega)];exact i64_or_nat _ _ (by omega) (by omega)
             have hob1:bits .or .i64 (base':Int) (wrap64 (2 ^ i))=(bn:Int):=by rw[hbn,h2i];exact i64_or_nat _ _ (by omega) (by omega)
             have hob2:bits .or .i64 (x:Int) (wrap64 (2 ^ i))=(xn:Int):=by rw[hxn,h2i];exact i64_or_nat _ _ (by omega) (by omega)
             have HBN:=zh (And.intro hbn hxn)
             clear hbn hxn h2i h2l
             cases ob with
             | true =>
              go_wp2_with (go_at_call 62;refine HIO.out.mono ?_;rintro e w3 ⟨rfl,hb3⟩;have HB3':=zh hb3;clear hb3)
              go_roundg (LG - (j+1))
              case measure=>omega
              case rel=>exact⟨j+1,bn,n',hv',f',by go_num,rfl,by omega,rfl,by omega,zh (by rw[HBN.out.1];exact HG'.out.on HJG.out (HDE.out _) (by have:=HOB.out;simpa using this)),zh (HM'.out.below HB3'.out HM'.out.lt),HF',zh (HH.out.trans (HotBy.below HB3'.out)),zh (HB'.out.trans (HB3'.out.mono HB'.out.size))⟩
             | false =>
              go_upto_region 19 with (go_at_call 62;refine HIO.out.mono ?_;rintro e w3 ⟨rfl,hb3⟩;have HB3':=zh hb3;clear hb3)
              have HM3:=zh (HM'.out.below HB3'.out HM'.out.lt)
              refine region_tail (S:=(fun w'=>MapG w' 3 kint gm n' f')) [6] (by kernel_rfl) (HM3.out.same rfl) (fun hHeld=>?_)
              refine tk 0 86 ?_
              refine tk 1 87 ?_
              refine takeT (i:=2) (d:=88) (v:=?_) rfl rfl (by kernel_rfl) (by kernel_rfl) (by kernel_rfl) (by kernel_rfl) (fun _ _ _ h=>h) (Or.inl ⟨by rfl,?_⟩) (by assumption) ?_
              rotate_left
              ·(intro w hSw;(try dsimp only at hSw);have hlk:=MapG.look (e:=3) (int_key Tryz.underlying3) hSw Tryz.underlying132 (zero_int8 w) HID.out;rw[HFD.out] at hlk;unfold kint at hlk;go_simp;first | done | with_reducible rfl)
              (try simp only[Act.put,z1,z2,z3])
              refine tk 3 89 ?_
              refine tk 4 90 ?_
              refine tk 5 91 ?_
              refine readyT (rs:=[6]) (by kernel_rfl) (by simp) ?_
              refine AllReadyT.consT rfl rfl (fun K hK=>?_) ?_
              ·rw[if_pos (by rfl)]
               refine kg_storeW (.tmp 86) (.tmp 87) (.tmp 91) 132 3 3 rfl (int_key Tryz.underlying3) Tryz.underlying132 gm n' f' (d:Int) (.int .i64 (xn:Int)) (by rfl) (by rfl) (by first | rfl | exact congrArg (Value.int .i64) hob2 | exact congrArg (Value.int .i64) hob3) (HM3.out.same (w':=w3.drew) rfl) (by unfold maxLen;omega) HID.out ?_
               intro w5 hM5 hg5
               refine hK.out _ _ ?_
               clear hK K
               (try simp only[Act.put,z1,z2,z3])
               refine doneT (by kernel_rfl) ?_ _
               have HM5:=zh hM5
               have HG5:=zh hg5
               clear hM5 hg5 hHeld
               go_wp2_with fail
               go_roundg (LG - (j+1))
               case measure=>omega
               case rel =>
                refine⟨j+1,base',n'+1,updN hv' d (hv' d ||| 2 ^ i),updG f' (d:Int) (.int .i64 (xn:Int)),by go_num,rfl,by omega,rfl,by omega,zh (HG'.out.off HJG.out (HDE.out _) (by have:=HOB.out;simpa using this)),HM5,zh (fun c=>?_),zh ((HH.out.trans (HotBy.below HB3'.out)).trans (HotBy.drew (HotBy.refl _ _) |>.trans (HotBy.grown HG5.out (.inl (by simp))))),zh ((HB'.out.trans (HB3'.out.mono HB'.out.size)).drew.grown HG5.out (HB'.out.trans (HB3'.out.mono HB'.out.size)).size (fun b e=>by injection e with e;have:=HGM.out;omega))⟩
                by_cases hcd:c=d
                ·subst hcd
                 rw[updG_same]
                 unfold updN
                 rw[if_pos rfl,Option.getD_some,←HX.out,HBN.out.2]
                ·rw[updG_other (fun e=>hcd (by omega))]
                 unfold updN
                 rw[if_neg hcd]
                 exact HF'.out c
              exact AllReadyT.nil
            ·have HGX:=zh (HG'.out.next (by rw[←HGN.out,←HLG.out];omega))
             go_wp2_with fail
             go_roundg (KM - (i+1))
             case measure=>have:=HLT.out;omega
             case rel=>exact⟨i+1,base',n',hv',f',by go_num,rfl,by have:=HLT.out;omega,rfl,by omega,HGX,HM',HF',HB'⟩
          ·obtain rfl:KM=i:=by omega
           have hkm2:=HKM.out
           obtain⟨hvo,hbo⟩:=HG.out.end_
           have hsml:=HG.out.small (by omega)
           obtain⟨hnn,hcc⟩:=HK1.out
           have hc1:=chs_one_eq (K:=KN) (by omega) hvo hbo
           have hc2:=chs_two_eq (K:=KN) (by omega) hvo hbo
           rw[←HNPL.out] at hc1 hc2
           have HC1:=zh (show chs hv NPL KN 1 0 base=(offD r (v:Int) (s:Int) KM).findSome? (oneP r (v:Int) (s:Int) KM KN) from hc1)
           have HC2:=zh (show chs hv NPL KN 2 0 base=pick2 (twoP r (v:Int) (s:Int) KM KN) (offD r (v:Int) (s:Int) KM) from hc2)
           have HLEFT:=zh (fun h=>resc_left (r:=r) (v:=(v:Int)) (s:=(s:Int)) (n:=KM) (K:=KN) hkm2.1 hnn hcc h)
           have HCH:=zh (fun(m:Nat) (hm:m≤2) (w1:World) (hM:MapG w1 3 kint gm n f)=>choose_any gm n f hv NPL KN (fun d _=>HF.out d) hsml.2 (by omega) (by omega) m hm 0 base w1 (Nat.zero_le _) hsml.1 hM)
           clear hkm2 hvo hbo hsml hnn hcc hc1 hc2
           go_wp2_with fail
           go_loopg [17] 2 (fun z v17 wr=>((v17=.int .i64 1∧z=2)∨(v17=.int .i64 2∧z=1∧KN=2∧Hid (chs hv NPL KN 1 0 base=none)))∧Hid (MapG wr 3 kint gm n f)∧Hid (Below W8.heap.size W8 wr))
           case atStart=>exact⟨.inl ⟨rfl,rfl⟩,HM,HB⟩
           case round =>
            clear HM HB
            obtain⟨hrel,HMM,HBB⟩:=hrel
            have HR0:=zh (HB8.out.trans (HBB.out.mono HB8.out.size))
            obtain⟨-,y0,-⟩:=HC.out wr HR0.out
            rw[HVP.out] at y0
            obtain⟨p1,-⟩:=HGP.out wr HBB.out
            rcases hrel with ⟨rfl,rfl⟩ | ⟨rfl,rfl,hk2,HNO1⟩
            ·obtain⟨o,ho⟩:=zx (chs hv NPL KN 1 0 base)
             have hcall:Calls Tryz.prog 63 #[.map (some gm),.int .i64 (NPL:Int),.int .i64 1,.int .i64 0,.int .i64 (base:Int),.int .i64 (KN:Int)] wr (ChP wr o):=by rw[ho];exact HCH.out 1 (by omega) wr HMM.out
             have HCALL:=zh hcall
             have HO:=zh ho
             clear hcall ho
             cases o with
             | some l =>
              go_wp2_with (go_at_call 63;refine HCALL.out.mono ?_;rintro e w5 ⟨u,rfl,hO,hb5⟩;have HO5:=zh hO;have HB5x:=zh hb5;clear hO hb5)
              go_ret2
              have hbw:=HB0.out.trans ((HR0.out.trans (HB5x.out.mono HR0.out.size)).mono HB0.out.size)
              have hsz:=(HB0.out.trans (HR0.out.mono HB0.out.size)).size
              rw[HRS.out]
              refine⟨u,rfl,?_,hbw⟩
              show OwnI w5 w.heap.size u ((rescL r (v:Int) (s:Int) KM KN).map (fun x:Nat=>(x:Int)))
              rw[resc_one (HC1.out.symm.trans HO.out.symm)]
              exact HO5.out.base hsz
             | none =>
              have HNO1:=zh HO.out.symm
              have HK2:=zh (HLEFT.out (HC1.out.symm.trans HO.out.symm)).1
              go_wp2_with (go_at_call 63;refine HCALL.out.mono ?_;rintro e w5 ⟨u,rfl,hO,hb5⟩;have HB5x:=zh hb5;clear hO hb5)
              go_roundg 1
              case measure=>omega
              case rel=>exact⟨.inr ⟨by go_num,rfl,HK2.out,HNO1⟩,zh (HMM.out.below HB5x.out HMM.out.lt),zh (HBB.out.trans (HB5x.out.mono HBB.out.size))⟩
            ·obtain⟨-,l,hl2⟩:=HLEFT.out (HC1.out.symm.trans HNO1.out)
             have hcall:Calls Tryz.prog 63 #[.map (some gm),.int .i64 (NPL:Int),.int .i64 2,.int .i64 0,.int .i64 (base:Int),.int .i64 (KN:Int)] wr (ChP wr (some l)):=by rw[←hl2,←HC2.out];exact HCH.out 2 (by omega) wr HMM.out
             have HCALL:=zh hcall
             have HL2:=zh hl2
             have hkk:(2:Int)≤(KN:Int):=by omega
             clear hcall hl2 hk2
             go_wp2_with (go_at_call 63;refine HCALL.out.mono ?_;rintro e w5 ⟨u,rfl,hO,hb5⟩;have HO5:=zh hO;have HB5x:=zh hb5;clear hO hb5)
             go_ret2
             have hbw:=HB0.out.trans ((HR0.out.trans (HB5x.out.mono HR0.out.size)).mono HB0.out.size)
             have hsz:=(HB0.out.trans (HR0.out.mono HB0.out.size)).size
             rw[HRS.out]
             refine⟨u,rfl,?_,hbw⟩
             show OwnI w5 w.heap.size u ((rescL r (v:Int) (s:Int) KM KN).map (fun x:Nat=>(x:Int)))
             rw[resc_two (HC1.out.symm.trans HNO1.out) HL2.out]
             exact HO5.out.base hsz
        exact AllReadyT.nil
       exact AllReadyT.nil
     exact AllReadyT.nil
    exact AllReadyT.nil
  exact AllReadyT.nil
 exact AllReadyT.nil
def fromL(r:Re) (v s:Int) (n K:Nat) (off:List Nat):List Nat→Option (List Nat)
 | [i]=>from1 (oneP r v s n K) off i
 | [i,j]=>from2 (twoP r v s n K) off i j
 | _=>none
theorem fromL_one(r:Re) (v s:Int) (n K:Nat) (off:List Nat):fromL r v s n K off [0]=off.findSome? (oneP r v s n K):=rfl
theorem fromL_two(r:Re) (v s:Int) (n K:Nat) (off:List Nat) (h:1≤off.length):fromL r v s n K off [0,1]=pick2 (twoP r v s n K) off:=by
 have:=pick2_from (p:=twoP r v s n K) (off:=off) (i:=0) (by omega)
 rw[List.drop_zero] at this
 exact this.symm
theorem find_plan{r:Re} {v s:Int} {n K:Nat} (hK:K=1∨K=2) (hl:K≤((List.range n).filter (anyF r v s)).length) (hu:cntS r v s n []<K) :
  1≤(offD r v s n).length∧((∃l,fromL r v s n K (offD r v s n) [0]=some l∧rescL r v s n K=l) ∨
   (fromL r v s n K (offD r v s n) [0]=none∧2≤(offD r v s n).length∧∃l,fromL r v s n K (offD r v s n) [0,1]=some l∧rescL r v s n K=l)):=by
 cases h1:fromL r v s n K (offD r v s n) [0] with
 | some l =>
  refine⟨?_,.inl ⟨l,rfl,resc_one h1⟩⟩
  rcases Nat.eq_zero_or_pos (offD r v s n).length with h0 | h0
  ·rw[fromL_one,List.eq_nil_of_length_eq_zero h0] at h1;cases h1
  ·exact h0
 | none =>
  obtain⟨-,l,h2⟩:=resc_left hK hl hu h1
  have h3:2≤(offD r v s n).length:=by
   rcases Nat.lt_or_ge (offD r v s n).length 2 with h0 | h0
   ·have:=pick2_short (p:=twoP r v s n K) (off:=offD r v s n) (i:=0) (by omega)
    rw[List.drop_zero,h2] at this;cases this
   ·exact h0
  exact⟨by omega,.inr ⟨rfl,h3,l,by rw[fromL_two _ _ _ _ _ _ (by omega)];exact h2,resc_two h1 h2⟩⟩
theorem rescue_bad(N:Nat) (hN:N≤12) (vl vm vd vv vp vo vp0 vo0 va0:Value) (F:FltM) (v s:Int) (w:World) (hf:FleetS w (Bl w.heap.size) vl vm vd vv vp vo F) (hok:FleetOk N F) (hbad:isStr F.vols.length F.ext v s=false) :
  Calls Tryz.prog 23 #[.agg #[.int .i64 F.ext,vl,vm,vd,vv,vp,vo],.agg #[vp0,vo0,va0],.int .i64 v,.int .i64 s] w fun e w'=>e=.returned (.tuple #[.slice none 0 0,.int .i64 1])∧Below w.heap.size w w':=by
 obtain⟨Ao,co,rfl,-,-⟩:=hf.2.2.2.2.2.form
 obtain⟨W0,hW0⟩:=zx ((w.alloc (.cells #[.int .i64 F.ext,vl,vm,vd,vv,vp,.slice Ao F.vols.length co] 35)).alloc (.cells #[vp0,vo0,va0] 40))
 obtain⟨z,hz⟩:=zx w.heap.size
 obtain⟨y,hy⟩:=zx (w.heap.size+1)
 have hb0:Below w.heap.size w W0:=by rw[hW0];exact((Below.refl _ _).alloc (Nat.le_refl _) _).alloc (by simp) _
 have hzk:W0.heap[z]?=some (.cells #[.int .i64 F.ext,vl,vm,vd,vv,vp,.slice Ao F.vols.length co] 35 (0,0)):=by
  rw[hW0,hz];exact(Below.heap_alloc _ _ _ (by simp)).trans (heap_alloc_new w _)
 have hzl:z<W0.heap.size:=(Array.getElem?_eq_some_iff.1 hzk).1
 have HC:=zh (fun(w':World) (hb:Below W0.heap.size W0 w')=>cells7 ((hb.block z hzl).trans hzk))
 have HV:=zh (fvalidate_any N hN vl vm vd vv vp _ F W0 (hf.below hb0) hok)
 have HIS:=zh (fun(w':World)=>iisStripe_any vl vm vd vv vp Ao F.vols.length co F.ext v s w' (by have:=hok.volN;omega))
 rw[hbad] at HIS
 obtain⟨EX,hEX⟩:=zx F.ext
 obtain⟨NO,hNO⟩:=zx F.vols.length
 rw[←hEX,←hNO] at HV HIS hW0 HC ⊢
 have HW0:=zh hW0
 have HZ:=zh hz
 have HY:=zh hy
 have HB0:=zh hb0
 obtain⟨c0,c1,c2,c3,c4,c5,c6⟩:=HC.out W0 (Below.refl _ _)
 clear hf hok hW0 hz hy hb0 hzk hzl hEX hNO hbad
 go_enter Tryz.func23,Tryz.ntmps23
 go_upto_region 1 with fail
 rw[←HW0.out,←HY.out,←HZ.out]
 go_wp2_with fail
 refine HV.out.mono ?_
 rintro e w1 ⟨rfl,hb1⟩
 have HB1:=zh hb1
 clear c0 c1 c2 c3 c4 c5 c6 hb1
 obtain⟨c0,c1,c2,c3,c4,c5,c6⟩:=HC.out w1 HB1.out
 go_wp2_with fail
 refine(HIS.out _).mono ?_
 rintro e w2 ⟨rfl,hb2⟩
 have HB2:=zh (HB1.out.trans (hb2.mono HB1.out.size))
 clear c0 c1 c2 c3 c4 c5 c6 hb2
 go_wp2_with fail
 go_ret2
 exact⟨rfl,HB0.out.trans (HB2.out.mono HB0.out.size)⟩
def RescP(F:FltM) (r:Re) (v s:Int) (w:World) (e:Ending) (w':World):Prop :=
 ∃u,e=.returned (.tuple #[u,.int .i64 (resS F r v s).2])∧OwnI w' w.heap.size u ((resS F r v s).1.map (fun x:Nat=>(x:Int)))∧Below w.heap.size w w'
theorem rescP_bad{F:FltM} {r:Re} {v s:Int} {w w':World} {e:Ending} (hbad:isStr F.vols.length F.ext v s=false) (h:e=.returned (.tuple #[.slice none 0 0,.int .i64 1])∧Below w.heap.size w w'):RescP F r v s w e w':=by
 unfold RescP
 rw[resS_arg hbad]
 exact⟨_,h.1,OwnI.nil _ _,h.2⟩
theorem str_nat{N:Nat} {F:FltM} (hok:FleetOk N F) {v s:Int} (h:isStr F.vols.length F.ext v s=true):∃(a b EX KN KM:Nat),v=(a:Int)∧s=(b:Int)∧a<F.vols.length∧F.ext=(EX:Int)∧b<EX∧kOf F a=(KN:Int)∧kOf F a+mOf F a=(KM:Int):=by
 obtain⟨h1,h2,h3,h4⟩:=of_decide_eq_true (show decide (0≤v∧v<(F.vols.length:Int)∧0≤s∧s<F.ext)=true from h)
 have hex:=hok.ext
 have ha:v.toNat<F.vols.length:=by omega
 obtain⟨kk,m1,m2,-,-⟩:=kmq_ok hok ha
 exact⟨v.toNat,s.toNat,F.ext.toNat,(kOf F v.toNat).toNat,(kOf F v.toNat+mOf F v.toNat).toNat,by omega,by omega,ha,by omega,by omega,by omega,by omega⟩
theorem rescue_any(N:Nat) (hN:N≤12) (vl vm vd vv vp vo vp0 vo0 va0:Value) (F:FltM) (r:Re) (v s:Int) (w:World) (hf:FleetS w (Bl w.heap.size) vl vm vd vv vp vo F) (hok:FleetOk N F) (h:ReS w (Bl w.heap.size) vp0 vo0 va0 r) (hp:r.plat.length≤24) (hl:∀l∈r.plat,l.length≤1000) (hac:r.acks.length≤1000000) :
  Calls Tryz.prog 23 #[.agg #[.int .i64 F.ext,vl,vm,vd,vv,vp,vo],.agg #[vp0,vo0,va0],.int .i64 v,.int .i64 s] w (RescP F r v s w):=by
 cases hb:isStr F.vols.length F.ext v s with
 | false=>exact(rescue_bad N hN vl vm vd vv vp vo vp0 vo0 va0 F v s w hf hok hb).mono fun e w' h=>rescP_bad hb h
 | true =>
  obtain⟨a,b,EX,KN,KM,rfl,rfl,h1,h2,h3,h4,h5⟩:=str_nat hok hb
  exact rescue_in N hN vl vm vd vv vp vo vp0 vo0 va0 F r a b EX KN KM w hf hok h hp hl hac h1 h2 h3 h4 h5
def srcC(r:Re) (up:Bool) (i:Int) (x:Fd):Bool:=x.p.frag==i&&(!up||onB r x.drive)
def idxC(r:Re) (up:Bool) (i:Int) (l:List Fd):Int:=match l.findIdx? (srcC r up i) with | some j=>(j:Int) | none => -1
theorem idxC_hit{r:Re} {up:Bool} {i:Int} {l:List Fd} {j:Nat} (hn:∀t (h:t<l.length),t<j→srcC r up i l[t]=false) (hj:j<l.length) (hb:srcC r up i l[j]=true):idxC r up i l=(j:Int):=by
 unfold idxC
 have:l.findIdx? (srcC r up i)=some j:=by
  rw[List.findIdx?_eq_some_iff_getElem]
  exact⟨hj,hb,fun t ht=>by rw[hn t (by omega) ht];simp⟩
 rw[this]
theorem idxC_miss{r:Re} {up:Bool} {i:Int} {l:List Fd} (hn:∀t (h:t<l.length),srcC r up i l[t]=false):idxC r up i l = -1:=by
 unfold idxC
 have:l.findIdx? (srcC r up i)=none:=by
  rw[List.findIdx?_eq_none_iff]
  intro x hx
  obtain⟨t,ht,rfl⟩:=List.getElem_of_mem hx
  exact hn t ht
 rw[this]
theorem con1_any(dr:Nat) (pa pb pc pg pr i:Int) (y:ByteArray) (up:Bool) (gi gu gr:Nat) (vp vo va:Value) (r:Re) (w:World) (hi:w.cell? ⟨gi,0,none⟩=some (.int .i64 i)) (hu:w.cell? ⟨gu,0,none⟩=some (.bool up)) (h0:w.cell? ⟨gr,0,none⟩=some vp) (h1:w.cell? ⟨gr,1,none⟩=some vo) (h2:w.cell? ⟨gr,2,none⟩=some va)
  (h:ReS w (Bl w.heap.size) vp vo va r) (hd:dr≤1048576) :
  Calls Tryz.prog 73 #[.agg #[.int .i64 (dr:Int),.int .i64 pa,.int .i64 pb,.int .i64 pc,.int .i64 pg,.int .i64 pr,.string y],.pointer (some ⟨gi,0,none⟩),.pointer (some ⟨gu,0,none⟩),.pointer (some ⟨gr,0,none⟩)] w fun e w'=>e=.returned (.bool (pb==i&&(!up||onB r dr)))∧Below w.heap.size w w':=by
 obtain⟨W0,hW0⟩:=zx (w.alloc (.cells #[.int .i64 (dr:Int),.int .i64 pa,.int .i64 pb,.int .i64 pc,.int .i64 pg,.int .i64 pr,.string y] 152))
 obtain⟨g,hg⟩:=zx w.heap.size
 have hb0:Below w.heap.size w W0:=by rw[hW0];exact(Below.refl _ _).alloc (Nat.le_refl _) _
 have n0:W0.cell? ⟨g,0,none⟩=some (.int .i64 (dr:Int)):=by rw[hW0,hg];simp
 have n2:W0.cell? ⟨g,2,none⟩=some (.int .i64 pb):=by rw[hW0,hg];simp
 have mv:∀b o x,w.cell? ⟨b,o,none⟩=some x→W0.cell? ⟨b,o,none⟩=some x:=fun b o x hx=>(hb0.cell (p:=⟨b,o,none⟩) (World.block_lt_of_cell? w _ hx)).trans hx
 have ki:=mv _ _ _ hi
 have ku:=mv _ _ _ hu
 have k0:=mv _ _ _ h0
 have k1:=mv _ _ _ h1
 have k2:=mv _ _ _ h2
 have HON:=zh (online_any vp vo va r dr W0 (h.below hb0) hd)
 have HW0:=zh hW0
 have HG:=zh hg
 have HB0:=zh hb0
 obtain⟨ob,hob⟩:=zx (onB r dr)
 rw[←hob] at HON ⊢
 clear hi hu h0 h1 h2 h hd hW0 hg hb0 mv hob
 cases hq:(pb==i) with
 | false =>
  go_enter Tryz.func73,Tryz.ntmps73
  go_upto_region 1 with fail
  rw[←HW0.out,←HG.out]
  go_wp2_with fail
  go_ret
  exact⟨rfl,HB0.out⟩
 | true =>
  cases up with
  | false =>
   go_enter Tryz.func73,Tryz.ntmps73
   go_upto_region 1 with fail
   rw[←HW0.out,←HG.out]
   go_wp2_with fail
   go_ret
   exact⟨rfl,HB0.out⟩
  | true =>
   go_enter Tryz.func73,Tryz.ntmps73
   go_upto_region 1 with fail
   rw[←HW0.out,←HG.out]
   go_wp2_with fail
   refine HON.out.mono ?_
   rintro e w1 ⟨rfl,hb1⟩
   have HB1:=zh (HB0.out.trans (hb1.mono HB0.out.size))
   clear hb1 n0 n2 ki ku k0 k1 k2
   go_wp2_with fail
   go_ret
   exact⟨by simp,HB1.out⟩
theorem indexf_any(vl:Value) (l:List Fd) (i:Int) (up:Bool) (gi gu gr:Nat) (vp vo va:Value) (r:Re) (w:World) (hl:SlS 7 FdK w (Bl w.heap.size) vl l) (hi:w.cell? ⟨gi,0,none⟩=some (.int .i64 i)) (hu:w.cell? ⟨gu,0,none⟩=some (.bool up)) (h0:w.cell? ⟨gr,0,none⟩=some vp) (h1:w.cell? ⟨gr,1,none⟩=some vo) (h2:w.cell? ⟨gr,2,none⟩=some va)
  (h:ReS w (Bl w.heap.size) vp vo va r) :
  Calls Tryz.prog 72 #[vl,.func (.func 73) #[] #[.pointer (some ⟨gi,0,none⟩),.pointer (some ⟨gu,0,none⟩),.pointer (some ⟨gr,0,none⟩)]] w fun e w'=>e=.returned (.int .i64 (idxC r up i l))∧Below w.heap.size w w':=by
 obtain⟨A,c,rfl,-,hm⟩:=hl.form
 unfold maxLen at hm
 have HL:=zh hl
 have mv:=fun(w':World) (hb:Below w.heap.size w w') b o x (hx:w.cell? ⟨b,o,none⟩=some x)=>(hb.cell (p:=⟨b,o,none⟩) (World.block_lt_of_cell? w _ hx)).trans hx
 have HCL:=zh (fun(w':World) (hb:Below w.heap.size w w') dr pa pb pc pg pr y (hd:dr≤1048576)=>con1_any dr pa pb pc pg pr i y up gi gu gr vp vo va r w' (mv w' hb _ _ _ hi) (mv w' hb _ _ _ hu) (mv w' hb _ _ _ h0) (mv w' hb _ _ _ h1) (mv w' hb _ _ _ h2) (h.below hb) hd)
 obtain⟨L,hL⟩:=zx l.length
 rw[←hL] at HL hm ⊢
 have HLL:=zh hL
 clear hl hi hu h0 h1 h2 h mv hL
 go_enter Tryz.func72,Tryz.ntmps72
 go_wp2_with fail
 go_loopg [8] L (fun z v8 wr=>∃j:Nat,j≤L∧z=L - j∧v8=.int .i64 (j:Int)∧Hid (∀t (h:t<l.length),t<j→srcC r up i l[t]=false)∧Hid (Below w.heap.size w wr))
 case atStart=>exact⟨0,by omega,rfl,rfl,fun t _ ht=>absurd ht (Nat.not_lt_zero t),Below.refl _ _⟩
 case round =>
  obtain⟨j,hj,rfl,rfl,HNO,HBR⟩:=hrel
  by_cases hlt:j<L
  ·have hjl:j<l.length:=by rw[←HLL.out];exact hlt
   obtain⟨b,off,cs,rfl,hRb,-,hcs,hfk,hdr⟩:=HL.out.at_ (k:=j) hjl
   obtain⟨k0,k1,k2,k3,k4,k5,k6⟩:=seven hcs hfk
   have hsv:srcC r up i l[j]=(l[j].p.frag==i&&(!up||onB r l[j].drive)):=rfl
   obtain⟨x,hx⟩:=zx (l[j])
   rw[←hx] at k0 k1 k2 k3 k4 k5 k6 hdr hsv
   have HX:=zh hx
   have kk:∀i u,w.cell? ⟨b,i,none⟩=some u→wr.cell? ⟨b,i,none⟩=some u:=fun i u e=>(HBR.out.cell (p:=⟨b,i,none⟩) hRb).trans e
   obtain⟨dr,⟨pa,pb,pc,pg,pr,px⟩⟩:=x
   simp only at k0 k1 k2 k3 k4 k5 k6 hdr hsv
   have m0:=kk _ _ k0
   have m1:=kk _ _ k1
   have m2:=kk _ _ k2
   have m3:=kk _ _ k3
   have m4:=kk _ _ k4
   have m5:=kk _ _ k5
   have m6:=kk _ _ k6
   obtain⟨y,hy⟩:∃y:ByteArray,y=⟨px.toArray⟩:=⟨_,rfl⟩
   rw[←hy] at m6
   have HC:=zh (HCL.out wr HBR.out dr pa pb pc pg pr y hdr)
   obtain⟨sb,hsb⟩:=zx ((pb==i&&(!up||onB r dr)))
   rw[←hsb] at HC hsv
   have HSV:=zh hsv
   clear hcs hfk hdr hsv hx kk k0 k1 k2 k3 k4 k5 k6 hy hsb hRb
   go_wp2_with fail
   refine HC.out.mono ?_
   rintro e w1 ⟨rfl,hb1⟩
   have HB1:=zh (HBR.out.trans (hb1.mono HBR.out.size))
   clear hb1 m0 m1 m2 m3 m4 m5 m6
   cases hs:sb with
   | true =>
    have HS:=zh hs
    go_wp2_with fail
    go_ret
    refine⟨?_,HB1.out⟩
    have hjl:j<l.length:=by rw[←HLL.out];exact hlt
    rw[idxC_hit HNO.out hjl (by rw[←HX.out,HSV.out];exact HS.out)]
    rfl
   | false =>
    have HS:=zh hs
    go_wp2_with fail
    go_roundg (L - (j+1))
    case measure=>omega
    case rel =>
     refine⟨j+1,by omega,rfl,by go_num,?_,HB1.out⟩
     intro t ht htj
     rcases Nat.lt_or_ge t j with h1 | h1
     ·exact HNO.out t ht h1
     ·obtain rfl:t=j:=by omega
      rw[←HX.out,HSV.out];exact HS.out
  ·obtain rfl:L=j:=by omega
   go_wp2_with fail
   go_ret
   refine⟨?_,HBR.out⟩
   rw[idxC_miss (fun t ht=>HNO.out t ht (by rw[HLL.out];exact ht))]
   rfl
end Go.Proofs.YtcfkllnpkmebpaaGreatDoor
