/- The reference's Rescue at a stripe of a made fleet, walked. -/
import Derived.Deep.MidRow
import Derived.Test.YtcfkllnpkmebpaaGreatDoorMh22
import Derived.Test.YtcfkllnpkmebpaaGreatDoorMh01
import Derived.Test.YtcfkllnpkmebpaaGreatDoorMh25
import Derived.Test.YtcfkllnpkmebpaaGreatDoorMh26
set_option maxRecDepth 100000
set_option maxHeartbeats 12800000
namespace Go.Proofs.YtcfkllnpkmebpaaGreatDoor
open Go.RowKit
set_option linter.unusedVariables false
set_option linter.unusedSimpArgs false
def offTo(r:Re) (v s:Int) (n d:Nat):List Nat:=(List.range d).filter fun d=>!onB r d&&(List.range n).any fun i:Nat=>hasP r d v (i:Int) s
theorem offTo_len(r:Re) (v s:Int) (n d:Nat):(offTo r v s n d).length≤d:=by
 unfold offTo
 exact Nat.le_trans (List.length_filter_le _ _) (by rw[List.length_range];exact Nat.le_refl _)
theorem offTo_lt(r:Re) (v s:Int) (n d:Nat):∀x∈offTo r v s n d,x<d:=fun x hx=>by
 unfold offTo at hx
 exact List.mem_range.1 (List.mem_filter.1 hx).1
theorem offTo_no{r:Re} {v s:Int} {n d:Nat} (h:(!onB r d&&(List.range n).any fun i:Nat=>hasP r d v (i:Int) s)=false):offTo r v s n (d+1)=offTo r v s n d:=by
 unfold offTo
 rw[List.range_succ,List.filter_append,List.filter_cons,h];simp
theorem offTo_yes{r:Re} {v s:Int} {n d:Nat} (h:(!onB r d&&(List.range n).any fun i:Nat=>hasP r d v (i:Int) s)=true):offTo r v s n (d+1)=offTo r v s n d++[d]:=by
 unfold offTo
 rw[List.range_succ,List.filter_append,List.filter_cons,h];simp
theorem okL_mem{n:Nat} {l:List Nat} (h:okL n l):∀x∈l,x<n:=fun x hx=>by
 rcases okL_cases h with ⟨i,rfl,h1⟩ | ⟨i,j,rfl,h1,h2⟩
 ·rw[List.mem_singleton] at hx;omega
 ·simp only[List.mem_cons,List.not_mem_nil,or_false] at hx;omega
theorem okL_range{n sz:Nat} (h1:1≤sz) (h2:sz≤2) (h:sz≤n):okL n (List.range sz):=by
 have:sz=1∨sz=2:=by omega
 rcases this with rfl | rfl
 ·show 0<n;omega
 ·show 0<1∧1<n;omega
theorem search_two{f:List Nat→Option (List Nat)} {RL:List Nat} {LO sz:Nat} (h:f [0]=some RL∨(f [0]=none∧2≤LO∧f [0,1]=some RL)) (h1:1≤sz) (h2:sz≤2) (h3:sz=2→f [0]=none) (hn:f (List.range sz)=none):sz=1∧2≤LO∧f [0]=none:=by
 have:sz=1∨sz=2:=by omega
 rcases this with rfl | rfl
 ·have hn1:f [0]=none:=hn
  rcases h with h | h
  ·rw[h] at hn1;cases hn1
  ·exact⟨rfl,h.2.1,hn1⟩
 ·have hn1:f [0,1]=none:=hn
  rcases h with h | h
  ·rw[h3 rfl] at h;cases h
  ·rw[h.2.2] at hn1;cases hn1
theorem search_one{f:List Nat→Option (List Nat)} {RL l:List Nat} {LO sz:Nat} (h:f [0]=some RL∨(f [0]=none∧2≤LO∧f [0,1]=some RL)) (h1:1≤sz) (h2:sz≤2) (h3:sz=2→f [0]=none) (hn:f (List.range sz)=some l):RL=l:=by
 have:sz=1∨sz=2:=by omega
 rcases this with rfl | rfl
 ·have hn1:f [0]=some l:=hn
  rcases h with h | h
  ·rw[h] at hn1;injection hn1
  ·rw[h.1] at hn1;cases hn1
 ·have hn1:f [0,1]=some l:=hn
  rcases h with h | h
  ·rw[h3 rfl] at h;cases h
  ·rw[h.2.2] at hn1;injection hn1
theorem rrescue_in(N:Nat) (hN:N≤12) (vl vm vd vv vp vo vp0 vo0 va0:Value) (F:FltM) (r:Re) (v s EX KN KM:Nat) (w:World) (hf:FleetS w (Bl w.heap.size) vl vm vd vv vp vo F) (hok:FleetOk N F) (h:ReS w (Bl w.heap.size) vp0 vo0 va0 r) (hp:r.plat.length≤24) (hl:∀l∈r.plat,l.length≤1000) (hac:r.acks.length≤1000000)
  (hv:v<F.vols.length) (hEX:F.ext=(EX:Int)) (hs:s<EX) (hKN:kOf F v=(KN:Int)) (hKM:kOf F v+mOf F v=(KM:Int)) :
  Calls Tryz.prog 24 #[.agg #[.int .i64 F.ext,vl,vm,vd,vv,vp,vo],.agg #[vp0,vo0,va0],.int .i64 (v:Int),.int .i64 (s:Int)] w fun e w'=>∃u,e=.returned (.tuple #[u,.int .i64 (resS F r (v:Int) (s:Int)).2])∧OwnI w' w.heap.size u ((resS F r (v:Int) (s:Int)).1.map (fun x:Nat=>(x:Int)))∧Below w.heap.size w w':=by
 have hkm4:(KN=1∨KN=2)∧KM≤4:=by
  obtain⟨kk,m1,m2,-,-⟩:=kmq_ok hok hv
  omega
 have hstr:isStr F.vols.length F.ext (v:Int) (s:Int)=true:=by unfold isStr;rw[decide_eq_true_eq];omega
 obtain⟨RS,hRS⟩:=zx (resS F r (v:Int) (s:Int))
 rw[←hRS]
 obtain⟨LB,hLB⟩:=zx (keyP F r (condR true) (v,s))
 obtain⟨AB,hAB⟩:=zx (keyP F r (condR false) (v,s))
 have HRES:=zh (show(LB=true→RS=([],121))∧(LB=false→AB=false→RS=([],110))∧(LB=false→AB=true→RS=(rescL r (v:Int) (s:Int) KM KN,0)∧KN≤((List.range KM).filter (anyF r (v:Int) (s:Int))).length∧cntS r (v:Int) (s:Int) KM []<KN) from by
  rw[hLB,hAB,hRS]
  refine⟨fun h1=>resS_lost hstr h1,fun h1 h2=>resS_state hstr h1 h2,fun h1 h2=>⟨resS_ok hKM hKN hstr h1 h2,?_⟩⟩
  obtain⟨k1,k2,-⟩:=key_away hKM hKN (by omega) h2
  exact⟨k1,k2⟩)
 obtain⟨pb,pof,ob,oof,cp,co,rfl,rfl,hRp,hRo,hPA⟩:=polAt hf hok
 obtain⟨Ap,cpl,rfl,-,-⟩:=h.1.form
 obtain⟨Ao,col,rfl,-,-⟩:=h.2.1.form
 obtain⟨Aa,cal,rfl,-,-⟩:=h.2.2.form
 obtain⟨vp0,hvp0⟩:=zx (Value.slice Ap r.plat.length cpl)
 obtain⟨vo0,hvo0⟩:=zx (Value.slice Ao r.on.length col)
 obtain⟨va0,hva0⟩:=zx (Value.slice Aa r.acks.length cal)
 rw[←hvp0,←hvo0,←hva0] at h ⊢
 have hon:∀(w':World),Below w.heap.size w w'→∀d:Nat,d<r.on.length→∃b off,Ao=some ⟨b,off,none⟩∧w'.cell? ⟨b,off+d,none⟩=some (.bool (onB r d)):=fun w' hb d hd=>by
  have h1:=h.2.1
  rw[hvo0] at h1
  obtain⟨b,off,cs,hA,hR,-,hc,hk⟩:=h1.at_ hd
  have hk':cs=[.bool r.on[d]]:=hk
  have hcell:=hc 0 (.bool r.on[d]) (by rw[hk'];rfl)
  simp only[Nat.mul_one,Nat.add_zero] at hcell
  have hE:onB r d=r.on[d]:=getD_lt _ _ hd
  exact⟨b,off,hA,by rw[hE];exact(hb.cell (p:=⟨b,off+d,none⟩) hR).trans hcell⟩
 obtain⟨NOL,hNOL⟩:=zx r.on.length
 rw[←hNOL] at hon hvo0
 have HNOL:=zh hNOL
 have HONC:=zh hon
 have HVO:=zh hvo0
 have HVA:=zh (fun(w':World) (hb:Below w.heap.size w w')=>rvalidate_any N hN vl vm vd vv _ _ F w' (hf.below hb) hok)
 have HLO0:=zh (fun(w':World) (hb:Below w.heap.size w w')=>rlost_any N hN vl vm vd vv _ _ vp0 vo0 va0 F r w' (hf.below hb) hok (h.below hb) (by omega) hl)
 obtain⟨GK,hGK⟩:∃g:List Bool→List (Nat×Nat),∀on,g on=keyL F ⟨r.plat,on,r.acks⟩ (condR false) F.ext.toNat F.vols.length 0:=⟨_,fun _=>rfl⟩
 have hun0:∀(on:List Bool) (vo1:Value) (w':World),Below w.heap.size w w'→ReS w' (Bl w'.heap.size) vp0 vo1 va0 ⟨r.plat,on,r.acks⟩→Calls Tryz.prog 38 #[.agg #[.int .i64 F.ext,vl,vm,vd,vv,.slice (some ⟨pb,pof,none⟩) F.pols.length cp,.slice (some ⟨ob,oof,none⟩) F.vols.length co],.agg #[vp0,vo1,va0]] w' fun e w2=>∃u,e=.returned u∧OwnKy w2 w'.heap.size u (GK on)∧Below w'.heap.size w' w2:=fun on vo1 w' hb h1=>by
  rw[hGK]
  exact runav_any N hN vl vm vd vv _ _ vp0 vo1 va0 F ⟨r.plat,on,r.acks⟩ w' (hf.below hb) hok h1 (by show r.plat.length≤1000;omega) hl
 have HUN0:=zh hun0
 have HGW:=zh (show AB=true→∀set:List Nat,decide ((v,s)∈GK ((List.range r.plat.length).map (fun d=>onB r d||decide (d∈set))))=!decide (KN≤cntS r (v:Int) (s:Int) KM set) from fun hab set=>by
  rw[hGK,keyL_dec F _ _ _ _ v s hv (by omega)]
  exact key_with hKM hKN (by omega) (by rw[←hAB];exact hab) set)
 have HRS:=zh (fun(w':World) (hb:Below w.heap.size w w')=>h.below hb)
 have HPI:=zh (fun(d i:Nat) (w':World) (hb:Below w.heap.size w w')=>refPiece_any vp0 vo0 va0 r d (v:Int) (i:Int) (s:Int) w' (h.below hb) (by omega) hl)
 have HWI:=zh (fun(set:List Nat) (vs:Value) (w':World) (hb:Below w.heap.size w w') (h1:IntS w' (Bl w'.heap.size) vs (set.map (fun x:Nat=>(x:Int))))=>with_any vp0 vo0 va0 vs r set w' (h.below hb) h1 (by omega))
 obtain⟨hpl,nm,hvol,a0,a4,a5,a6,a7,a8,a9,a10,a11,a12,a13,a14,a15,a16,hpol,hone⟩:=hPA v hv
 obtain⟨MM,hMM⟩:=zx (mOf F v)
 obtain⟨QQ,hQ⟩:=zx (qOf F v)
 obtain⟨p0,hpp⟩:=zx (volP F v)
 rw[hKN,←hMM,←hQ] at hpol hone
 rw[←hpp] at hvol hpl hpol
 rw[hKN,←hMM] at hKM
 have HKM:=zh (show(KN=1∨KN=2)∧(KN:Int)+MM=(KM:Int)∧KM≤4 from⟨hkm4.1,hKM,hkm4.2⟩)
 have hex:EX≤2:=by have:=hok.ext;omega
 have hno:=hok.volN
 have hnp:=hok.polN
 obtain⟨KL1,hKL1⟩:=zx (keyL F r (condR true) F.ext.toNat F.vols.length 0)
 have HK12:=zh (show decide ((v,s)∈KL1)=LB∧decide ((v,s)∈GK r.on)=AB from by
  rw[hKL1,hGK,hLB,hAB]
  exact⟨keyL_dec F r _ _ _ v s hv (by omega),keyL_dec F r _ _ _ v s hv (by omega)⟩)
 rw[←hKL1] at HLO0
 rw[hEX] at HVA HLO0 HUN0 ⊢
 obtain⟨NO,hNO⟩:=zx F.vols.length
 obtain⟨NP,hNP⟩:=zx F.pols.length
 obtain⟨NPL,hNPL⟩:=zx r.plat.length
 rw[←hNO] at hno hv HVA HLO0 HUN0 ⊢
 rw[←hNP] at hnp hpl HVA HLO0 HUN0 ⊢
 rw[←hNPL] at hp hvp0
 have HNPL:=zh hNPL
 obtain⟨W0,hW0⟩:=zx ((w.alloc (.cells #[.int .i64 (EX:Int),vl,vm,vd,vv,.slice (some ⟨pb,pof,none⟩) NP cp,.slice (some ⟨ob,oof,none⟩) NO co] 35)).alloc (.cells #[vp0,vo0,va0] 40))
 obtain⟨z,hz⟩:=zx w.heap.size
 obtain⟨y,hy⟩:=zx (w.heap.size+1)
 have hb0:Below w.heap.size w W0:=by rw[hW0];exact((Below.refl _ _).alloc (Nat.le_refl _) _).alloc (by simp) _
 have hyk:W0.heap[y]?=some (.cells #[vp0,vo0,va0] 40 (0,0)):=by
  rw[hW0];exact heap_alloc_at _ _ _ (by rw[hy];simp)
 have hzk:W0.heap[z]?=some (.cells #[.int .i64 (EX:Int),vl,vm,vd,vv,.slice (some ⟨pb,pof,none⟩) NP cp,.slice (some ⟨ob,oof,none⟩) NO co] 35 (0,0)):=by
  rw[hW0,hz];exact(Below.heap_alloc _ _ _ (by simp)).trans (heap_alloc_new w _)
 have hyl:y<W0.heap.size:=(Array.getElem?_eq_some_iff.1 hyk).1
 have hzl:z<W0.heap.size:=(Array.getElem?_eq_some_iff.1 hzk).1
 have HC:=zh (fun(w':World) (hb:Below W0.heap.size W0 w')=>And.intro (cells7 ((hb.block z hzl).trans hzk)) (cells3 ((hb.block y hyl).trans hyk)))
 have HRE:=zh (fun(w':World) (hb:Below W0.heap.size W0 w')=>hb0.trans (hb.mono hb0.size))
 have HW0:=zh hW0
 have HZ:=zh hz
 have HY:=zh hy
 have HB0:=zh hb0
 have HVOL:=zh (fun(w':World) (hb:Below W0.heap.size W0 w')=>(show w'.cell? ⟨ob,oof+v * 2+1,none⟩=some (.int .i64 (p0:Int)) from range_same hvol ((hb0.trans (hb.mono hb0.size)).block ob hRo) 1 _ rfl))
 have HVO2:=zh (fun(w':World) (hb:Below W0.heap.size W0 w')=>(show w'.rangeAt ob (oof+v * 2) [.string nm,.int .i64 (p0:Int)] from range_same hvol ((hb0.trans (hb.mono hb0.size)).block ob hRo)))
 have HPV:=zh hpl
 have HPOL:=zh (fun(w':World) (hb:Below W0.heap.size W0 w')=>(show w'.rangeAt pb (pof+p0 * 17) [a0,.int .i64 (KN:Int),.int .i64 MM,.int .i64 QQ,a4,a5,a6,a7,a8,a9,a10,a11,a12,a13,a14,a15,a16] from range_same hpol ((hb0.trans (hb.mono hb0.size)).block pb hRp)))
 have HON:=zh hone
 have HVP:=zh hvp0
 have i1:(v:Int)<(NO:Int):=by omega
 have i2:(p0:Int)<(NP:Int):=by omega
 have i3:(KN:Int)≤2:=by omega
 have i4:(1:Int)≤(KN:Int):=by omega
 have i5:(KM:Int)≤4:=by have:=HKM.out;omega
 have i6:(NPL:Int)≤24:=by omega
 have hkw:IntKind.i64.wrap ((KN:Int)+MM)=(KM:Int):=by rw[HKM.out.2.1];exact IntWalk.i64_in _ (by omega)
 have hkm:(KN:Int)+MM=(KM:Int):=HKM.out.2.1
 obtain⟨⟨c0,c1,c2,c3,c4,c5,c6⟩,-⟩:=HC.out W0 (Below.refl _ _)
 clear hf hok h hPA hRp hRo hvol hpol hone hW0 hz hy hb0 hyk hzk hyl hzl hNO hNP hEX hKN hMM hQ hpp hpl hKM hstr hRS hLB hAB hKL1 hGK hun0 hNPL hvp0 hvo0 hva0 hon hNOL hkm4 hl hac
 go_enter Tryz.func24,Tryz.ntmps24
 go_wp2_with fail
 rw[←HW0.out,←HY.out,←HZ.out]
 refine(HVA.out _ HB0.out).mono ?_
 rintro e w0 ⟨rfl,hb00⟩
 have HB00:=zh hb00
 clear c0 c1 c2 c3 c4 c5 c6 hb00
 obtain⟨⟨c0,c1,c2,c3,c4,c5,c6⟩,y0,-⟩:=HC.out w0 HB00.out
 rw[HVP.out] at y0
 obtain⟨w1,hw1⟩:=zx w0
 rw[←hw1] at HB00 c0 c1 c2 c3 c4 c5 c6 y0
 have HB1:=zh HB00.out
 subst hw1
 obtain⟨W3,hW3⟩:=zx (w1.alloc (.cells #[.int .i64 (v:Int),.int .i64 (s:Int)] 67))
 obtain⟨kyb,hkyb⟩:=zx w1.heap.size
 have hb3:Below w1.heap.size w1 W3:=by rw[hW3];exact(Below.refl _ _).alloc (Nat.le_refl _) _
 have hgkk:W3.heap[kyb]?=some (.cells #[.int .i64 (v:Int),.int .i64 (s:Int)] 67 (0,0)):=by
  rw[hW3,hkyb];exact heap_alloc_new w1 _
 have HB3:=zh (HB1.out.trans (hb3.mono HB1.out.size))
 have hgkl:kyb<W3.heap.size:=(Array.getElem?_eq_some_iff.1 hgkk).1
 have HS4:=zh (fun(w':World) (hb:Below W3.heap.size W3 w')=>(show w'.cell? ⟨z,0,none⟩=some (.int .i64 (EX:Int))∧w'.cell? ⟨z,1,none⟩=some vl∧w'.cell? ⟨z,2,none⟩=some vm∧w'.cell? ⟨z,3,none⟩=some vd∧w'.cell? ⟨z,4,none⟩=some vv∧w'.cell? ⟨z,5,none⟩=some (.slice (some ⟨pb,pof,none⟩) NP cp)∧w'.cell? ⟨z,6,none⟩=some (.slice (some ⟨ob,oof,none⟩) NO co)∧w'.cell? ⟨y,0,none⟩=some vp0∧w'.cell? ⟨y,1,none⟩=some vo0∧w'.cell? ⟨y,2,none⟩=some va0∧w'.cell? ⟨kyb,0,none⟩=some (.int .i64 (v:Int))∧w'.cell? ⟨kyb,1,none⟩=some (.int .i64 (s:Int))∧Below W3.heap.size W3 w' from by
  obtain⟨⟨x0,x1,x2,x3,x4,x5,x6⟩,y0,y1,y2,-⟩:=HC.out w' (HB3.out.trans (hb.mono HB3.out.size))
  have hk:=(hb.block kyb hgkl).trans hgkk
  exact⟨x0,x1,x2,x3,x4,x5,x6,y0,y1,y2,by rw[cell_of_row _ _ _ _ _ _ hk];rfl,by rw[cell_of_row _ _ _ _ _ _ hk];rfl,hb⟩))
 have HLO:=zh (fun(w':World) (hb:Below W3.heap.size W3 w')=>HLO0.out w' (HRE.out w' (HB3.out.trans (hb.mono HB3.out.size))))
 have HUN:=zh (fun(w':World) (hb:Below W3.heap.size W3 w')=>HUN0.out r.on vo0 w' (HRE.out w' (HB3.out.trans (hb.mono HB3.out.size))) (HRS.out w' (HRE.out w' (HB3.out.trans (hb.mono HB3.out.size)))))
 have HW3:=zh hW3
 have HGK:=zh hkyb
 clear hW3 hkyb hb3 hgkk hgkl
 go_upto_region 4 with fail
 rw[←HW3.out,←HGK.out]
 clear y0
 refine region_tail (S:=(fun w'=>w'.cell? ⟨z,0,none⟩=some (.int .i64 (EX:Int))∧w'.cell? ⟨z,1,none⟩=some vl∧w'.cell? ⟨z,2,none⟩=some vm∧w'.cell? ⟨z,3,none⟩=some vd∧w'.cell? ⟨z,4,none⟩=some vv∧w'.cell? ⟨z,5,none⟩=some (.slice (some ⟨pb,pof,none⟩) NP cp)∧w'.cell? ⟨z,6,none⟩=some (.slice (some ⟨ob,oof,none⟩) NO co)∧w'.cell? ⟨y,0,none⟩=some vp0∧w'.cell? ⟨y,1,none⟩=some vo0∧w'.cell? ⟨y,2,none⟩=some va0∧w'.cell? ⟨kyb,0,none⟩=some (.int .i64 (v:Int))∧w'.cell? ⟨kyb,1,none⟩=some (.int .i64 (s:Int))∧Below W3.heap.size W3 w')) [] (by kernel_rfl) (HS4.out _ ((Below.refl W3.heap.size W3).drew)) (fun hHeld=>?_)
 refine tk 0 57 ?_
 refine tk 1 58 ?_
 refine tk 3 60 ?_
 refine readyT (rs:=[2]) (by kernel_rfl) (by simp) ?_
 refine AllReadyT.cons rfl (fun K hK=>?_) ?_
 ·go_simp
  refine(HLO.out _ (Below.refl W3.heap.size W3).drew).mono ?_
  rintro e wc ⟨u,rfl,ho,hb4⟩
  have hb5:=((Below.refl W3.heap.size W3).drew).trans (hb4.mono ((Below.refl W3.heap.size W3).drew).size)
  have hS5:=HS4.out _ hb5
  refine hK.out _ _ ?_ (fun hHeld=>?_)
  ·(first|exact hS7|exact hS5)
  clear hK K
  (try simp only[Act.put,z1,z2,z3])
  refine readyT (rs:=[4]) (by kernel_rfl) (by simp) ?_
  refine AllReadyT.cons rfl (fun K hK=>?_) ?_
  ·go_simp
   have hkc:=in_any u KL1 v s _ _ (ho.slS) (fun b h=>h.2)
   rw[HK12.out.1] at hkc
   refine hkc.mono ?_
   rintro e wd ⟨rfl,hb6⟩
   have hb7:=hb5.trans (hb6.mono hb5.size)
   have hS7:=HS4.out _ hb7
   refine hK.out _ _ ?_ (fun hHeld=>?_)
   ·(first|exact hS7|exact hS5)
   clear hK K
   (try simp only[Act.put,z1,z2,z3])
   refine doneT (by kernel_rfl) ?_ _
   obtain⟨w5,hw5⟩:=zx wd
   rw[←hw5] at hb7 ⊢
   have HB5:=zh hb7
   subst hw5
   clear hHeld hS5 hS7 hb4 hb5 hb6 hb7 ho
   cases LB with
   | true =>
    go_wp2_with fail
    go_ret2
    rw[HRES.out.1 (by simp)]
    exact⟨_,rfl,OwnI.nil _ _,HB0.out.trans ((HB3.out.trans (HB5.out.mono HB3.out.size)).mono HB0.out.size)⟩
   | false =>
    go_upto_region 6 with fail
    refine region_tail (S:=(fun w'=>w'.cell? ⟨z,0,none⟩=some (.int .i64 (EX:Int))∧w'.cell? ⟨z,1,none⟩=some vl∧w'.cell? ⟨z,2,none⟩=some vm∧w'.cell? ⟨z,3,none⟩=some vd∧w'.cell? ⟨z,4,none⟩=some vv∧w'.cell? ⟨z,5,none⟩=some (.slice (some ⟨pb,pof,none⟩) NP cp)∧w'.cell? ⟨z,6,none⟩=some (.slice (some ⟨ob,oof,none⟩) NO co)∧w'.cell? ⟨y,0,none⟩=some vp0∧w'.cell? ⟨y,1,none⟩=some vo0∧w'.cell? ⟨y,2,none⟩=some va0∧w'.cell? ⟨kyb,0,none⟩=some (.int .i64 (v:Int))∧w'.cell? ⟨kyb,1,none⟩=some (.int .i64 (s:Int))∧Below W3.heap.size W3 w')) [] (by kernel_rfl) (HS4.out _ (HB5.out.drew)) (fun hHeld=>?_)
    refine tk 0 62 ?_
    refine tk 1 63 ?_
    refine tk 3 65 ?_
    refine readyT (rs:=[2]) (by kernel_rfl) (by simp) ?_
    refine AllReadyT.cons rfl (fun K hK=>?_) ?_
    ·go_simp
     refine(HUN.out _ HB5.out.drew).mono ?_
     rintro e wc ⟨u,rfl,ho,hb4⟩
     have hb5:=(HB5.out.drew).trans (hb4.mono (HB5.out.drew).size)
     have hS5:=HS4.out _ hb5
     refine hK.out _ _ ?_ (fun hHeld=>?_)
     ·(first|exact hS7|exact hS5)
     clear hK K
     (try simp only[Act.put,z1,z2,z3])
     refine readyT (rs:=[4]) (by kernel_rfl) (by simp) ?_
     refine AllReadyT.cons rfl (fun K hK=>?_) ?_
     ·go_simp
      have hkc:=in_any u (GK r.on) v s _ _ (ho.slS) (fun b h=>h.2)
      rw[HK12.out.2] at hkc
      refine hkc.mono ?_
      rintro e wd ⟨rfl,hb6⟩
      have hb7:=hb5.trans (hb6.mono hb5.size)
      have hS7:=HS4.out _ hb7
      refine hK.out _ _ ?_ (fun hHeld=>?_)
      ·(first|exact hS7|exact hS5)
      clear hK K
      (try simp only[Act.put,z1,z2,z3])
      refine tk 5 67 ?_
      refine doneT (by kernel_rfl) ?_ _
      obtain⟨w7,hw7⟩:=zx wd
      rw[←hw7] at hb7 ⊢
      have HB7:=zh hb7
      subst hw7
      clear hHeld hS5 hS7 hb4 hb5 hb6 hb7 ho
      cases AB with
      | false =>
       go_wp2_with fail
       go_ret2
       rw[HRES.out.2.1 (by simp) (by simp)]
       exact⟨_,rfl,OwnI.nil _ _,HB0.out.trans ((HB3.out.trans (HB7.out.mono HB3.out.size)).mono HB0.out.size)⟩
      | true =>
       obtain⟨hrs,hk1,hk2⟩:=HRES.out.2.2 (by simp) (by simp)
       have HRSL:=zh hrs
       have HK1:=zh (And.intro hk1 hk2)
       clear hrs hk1 hk2 HRES
       have HPO:=zh (fun(w':World) (hb:Below W0.heap.size W0 w')=>rpolicy44_any (EX:Int) (KN:Int) MM QQ vl vm vd vv a0 a4 a5 a6 a7 a8 a9 a10 a11 a12 a13 a14 a15 a16 nm pb pof ob oof NP NO cp co v p0 w' hv HPV.out (by omega) (by omega) (HVO2.out w' hb) (HPOL.out w' hb) HON.out)
       have HB07:=zh (HB3.out.trans (HB7.out.mono HB3.out.size))
       obtain⟨⟨c0,c1,c2,c3,c4,c5,c6⟩,-⟩:=HC.out w7 HB07.out
       go_wp2_with fail
       refine(HPO.out _ HB07.out).mono ?_
       rintro e w8 ⟨rfl,hb8⟩
       clear c0 c1 c2 c3 c4 c5 c6
       have HTH:=zh (show(w8.alloc (.cells #[.string ⟨#[]⟩,.int .i64 0,.int .i64 0,.int .i64 0,.int .i64 0,.int .i64 0,.int .i64 0,.int .i64 0,.int .i64 0,.slice none 0 0,.slice none 0 0,.bool false,.slice none 0 0,.slice none 0 0,.bool false,.slice none 0 0,.slice none 0 0] 85)).there w8.heap.size 0 17 from there_of_block (w:=w8.alloc (.cells #[.string ⟨#[]⟩,.int .i64 0,.int .i64 0,.int .i64 0,.int .i64 0,.int .i64 0,.int .i64 0,.int .i64 0,.int .i64 0,.slice none 0 0,.slice none 0 0,.bool false,.slice none 0 0,.slice none 0 0,.bool false,.slice none 0 0,.slice none 0 0] 85)) (cs:=#[.string ⟨#[]⟩,.int .i64 0,.int .i64 0,.int .i64 0,.int .i64 0,.int .i64 0,.int .i64 0,.int .i64 0,.int .i64 0,.slice none 0 0,.slice none 0 0,.bool false,.slice none 0 0,.slice none 0 0,.bool false,.slice none 0 0,.slice none 0 0]) (heap_alloc_new w8 _) (Nat.le_refl 17))
       obtain⟨W9,hW9⟩:=zx (World.setCells (w8.alloc (.cells #[.string ⟨#[]⟩,.int .i64 0,.int .i64 0,.int .i64 0,.int .i64 0,.int .i64 0,.int .i64 0,.int .i64 0,.int .i64 0,.slice none 0 0,.slice none 0 0,.bool false,.slice none 0 0,.slice none 0 0,.bool false,.slice none 0 0,.slice none 0 0] 85)) w8.heap.size 0 [a0,.int .i64 (KN:Int),.int .i64 MM,.int .i64 QQ,a4,a5,a6,a7,a8,a9,a10,a11,a12,a13,a14,a15,a16])
       obtain⟨gp,hgp⟩:=zx w8.heap.size
       have hb9:Below w8.heap.size w8 W9:=by rw[hW9];exact below_setCellsV (Nat.le_refl _) _ _ _ ((Below.refl _ _).alloc (Nat.le_refl _) _)
       have hgr:W9.rangeAt gp 0 [a0,.int .i64 (KN:Int),.int .i64 MM,.int .i64 QQ,a4,a5,a6,a7,a8,a9,a10,a11,a12,a13,a14,a15,a16]:=by rw[hW9,hgp];exact World.rangeAt_setCells_same _ _ _ _ HTH.out
       have HGP:=zh (fun(w':World) (hb:Below W9.heap.size W9 w')=>(show w'.cell? ⟨gp,1,none⟩=some (.int .i64 (KN:Int))∧w'.cell? ⟨gp,2,none⟩=some (.int .i64 MM) from
        have hl:=World.block_lt_of_cell? W9 _ (hgr 0 _ rfl)
        ⟨range_same hgr (hb.block gp hl) 1 _ rfl,range_same hgr (hb.block gp hl) 2 _ rfl⟩))
       have hb79:Below w7.heap.size w7 W9:=hb8.trans (hb9.mono hb8.size)
       have HB39:=zh (HB7.out.trans (hb79.mono HB7.out.size))
       have HB9:=zh (HB3.out.trans (HB39.out.mono HB3.out.size))
       have HW9:=zh hW9
       have HGG:=zh hgp
       clear hW9 hgp hb8 hb9 hb79 hgr
       go_upto_region 10 with (refine wpList_store_mid rfl 85 (.tmp 12) (.tmp 70) rfl w8.heap.size 0 #[a0,.int .i64 (KN:Int),.int .i64 MM,.int .i64 QQ,a4,a5,a6,a7,a8,a9,a10,a11,a12,a13,a14,a15,a16] (by rfl) (by rfl) HTH.out size_pol HON.out ?_;rw[←HW9.out,←HGG.out])
       clear HTH
       clear HRS HLO HUN
       go_wp2_with fail
       go_loopg [11,13] NPL (fun z v11 v13 wr=>∃(d:Nat) (L:List Nat),v13=.int .i64 (d:Int)∧d≤NPL∧z=NPL - d∧Hid (L=offTo r (v:Int) (s:Int) KM d)∧Hid (OwnI wr W9.heap.size v11 (L.map (fun x:Nat=>(x:Int))))∧Hid (Below W9.heap.size W9 wr))
       case atStart=>exact⟨0,[],rfl,Nat.zero_le _,rfl,zh rfl,zh (OwnI.nil _ _),zh (Below.refl _ _)⟩
       case round =>
        obtain⟨d,L,rfl,hd,rfl,HLD,HO,HB⟩:=hrel
        have HR0:=zh (HB9.out.trans (HB.out.mono HB9.out.size))
        obtain⟨-,y0,-⟩:=HC.out wr HR0.out
        rw[HVP.out] at y0
        by_cases hlt:d<NPL
        ·have HLT:=zh hlt
         have hls:L.length≤d:=by rw[HLD.out];exact offTo_len _ _ _ _ _
         obtain⟨n0,hn0⟩:=zx L.length
         obtain⟨Al,cl,hv11⟩:=HO.out.form
         rw[List.length_map,←hn0] at hv11
         subst hv11
         rw[←hn0] at hls
         have HN0:=zh (show(L.map (fun x:Nat=>(x:Int))).length=n0 from by rw[List.length_map,hn0])
         clear hn0
         go_wp2_with fail
         clear y0
         go_loopg [14,15] KM (fun z v14 v15 wr=>∃(i:Nat) (b:Bool),v15=.int .i64 (i:Int)∧v14=.bool b∧i≤KM∧z=KM - i∧Hid (b=(List.range i).any (fun i:Nat=>hasP r d (v:Int) (i:Int) (s:Int)))∧Hid (OwnI wr W9.heap.size (.slice Al n0 cl) (L.map (fun x:Nat=>(x:Int))))∧Hid (Below W9.heap.size W9 wr))
         case atStart=>exact⟨0,false,rfl,rfl,Nat.zero_le _,rfl,zh rfl,HO,HB⟩
         case round =>
          clear HO HB HR0
          obtain⟨i,b,rfl,rfl,hi,rfl,HBE,HO,HB⟩:=hrel
          have HR0:=zh (HB9.out.trans (HB.out.mono HB9.out.size))
          obtain⟨-,y0,y1,y2,-⟩:=HC.out wr HR0.out
          obtain⟨p1,p2⟩:=HGP.out wr HB.out
          by_cases hlti:i<KM
          ·have hpx:=HPI.out d i wr (HRE.out wr HR0.out)
           obtain⟨q,hq⟩:=zx (hasP r d (v:Int) (i:Int) (s:Int))
           rw[←hq] at hpx
           have HPX:=zh hpx
           have HQ:=zh hq
           have HLTI:=zh hlti
           clear hpx hq
           cases b with
           | true =>
            go_wp2_with (go_at_call 64;refine HPX.out.mono ?_;rintro e w5 ⟨u,rfl,hb5⟩;have HB5x:=zh hb5;clear hb5)
            go_roundg (KM - (i+1))
            case measure=>have:=HLTI.out;omega
            case rel=>exact⟨i+1,true,by go_num,rfl,by have:=HLTI.out;omega,rfl,zh (by have h1:=HBE.out;rw[List.range_succ,List.any_append,←h1];rfl),zh (HO.out.below HB5x.out),zh (HB.out.trans (HB5x.out.mono HB.out.size))⟩
           | false =>
            go_wp2_with (go_at_call 64;refine HPX.out.mono ?_;rintro e w5 ⟨u,rfl,hb5⟩;have HB5x:=zh hb5;clear hb5)
            go_roundg (KM - (i+1))
            case measure=>have:=HLTI.out;omega
            case rel=>exact⟨i+1,q,by go_num,rfl,by have:=HLTI.out;omega,rfl,zh (by have h1:=HBE.out;rw[List.range_succ,List.any_append,←h1,HQ.out];simp),zh (HO.out.below HB5x.out),zh (HB.out.trans (HB5x.out.mono HB.out.size))⟩
          ·obtain rfl:KM=i:=by omega
           clear y0 y2
           have HOW:=zh (show wr.ownsRow W9.heap.size 3 1 (.slice Al n0 cl) n0 ((L.map (fun x:Nat=>(x:Int))).map (Value.int .i64)) from by have h1:=HO.out;unfold OwnI at h1;rw[HN0.out] at h1;exact h1)
           cases b with
           | false =>
            have HNO:=zh (offTo_no (r:=r) (v:=(v:Int)) (s:=(s:Int)) (n:=KM) (d:=d) (by have h1:=HBE.out;rw[←h1];simp))
            go_wp2_with fail
            go_roundg (NPL - (d+1))
            case measure=>have:=HLT.out;omega
            case rel=>exact⟨d+1,L,by go_num,by have:=HLT.out;omega,rfl,zh (by rw[HNO.out];exact HLD.out),HO,HB⟩
           | true =>
            by_cases hdo:d<NOL
            ·obtain⟨bb,bo,hA,hc⟩:=HONC.out wr (HRE.out wr HR0.out) d hdo
             obtain⟨ob2,hob2⟩:=zx (onB r d)
             rw[←hob2] at hc
             rw[HVO.out,hA] at y1
             have HOB:=zh hob2
             have HDO:=zh hdo
             have hdi:(d:Int)<(NOL:Int):=by omega
             clear hA hob2
             cases ob2 with
             | true =>
              have HNO:=zh (offTo_no (r:=r) (v:=(v:Int)) (s:=(s:Int)) (n:=KM) (d:=d) (by have h1:=HOB.out;rw[←h1];simp))
              go_wp2_with fail
              go_roundg (NPL - (d+1))
              case measure=>have:=HLT.out;omega
              case rel=>exact⟨d+1,L,by go_num,by have:=HLT.out;omega,rfl,zh (by rw[HNO.out];exact HLD.out),HO,HB⟩
             | false =>
              have HYES:=zh (offTo_yes (r:=r) (v:=(v:Int)) (s:=(s:Int)) (n:=KM) (d:=d) (by have h1:=HOB.out;have h2:=HBE.out;rw[←h1,←h2];rfl))
              go_wp2_with (at_builtin;refine app_i (d:Int) (.tmp 116) (.tmp 118) rfl rfl W9.heap.size (.slice Al n0 cl) n0 (L.map (fun x:Nat=>(x:Int))) HN0.out (by rfl) HOW.out (by rfl) (by have:=HLT.out;omega) HB.out.size ?_;intro v5 w5 hown5 hg5 hat5;have HO5:=zh hown5;have HG5:=zh hg5;clear hown5 hg5 hat5)
              go_roundg (NPL - (d+1))
              case measure=>have:=HLT.out;omega
              case rel=>exact⟨d+1,L++[d],by go_num,by have:=HLT.out;omega,rfl,zh (by rw[HYES.out,HLD.out]),zh (by rw[List.map_append];exact HO5.out),zh (HB.out.grown HG5.out HB.out.size (fun b e=>(HO.out.lt b e).1))⟩
            ·have hon0:onB r d=false:=by unfold onB;rw[List.getD,List.getElem?_eq_none (by have:=HNOL.out;omega)];rfl
             have HYES:=zh (offTo_yes (r:=r) (v:=(v:Int)) (s:=(s:Int)) (n:=KM) (d:=d) (by have h2:=HBE.out;rw[hon0,←h2];rfl))
             rw[HVO.out] at y1
             have hdi:(NOL:Int)≤(d:Int):=by omega
             clear hon0
             go_wp2_with (at_builtin;refine app_i (d:Int) (.tmp 116) (.tmp 118) rfl rfl W9.heap.size (.slice Al n0 cl) n0 (L.map (fun x:Nat=>(x:Int))) HN0.out (by rfl) HOW.out (by rfl) (by have:=HLT.out;omega) HB.out.size ?_;intro v5 w5 hown5 hg5 hat5;have HO5:=zh hown5;have HG5:=zh hg5;clear hown5 hg5 hat5)
             go_roundg (NPL - (d+1))
             case measure=>have:=HLT.out;omega
             case rel=>exact⟨d+1,L++[d],by go_num,by have:=HLT.out;omega,rfl,zh (by rw[HYES.out,HLD.out]),zh (by rw[List.map_append];exact HO5.out),zh (HB.out.grown HG5.out HB.out.size (fun b e=>(HO.out.lt b e).1))⟩
        ·obtain rfl:NPL=d:=by omega
         have hplan:=find_plan (r:=r) (v:=(v:Int)) (s:=(s:Int)) (n:=KM) (K:=KN) HKM.out.1 HK1.out.1 HK1.out.2
         have hLO2:offD r (v:Int) (s:Int) KM=L:=by rw[HLD.out,HNPL.out];rfl
         rw[hLO2] at hplan
         obtain⟨hpl1,hpl2⟩:=hplan
         obtain⟨LO,hLO⟩:=zx L.length
         obtain⟨Al,cl,hv11⟩:=HO.out.form
         rw[List.length_map,←hLO] at hv11
         subst hv11
         have hlo24:LO≤24:=by
          have h1:=offTo_len r (v:Int) (s:Int) KM NPL
          rw[←HLD.out,←hLO] at h1
          omega
         have HL24:=zh (show ∀x∈L,x<24 from fun x hx=>by rw[HLD.out] at hx;have:=offTo_lt _ _ _ _ _ x hx;omega)
         rw[←hLO] at hpl1 hpl2
         obtain⟨RL,hRL⟩:=zx (rescL r (v:Int) (s:Int) KM KN)
         have HT:=zh (show fromL r (v:Int) (s:Int) KM KN L [0]=some RL∨(fromL r (v:Int) (s:Int) KM KN L [0]=none∧2≤LO∧fromL r (v:Int) (s:Int) KM KN L [0,1]=some RL) from by
          rcases hpl2 with ⟨l,h1,h2⟩ | ⟨h1,h2,l,h3,h4⟩
          ·left;rw[hRL,h2];exact h1
          ·right;refine⟨h1,h2,?_⟩;rw[hRL,h4];exact h3)
         have HRL:=zh (show RS=(RL,0) from by rw[hRL];exact HRSL.out)
         have HLO:=zh hLO
         obtain⟨W10,hW10⟩:=zx wr
         subst hW10
         clear hLO2 hpl2 hLO hRL
         go_wp2_with fail
         clear y0
         go_loopg [18] 2 (fun z v18 wr=>∃sz:Nat,v18=.int .i64 (sz:Int)∧1≤sz∧sz≤2∧z=3 - sz∧sz≤LO∧Hid (sz=2→fromL r (v:Int) (s:Int) KM KN L [0]=none)∧Hid (Below W10.heap.size W10 wr))
         case atStart=>exact⟨1,rfl,Nat.le_refl _,by omega,rfl,hpl1,zh (fun h=>by omega),zh (Below.refl _ _)⟩
         case round =>
          obtain⟨sz,rfl,hs1,hs2,rfl,hsl,HS2,HB10⟩:=hrel
          have hle:(sz:Int)≤(LO:Int):=by omega
          go_wp2_with fail
          go_loopg [19,20] sz (fun z v19 v20 wr=>∃k:Nat,v20=.int .i64 (k:Int)∧k≤sz∧z=sz - k∧Hid (OwnI wr W10.heap.size v19 ((List.range k).map (fun x:Nat=>(x:Int))))∧Hid (Below W10.heap.size W10 wr))
          case atStart=>exact⟨0,rfl,Nat.zero_le _,rfl,zh (OwnI.nil _ _),HB10⟩
          case round =>
           clear HB10
           obtain⟨k,rfl,hk,rfl,HA,HB10⟩:=hrel
           by_cases hlk:k<sz
           ·obtain⟨A2,c2,hv19⟩:=HA.out.form
            rw[List.length_map,List.length_range] at hv19
            subst hv19
            have HAW:=zh (show wr.ownsRow W10.heap.size 3 1 (.slice A2 k c2) k (((List.range k).map (fun x:Nat=>(x:Int))).map (Value.int .i64)) from by have h1:=HA.out;unfold OwnI at h1;rw[List.length_map,List.length_range] at h1;exact h1)
            go_wp2_with (at_builtin;refine app_i (k:Int) (.tmp 131) (.tmp 133) rfl rfl W10.heap.size (.slice A2 k c2) k ((List.range k).map (fun x:Nat=>(x:Int))) (by rw[List.length_map,List.length_range]) (by rfl) HAW.out (by rfl) (by omega) HB10.out.size ?_;intro v5 w5 hown5 hg5 hat5;have HO5:=zh hown5;have HG5:=zh hg5;clear hown5 hg5 hat5)
            go_roundg (sz - (k+1))
            case measure=>omega
            case rel=>exact⟨k+1,by go_num,by omega,rfl,zh (by rw[List.range_succ,List.map_append];exact HO5.out),zh (HB10.out.grown HG5.out HB10.out.size (fun b e=>(HA.out.lt b e).1))⟩
           ·obtain rfl:sz=k:=by omega
            have HOK:=zh (okL_range hs1 hs2 hsl)
            go_wp2_with fail
            go_loopg [19,21] (meL LO (List.range sz)) (fun z v19 v21 wr=>((∃l:List Nat,v21=.bool true∧Hid (okL LO l)∧Hid (l.length=sz)∧Hid (z=meL LO l)∧Hid (OwnI wr W10.heap.size v19 (l.map (fun x:Nat=>(x:Int))))∧Hid (fromL r (v:Int) (s:Int) KM KN L l=fromL r (v:Int) (s:Int) KM KN L (List.range sz)))∨(v21=.bool false∧z=0∧Hid (fromL r (v:Int) (s:Int) KM KN L (List.range sz)=none)))∧Hid (Below W10.heap.size W10 wr))
            case atStart=>exact⟨.inl ⟨List.range sz,rfl,HOK,zh (by rw[List.length_range]),zh rfl,HA,zh rfl⟩,HB10⟩
            case round =>
             clear HB10 HA HOK
             obtain⟨hrel,HB10⟩:=hrel
             rcases hrel with ⟨l,rfl,HOK,HLL,HZL,HA,HFL⟩ | ⟨rfl,rfl,HFN⟩
             ·obtain⟨W11,hW11⟩:=zx wr
              subst hW11
              obtain⟨A2,c2,hv19⟩:=HA.out.form
              rw[List.length_map,HLL.out] at hv19
              subst hv19
              obtain⟨set,hset⟩:=zx (selL L l)
              have HSE:=zh hset
              have HSL:=zh (show set.length=sz from by rw[hset];unfold selL;rw[List.length_map];exact HLL.out)
              have HLM:=zh (show ∀x∈l,x<LO from okL_mem HOK.out)
              have HSM:=zh (show ∀x∈set,x<24 from fun x hx=>by
               rw[hset] at hx
               obtain⟨p,hp,rfl⟩:=List.mem_map.1 hx
               have hpl:p<L.length:=by rw[←HLO.out];exact HLM.out p hp
               rw[getD_lt _ _ hpl]
               exact HL24.out _ (List.getElem_mem hpl))
              clear hset
              go_wp2_with fail
              go_loopg [22,23] sz (fun z v22 v23 wr=>∃k:Nat,v23=.int .i64 (k:Int)∧k≤sz∧z=sz - k∧Hid (OwnI wr W11.heap.size v22 ((set.take k).map (fun x:Nat=>(x:Int))))∧Hid (Below W11.heap.size W11 wr))
              case atStart=>exact⟨0,rfl,Nat.zero_le _,rfl,zh (OwnI.nil _ _),zh (Below.refl _ _)⟩
              case round =>
               obtain⟨k,rfl,hk,rfl,HV,HB11⟩:=hrel
               by_cases hlk:k<sz
               ·have hkl0:k<l.length:=by rw[HLL.out];exact hlk
                have hkl:k<(l.map (fun x:Nat=>(x:Int))).length:=by rw[List.length_map];exact hkl0
                obtain⟨b1,o1,hA1,hR1,hc1,-⟩:=(HA.out.intS (fun x hx=>by obtain⟨p,hp,rfl⟩:=List.mem_map.1 hx;have:=HLM.out p hp;unfold I64;omega)).at7 hkl
                subst hA1
                rw[List.getElem_map] at hc1
                obtain⟨p,hp⟩:=zx (l[k])
                rw[←hp] at hc1
                have hpl:p<LO:=HLM.out p (by rw[hp];exact List.getElem_mem hkl0)
                have e1:wr.cell? ⟨b1,o1+k,none⟩=some (.int .i64 (p:Int)):=(HB11.out.cell (p:=⟨b1,o1+k,none⟩) hR1.2).trans hc1
                have hpL:p<L.length:=by rw[←HLO.out];exact hpl
                obtain⟨b2,o2,hA2,hR2,hc2,-⟩:=(HO.out.intS (fun x hx=>by obtain⟨q,hq,rfl⟩:=List.mem_map.1 hx;have:=HL24.out q hq;unfold I64;omega)).at7 (k:=p) (by rw[List.length_map];exact hpL)
                subst hA2
                rw[List.getElem_map] at hc2
                obtain⟨dd,hdd⟩:=zx (L[p])
                rw[←hdd] at hc2
                have e2:wr.cell? ⟨b2,o2+p,none⟩=some (.int .i64 (dd:Int)):=((HB10.out.trans (HB11.out.mono HB10.out.size)).cell (p:=⟨b2,o2+p,none⟩) hR2.2).trans hc2
                have hks:k<set.length:=by rw[HSL.out];exact hlk
                have hsk:set[k]?=some dd:=by
                 rw[HSE.out];unfold selL
                 rw[List.getElem?_map,List.getElem?_eq_getElem hkl0,Option.map_some,←hp,getD_lt _ _ hpL,hdd]
                have HTK:=zh (show set.take (k+1)=set.take k++[dd] from by rw[List.take_add_one,hsk];rfl)
                have hpi:(p:Int)<(LO:Int):=by omega
                have hki:(k:Int)<(sz:Int):=by omega
                obtain⟨A3,c3,hv22⟩:=HV.out.form
                have HVL:=zh (show((set.take k).map (fun x:Nat=>(x:Int))).length=k from by rw[List.length_map,List.length_take,HSL.out];omega)
                rw[HVL.out] at hv22
                subst hv22
                have HVW:=zh (show wr.ownsRow W11.heap.size 3 1 (.slice A3 k c3) k (((set.take k).map (fun x:Nat=>(x:Int))).map (Value.int .i64)) from by have h1:=HV.out;unfold OwnI at h1;rw[HVL.out] at h1;exact h1)
                clear hsk hkl0 hkl hR1 hc1 hp hR2 hc2 hdd hks hpL
                go_wp2_with (at_builtin;refine app_i (dd:Int) (.tmp 148) (.tmp 156) rfl rfl W11.heap.size (.slice A3 k c3) k ((set.take k).map (fun x:Nat=>(x:Int))) HVL.out (by rfl) HVW.out (by rfl) (by omega) HB11.out.size ?_;intro v5 w5 hown5 hg5 hat5;have HO5:=zh hown5;have HG5:=zh hg5;clear hown5 hg5 hat5)
                go_roundg (sz - (k+1))
                case measure=>omega
                case rel=>exact⟨k+1,by go_num,by omega,rfl,zh (by rw[HTK.out,List.map_append];exact HO5.out),zh (HB11.out.grown HG5.out HB11.out.size (fun b e=>(HV.out.lt b e).1))⟩
               ·obtain rfl:sz=k:=by omega
                obtain⟨A3,c3,hv22⟩:=HV.out.form
                have hset:set.take sz=set:=List.take_of_length_le (by rw[HSL.out];exact Nat.le_refl _)
                rw[hset,List.length_map,HSL.out] at hv22
                subst hv22
                have hv2:=HV.out
                rw[hset] at hv2
                have HV2:=zh hv2
                have his:IntS wr (Bl wr.heap.size) (.slice A3 sz c3) (set.map (fun x:Nat=>(x:Int))):=(hv2.intS (fun x hx=>by obtain⟨p,hp,rfl⟩:=List.mem_map.1 hx;have:=HSM.out p hp;unfold I64;omega)).mono (fun b h=>h.2)
                have HISW:=zh (fun(w':World) (hb:Below wr.heap.size wr w')=>(his.keep (kept_below hb)).mono (Bl.mono hb.size))
                have hbw9:Below W9.heap.size W9 wr:=HB.out.trans ((HB10.out.trans (HB11.out.mono HB10.out.size)).mono HB.out.size)
                have HBW:=zh (HB39.out.trans (hbw9.mono HB39.out.size))
                have HB9w:=zh hbw9
                obtain⟨hit,hhit⟩:=zx (decide (KN≤cntS r (v:Int) (s:Int) KM set))
                have hgw:=HGW.out (by simp) set
                rw[←hhit] at hgw
                have HGWS:=zh hgw
                have HHIT:=zh hhit
                clear hset hv2 his hbw9 hhit hgw HV
                go_upto_region 37 with fail
                refine region_tail (S:=(fun w'=>w'.cell? ⟨z,0,none⟩=some (.int .i64 (EX:Int))∧w'.cell? ⟨z,1,none⟩=some vl∧w'.cell? ⟨z,2,none⟩=some vm∧w'.cell? ⟨z,3,none⟩=some vd∧w'.cell? ⟨z,4,none⟩=some vv∧w'.cell? ⟨z,5,none⟩=some (.slice (some ⟨pb,pof,none⟩) NP cp)∧w'.cell? ⟨z,6,none⟩=some (.slice (some ⟨ob,oof,none⟩) NO co)∧w'.cell? ⟨y,0,none⟩=some vp0∧w'.cell? ⟨y,1,none⟩=some vo0∧w'.cell? ⟨y,2,none⟩=some va0∧w'.cell? ⟨kyb,0,none⟩=some (.int .i64 (v:Int))∧w'.cell? ⟨kyb,1,none⟩=some (.int .i64 (s:Int))∧Below W3.heap.size W3 w')) [] (by kernel_rfl) (HS4.out _ (HBW.out.drew)) (fun hHeld=>?_)
                refine tk 0 158 ?_
                refine tk 1 159 ?_
                refine tk 2 160 ?_
                refine tk 5 163 ?_
                refine readyT (rs:=[3]) (by kernel_rfl) (by simp) ?_
                refine AllReadyT.cons rfl (fun K hK=>?_) ?_
                ·go_simp
                 refine(HWI.out set (.slice A3 sz c3) _ (HRE.out _ (HB3.out.trans (HBW.out.drew.mono HB3.out.size))) (HISW.out _ (Below.refl _ _).drew)).mono ?_
                 rintro e wc ⟨vo1,rfl,hre,hb4⟩
                 have hb5:=HBW.out.drew.trans (hb4.mono HBW.out.drew.size)
                 have hb5w:=(Below.refl wr.heap.size wr).drew.trans hb4
                 have hS5:=HS4.out _ hb5
                 refine hK.out _ _ ?_ (fun hHeld=>?_)
                 ·(first|exact hS7|exact hS6|exact hS5)
                 clear hK K
                 (try simp only[Act.put,z1,z2,z3])
                 refine readyT (rs:=[4]) (by kernel_rfl) (by simp) ?_
                 refine AllReadyT.cons rfl (fun K hK=>?_) ?_
                 ·go_simp
                  refine(HUN0.out _ vo1 _ (HRE.out _ (HB3.out.trans (hb5.mono HB3.out.size))) hre).mono ?_
                  rintro e wd ⟨u,rfl,ho,hb6⟩
                  have hb7:=hb5.trans (hb6.mono hb5.size)
                  have hb7w:=hb5w.trans (hb6.mono hb5w.size)
                  have hS6:=HS4.out _ hb7
                  refine hK.out _ _ ?_ (fun hHeld=>?_)
                  ·(first|exact hS7|exact hS6|exact hS5)
                  clear hK K
                  (try simp only[Act.put,z1,z2,z3])
                  refine readyT (rs:=[6]) (by kernel_rfl) (by simp) ?_
                  refine AllReadyT.cons rfl (fun K hK=>?_) ?_
                  ·go_simp
                   have hkc:=in_any u _ v s _ _ (ho.slS) (fun b h=>h.2)
                   rw[HGWS.out] at hkc
                   refine hkc.mono ?_
                   rintro e we ⟨rfl,hb8⟩
                   have hb9w:=hb7w.trans (hb8.mono hb7w.size)
                   have hS7:=HS4.out _ (hb7.trans (hb8.mono hb7.size))
                   refine hK.out _ _ ?_ (fun hHeld=>?_)
                   ·(first|exact hS7|exact hS6|exact hS5)
                   clear hK K
                   (try simp only[Act.put,z1,z2,z3])
                   refine tk 7 165 ?_
                   refine doneT (by kernel_rfl) ?_ _
                   obtain⟨wz,hwz⟩:=zx we
                   rw[←hwz] at hb9w ⊢
                   have HBZ:=zh hb9w
                   subst hwz
                   clear hHeld hS5 hS6 hS7 hb4 hb5 hb5w hb6 hb7 hb7w hb8 hb9w ho hre
                   cases hit with
                   | true =>
                    have HX:=zh (search_one HT.out hs1 hs2 HS2.out (show fromL r (v:Int) (s:Int) KM KN L (List.range sz)=some set from by
                     rw[←HFL.out]
                     refine fromL_hit (by rw[←HLO.out];exact HOK.out) ?_
                     rw[←HSE.out]
                     unfold hitP
                     have h1:=HHIT.out
                     rw[if_pos (by simpa using h1.symm)]))
                    go_wp2_with fail
                    go_ret2
                    have hs09:=(HB0.out.trans (HB9.out.mono HB0.out.size))
                    have hbw:=hs09.trans ((HB9w.out.trans (HBZ.out.mono HB9w.out.size)).mono hs09.size)
                    rw[HRL.out,HX.out]
                    refine⟨_,rfl,(HV2.out.below HBZ.out).base ?_,hbw⟩
                    exact Nat.le_trans hs09.size (HB.out.trans (HB10.out.mono HB.out.size)).size
                   | false =>
                    have hbz:=HB11.out.trans (HBZ.out.mono HB11.out.size)
                    have hnx:Calls Tryz.prog 65 #[.slice A2 sz c2,.int .i64 (LO:Int)] wz (NxP wz (nextL LO l)):=by
                     have ho:=HA.out.below hbz
                     rcases okL_cases HOK.out with ⟨i,rfl,h1⟩ | ⟨i,j,rfl,h1,h2⟩
                     ·exact next1_any i LO _ _ wz ho (by omega) (by omega) (by omega)
                     ·exact next2_any i j LO _ _ wz ho (by omega) (by omega) (by omega) (by omega)
                    have hplan:=fromL_next (r:=r) (v:=(v:Int)) (s:=(s:Int)) (n:=KM) (K:=KN) (off:=L) (l:=l) (by rw[←HLO.out];exact HOK.out) (by
                     rw[←HSE.out]
                     unfold hitP
                     have h1:=HHIT.out
                     rw[if_neg (by simpa using h1.symm)])
                    rw[←HLO.out] at hplan
                    have HBW10:=zh (HB10.out.trans (hbz.mono HB10.out.size))
                    have HW1Z:=zh (Nat.le_trans HB10.out.size hbz.size)
                    clear hbz
                    rcases hplan with ⟨h1,h2⟩ | ⟨l',h1,h2,h3,h4,h5⟩
                    ·rw[h1] at hnx
                     have HNX:=zh hnx
                     have HFN:=zh (HFL.out.symm.trans h2)
                     clear hnx h1 h2
                     go_wp2_with (go_at_call 65;refine HNX.out.mono ?_;rintro e w5 ⟨u,rfl,-,hb5⟩;have HB5x:=zh hb5;clear hb5)
                     go_roundg 0
                     case measure=>have h1:=HZL.out;have h2:=meL_pos HOK.out;omega
                     case rel=>exact⟨.inr ⟨rfl,rfl,HFN⟩,zh (HBW10.out.trans (HB5x.out.mono HBW10.out.size))⟩
                    ·rw[h1] at hnx
                     have HNX:=zh hnx
                     have HFE:=zh (h5.symm.trans HFL.out)
                     have HO2:=zh h2
                     have HM3:=zh h3
                     have HL4:=zh (h4.trans HLL.out)
                     clear hnx h1 h2 h3 h4 h5
                     go_wp2_with (go_at_call 65;refine HNX.out.mono ?_;rintro e w5 ⟨u,rfl,hou,hb5⟩;have HB5x:=zh hb5;have HOU:=zh (hou l' rfl);clear hb5 hou)
                     go_roundg (meL LO l')
                     case measure=>have h1:=HZL.out;have h2:=HM3.out;omega
                     case rel=>exact⟨.inl ⟨l',rfl,HO2,HL4,zh rfl,zh (HOU.out.base HW1Z.out),HFE⟩,zh (HBW10.out.trans (HB5x.out.mono HBW10.out.size))⟩
                  exact AllReadyT.nil
                 exact AllReadyT.nil
                exact AllReadyT.nil
             ·have HX:=zh (search_two HT.out hs1 hs2 HS2.out HFN.out)
              go_wp2_with fail
              go_roundg (3 - (sz+1))
              case measure=>have:=HX.out.1;omega
              case rel=>exact⟨sz+1,by go_num,by omega,by have:=HX.out.1;omega,rfl,by have:=HX.out;omega,zh (fun _=>HX.out.2.2),HB10⟩
     exact AllReadyT.nil
    exact AllReadyT.nil
  exact AllReadyT.nil
 exact AllReadyT.nil
end Go.Proofs.YtcfkllnpkmebpaaGreatDoor
