/- drydockref14.Layout, walked. -/
import Derived.Test.YtgfaieppacabjaaGreatMy28
set_option linter.unusedSectionVars false
set_option maxRecDepth 100000
set_option maxHeartbeats 12800000
namespace Go.Proofs.YtgfaieppacabjaaGreat
open Go.RowKit
set_option linter.unusedVariables false
set_option linter.unusedSimpArgs false
theorem mk_nils(n:Nat)(hn:n<=1000):∀w:World,(Instr.makeSlice 37 (.int .i64 (n:Int)) (.int .i64 (n:Int))).run Tryz.prog w=.ok (.slice (some ⟨w.heap.size,0,none⟩) n n) (w.alloc (.cells (Array.replicate n (.slice none 0 0)) 22)):=by
 intro w;obtain⟨i0,hi0,hz0,hz1,hz2⟩:=info_parts info_ints;have h:=run_make (P:=Tryz.prog) w 37 22 i0 _ Tryz.underlying37 hi0 hz0 .i64 .i64 (n:Int) (n:Int) (by omega) (by omega) (by rw[hz2];omega) (by omega);rw[hz1] at h
 simpa[madeCells_one,Value.cells] using h
def LayX(NV i v:Nat)(LL:List (List Int)):Prop:=LL.length=NV/\∀(k:Nat) l,LL[k]?=some l->l.length<=(if k<v then i+1 else i)/\∀x∈l,0<=x/\x<=8
theorem LayX.next{NV i v:Nat}{LL:List (List Int)}(h:LayX NV i v LL):LayX NV i (v+1) LL:=⟨h.1,fun k l hl=>⟨by have:=(h.2 k l hl).1;split at this <;> split <;> omega,(h.2 k l hl).2⟩⟩
theorem LayX.push{NV i v:Nat}{LL:List (List Int)}(h:LayX NV i v LL){l:List Int}(hl:LL[v]?=some l){x:Int}(hx:0<=x/\x<=8):LayX NV i (v+1) (LL.set v (l++[x])):=by
 refine⟨by rw[List.length_set];exact h.1,fun k m hm=>?_⟩;by_cases hk:v=k
 ·subst hk;rw[List.getElem?_set_self (zL.1 hl).1] at hm;injection hm with hm;subst hm;obtain⟨h1,h2⟩:=h.2 v l hl;rw[if_neg (by omega)] at h1;refine⟨by rw[zP,if_pos (by omega)];simp;omega,fun y hy=>?_⟩;rcases List.mem_append.1 hy with hy | hy
  ·exact h2 y hy
  ·rw[List.mem_singleton.1 hy];exact hx
 ·rw[List.getElem?_set_ne hk] at hm;exact h.next.2 k m hm
theorem LayX.row{NV i v:Nat}{LL:List (List Int)}(h:LayX NV i v LL)(hv:NV<=v):LayX NV (i+1) 0 LL:=⟨h.1,fun k l hl=>⟨by
 have h1:=(h.2 k l hl).1;have h2:=(zL.1 hl).1;rw[h.1] at h2;rw[if_pos (by omega)] at h1
 rw[if_neg (by omega)];exact h1,(h.2 k l hl).2⟩⟩
theorem LayX.skip{NV i:Nat}{LL:List (List Int)}(h:LayX NV i 0 LL):LayX NV (i+1) 0 LL:=⟨h.1,fun k l hl=>⟨by have:=(h.2 k l hl).1;rw[if_neg (by omega)] at this;rw[if_neg (by omega)];omega,(h.2 k l hl).2⟩⟩
theorem grid_nils{W:World}(n:Nat)(hn:n<=1000):GridA (W.alloc (.cells (Array.replicate n (.slice none 0 0)) 22)) W.heap.size n (W.heap.size+1) (List.replicate n (.slice none 0 0)) (List.replicate n []):=by
 refine⟨by simp,by simp,by unfold maxLen;omega,by omega,⟨_,zN W _,by simp,fun k v hv=>?_⟩,fun k v l hv hl=>?_,fun i j vi vj _ hi _ b hb=>?_⟩
 ·have h1:=(zL.1 hv).1;rw[<-Array.getElem?_toList,Array.toList_replicate];exact hv
 ·rw[List.eq_of_mem_replicate (List.mem_of_getElem? hv),List.eq_of_mem_replicate (List.mem_of_getElem? hl)];exact World.ownsRow_nil _ _ _ _
 ·rw[List.eq_of_mem_replicate (List.mem_of_getElem? hi)] at hb;cases hb
theorem lay14_any(N:Nat)(hN:N<=12)(vl vm vd vv vp vo vA vF:Value)(F:FltM)(AA:List ArcM)(fl:List Int)(nodes src snk:Int)(w:World)(hf:FleetS w (Bl w.heap.size) vl vm vd vv vp vo F)(hok:FleetOk N F)(hA:SlS 4 ArcK w (Bl w.heap.size) vA AA)(hfl:IntS w (Bl w.heap.size) vF fl)(hlen:fl.length=AA.length)(h1:0<AA.length)(h4:AA.length<=400)(ht:∀a∈AA,a.t<drvN F F.dves.length) :
  Calls Tryz.prog 57 #[.agg #[.int .i64 F.ext,vl,vm,vd,vv,vp,vo],.agg #[.int .i64 nodes,.int .i64 src,.int .i64 snk,vA],vF] w fun e w'=>∃(g B:Nat) (vs:List Value) (LL:List (List Int)),e=.returned (.slice (some ⟨g,0,none⟩) F.vols.length F.vols.length)/\w.heap.size<=g/\GridA w' g F.vols.length B vs LL/\LL.length=F.vols.length/\(∀l∈LL,l.length<=400/\∀x∈l,0<=x/\x<=8)/\Below w.heap.size w w':=by
 have HNO:=zh (fun(v i:Nat) (w':World) (hb:Below w.heap.size w w') (hv:v<F.vols.length) (hi:i<F.doms.length)=>node_any N hN _ _ _ _ _ _ F v i w' (hf.below hb) hok hv hi)
 have hdr:=fun(w':World) (hb:Below w.heap.size w w')=>driven_any N hN _ _ _ _ _ _ F 0 w' (hf.below hb) hok (by omega)
 have hdl:=drv_le hok hN 0;obtain⟨A,cA,rfl,-,hmA⟩:=hA.form;obtain⟨ab,aoff,rfl,hab,hac⟩:=arcs_src hA h1;obtain⟨AF0,cF,rfl,-⟩:=hfl.1;obtain⟨fb,foff,rfl,hfb,hfc⟩:=ints_at hfl (by omega);obtain⟨Al,nl,cl,rfl⟩:=hf.1.form3;obtain⟨Am,nm,cm,rfl⟩:=hf.2.1.form3;obtain⟨Ad,cd,hvd,-⟩:=hf.2.2.1.form;obtain⟨Av,cv,hvv,-⟩:=hf.2.2.2.1.form;obtain⟨Ap,np,cp,rfl⟩:=hf.2.2.2.2.1.form3;obtain⟨Ao,co,hvo,-⟩:=hf.2.2.2.2.2.form;subst hvd hvv hvo;obtain⟨vb,voff,-,hAv,hRv,-,-⟩:=hf.2.2.2.1.at_ (k:=0) (by have:=hok.dve1;omega);subst hAv
 have HDV:=zh (show ∀d,d<F.dves.length->∀w',Below w.heap.size w w'->w'.cell? ⟨vb,voff+d*3+2,none⟩=some (.int .i64 (macN F d:Int)) from fun d hd w' hb=>by
  obtain⟨b,off,cs,e,hR,-,hc,hk⟩:=hf.2.2.2.1.at_ (k:=d) hd;injection e with e;injection e with e1 e2;subst e1 e2;unfold DveK at hk;subst hk;obtain⟨-,-,m,hm,-⟩:=hok.dves d _ (zG hd)
  have:(macN F d:Int)=F.dves[d].machine:=by unfold macN;rw[zG hd];show((F.dves[d].machine).toNat:Int)=_;rw[hm,Int.toNat_natCast]
  rw[this];exact(hb.cell (p:=⟨vb,_,none⟩) hR).trans (hc 2 _ rfl))
 have HSZF:=zh (show F.dves.length<=9/\F.vols.length<=12/\1<=F.vols.length from⟨hok.dveN,by have:=hok.volN;omega,hok.vol1⟩);have HOK:=zh hok;obtain⟨NM,hNM⟩:=zx F.doms.length;obtain⟨ND,hND⟩:=zx F.dves.length;obtain⟨NV,hNV⟩:=zx F.vols.length;obtain⟨EX,hEX⟩:=zx F.ext;obtain⟨M,hM⟩:=zx AA.length;obtain⟨D0,hD0⟩:=zx (drvN F 0)
 have hd0:drvN F ND=D0+ND:=by rw[hD0];unfold drvN;omega
 rw[hlen,<-hM] at hfc;rw[<-hM] at hac h1 h4;have HLN:=zh (show NM=F.doms.length/\ND=F.dves.length/\NV=F.vols.length from⟨hNM,hND,hNV⟩);rw[<-hNM,<-hND,<-hNV,<-hEX] at HNO hdr;rw[<-hND] at HDV ht;rw[<-hND,<-hNV] at HSZF;rw[<-hD0] at hdr hdl;rw[hlen,<-hND,<-hNM,<-hNV,<-hEX,<-hM];have HDR:=zh hdr;obtain⟨W0,hW0⟩:=zx ((w.alloc (.cells #[.int .i64 EX,.slice Al nl cl,.slice Am nm cm,.slice Ad NM cd,.slice (some ⟨vb,voff,none⟩) ND cv,.slice Ap np cp,.slice Ao NV co] 35)).alloc (.cells #[.int .i64 nodes,.int .i64 src,.int .i64 snk,(.slice (some ⟨ab,aoff,none⟩) M cA)] 119));obtain⟨gF,hgF⟩:=zx w.heap.size;obtain⟨gN,hgN⟩:=zx (w.heap.size+1)
 have hb0:Below w.heap.size w W0:=by rw[hW0];exact((zB _ _).alloc (zR _) _).alloc (by simp) _
 have hkF:W0.heap[gF]?=some (.cells #[.int .i64 EX,.slice Al nl cl,.slice Am nm cm,.slice Ad NM cd,.slice (some ⟨vb,voff,none⟩) ND cv,.slice Ap np cp,.slice Ao NV co] 35 (0,0)):=by rw[hW0,hgF];exact(zH _ _ _ (by simp)).trans (zN _ _)
 have hkN:W0.heap[gN]?=some (.cells #[.int .i64 nodes,.int .i64 src,.int .i64 snk,(.slice (some ⟨ab,aoff,none⟩) M cA)] 119 (0,0)):=by rw[hW0,hgN];exact heap_alloc_at _ _ _ (by simp)
 obtain⟨W1,hW1⟩:=zx (W0.alloc (.cells (Array.replicate NV (.slice none 0 0)) 22));obtain⟨gO,hgO⟩:=zx W0.heap.size
 have hb01:Below W0.heap.size W0 W1:=by rw[hW1];exact(zB _ _).alloc (zR _) _
 obtain⟨B,hB⟩:=zx (W0.heap.size+1)
 have hgr:GridA W1 gO NV B (List.replicate NV (.slice none 0 0)) (List.replicate NV []):=by rw[hW1,hgO,hB];exact grid_nils NV (by have:=HSZF.out;omega)
 have HBW:=zh (show ∀w',Below W0.heap.size W0 w'->Below w.heap.size w w' from fun w' hb=>hb0.trans (hb.mono hb0.size));have HK:=zh (show ∀w',Below W0.heap.size W0 w'->w'.heap[gF]?=some (.cells #[.int .i64 EX,.slice Al nl cl,.slice Am nm cm,.slice Ad NM cd,.slice (some ⟨vb,voff,none⟩) ND cv,.slice Ap np cp,.slice Ao NV co] 35 (0,0))/\w'.heap[gN]?=some (.cells #[.int .i64 nodes,.int .i64 src,.int .i64 snk,(.slice (some ⟨ab,aoff,none⟩) M cA)] 119 (0,0)) from fun w' hb=>⟨(hb.block gF (zA.1 hkF).1).trans hkF,(hb.block gN (zA.1 hkN).1).trans hkN⟩)
 have HAC:=zh (show ∀w',Below w.heap.size w w'->∀i,i<M->w'.cell? ⟨ab,aoff+i*4,none⟩=some (.int .i64 ((AA.getD i ⟨0,0,0,0⟩).f:Int))/\w'.cell? ⟨ab,aoff+i*4+1,none⟩=some (.int .i64 ((AA.getD i ⟨0,0,0,0⟩).t:Int))/\(AA.getD i ⟨0,0,0,0⟩).t<D0+ND from fun w' hb i hi=>⟨(hac i hi w' (hb.block ab hab)).1,(hac i hi w' (hb.block ab hab)).2.1,by
  rw[<-hd0];rw[hM] at hi
  have:AA.getD i ⟨0,0,0,0⟩=AA[i]:=by rw[List.getD_eq_getElem?_getD,zG hi];rfl
  rw[this];exact ht _ (List.getElem_mem hi)⟩)
 have HFC:=zh (show ∀w',Below w.heap.size w w'->∀i,i<M->w'.cell? ⟨fb,foff+i,none⟩=some (.int .i64 (gt fl i)) from fun w' hb i hi=>hfc i hi w' (hb.block fb hfb));have HW:=zh (And.intro hW0 (And.intro hgF (And.intro hgN (And.intro hW1 (And.intro hgO hB)))));have HG0:=zh hgr;have HB01:=zh hb01;have HSS:=zh (show D0<=254/\D0=drvN F 0/\0<M/\M<=400/\w.heap.size<=gO from⟨hdl,hD0,h1,h4,by rw[hgO];exact hb0.size⟩);have hmk:=mk_nils NV (by have:=HSZF.out;omega)
 have hsv:(NV:Int)<=12:=by have:=HSZF.out;omega
 clear hA hfl hlen h1 h4 ht hab hac hfb hfc hmA hf hok hRv hNM hND hNV hEX hM hD0 hd0 hdr hdl hW0 hgF hgN hb0 hkF hkN hW1 hgO hb01 hB hgr;go_enter Tryz.func57,Tryz.ntmps57;go_upto_region 1 with fail;rw[<-HW.out.1,<-HW.out.2.1,show gF+1=gN by (have:=HW.out;omega)];obtain⟨c0,c1,c2,c3,c4,c5,c6⟩:=cells7 (HK.out W0 (zB _ _)).1;go_upto_region 2 with fail;rw[<-HW.out.2.2.2.1,<-HW.out.2.2.2.2.1];clear hmk c0 c1 c2 c3 c4 c5 c6;obtain⟨WS,hWS⟩:=zx W0;rw[<-hWS] at HBW HK HB01;have HST:=zh (show ∃(vs:List Value) (LL:List (List Int)),B<=W1.heap.size/\GridA W1 gO NV B vs LL/\LayX NV 0 0 LL from⟨_,_,by have:=HG0.out.low;have:=HG0.out.lt;have:=HW.out;omega,HG0.out,by simp,fun k l hl=>by rw[List.eq_of_mem_replicate (List.mem_of_getElem? hl)];exact⟨Nat.zero_le _,fun x hx=>by cases hx⟩⟩);have HGO:=zh (show WS.heap.size<=gO/\gO<B from⟨by rw[hWS];have:=HW.out;omega,by have:=HW.out;omega⟩);obtain⟨W1,hW1⟩:=zx WS;rw[<-hW1] at HBW HK HB01 HGO;clear hW1 hWS;go_wp2_with fail;go_loopg [8] M (fun z v8 wr=>∃i:Nat,i<=M/\z=M-i/\v8=.int .i64 (i:Int)/\Hid (Below W1.heap.size W1 wr)/\Hid (∃(vs:List Value) (LL:List (List Int)),B<=wr.heap.size/\GridA wr gO NV B vs LL/\LayX NV i 0 LL))
 case atStart=>exact⟨0,by omega,rfl,rfl,HB01,HST⟩
 case round =>
  obtain⟨i,hi,rfl,rfl,HB,HA⟩:=hrel;clear HST;obtain⟨W3,hW3⟩:=zx wr;rw[<-hW3] at HB HA ⊢;clear hW3;obtain⟨k0,k1,k2,k3⟩:=cells4 (HK.out W3 HB.out).2;by_cases hlt:i<M
  ·have i1:(i:Int)<(M:Int):=by omega
   have i9:(M:Int)<=400:=by have:=HSS.out;omega
   obtain⟨-,-,htt⟩:=HAC.out W3 (HBW.out W3 HB.out) i hlt;obtain⟨AF,hAF⟩:=zx ((AA.getD i ⟨0,0,0,0⟩).f);obtain⟨AT,hAT⟩:=zx ((AA.getD i ⟨0,0,0,0⟩).t);rw[<-hAT] at htt;have HAE:=zh (show AF=(AA.getD i ⟨0,0,0,0⟩).f/\AT=(AA.getD i ⟨0,0,0,0⟩).t/\AT<D0+ND/\i<M from⟨hAF,hAT,htt,hlt⟩);have HS5:=zh (show ∀w':World,Below W1.heap.size W1 w'->(fun(w':World)=>w'.rangeAt gF 0 [.int .i64 EX,.slice Al nl cl,.slice Am nm cm,.slice Ad NM cd,.slice (some ⟨vb,voff,none⟩) ND cv,.slice Ap np cp,.slice Ao NV co]/\w'.cell? ⟨gN,3,none⟩=some (.slice (some ⟨ab,aoff,none⟩) M cA)/\w'.cell? ⟨ab,aoff+i*4+1,none⟩=some (.int .i64 (AT:Int))) w' from fun w' hb=>⟨range_cells (HK.out w' hb).1,(cells4 (HK.out w' hb).2).2.2.2,by rw[HAE.out.2.1];exact(HAC.out w' (HBW.out w' hb) i HAE.out.2.2.2).2.1⟩);have w1:IntKind.i64.wrap ((AT:Int)-(D0:Int))=(AT:Int)-(D0:Int):=zI _ (by have:=HSZF.out;have:=HSS.out;omega);clear hAF hAT htt;go_upto_region 5 with fail;clear k0 k1 k2 k3;refine region_tail (S:=(fun(w':World)=>w'.rangeAt gF 0 [.int .i64 EX,.slice Al nl cl,.slice Am nm cm,.slice Ad NM cd,.slice (some ⟨vb,voff,none⟩) ND cv,.slice Ap np cp,.slice Ao NV co]/\w'.cell? ⟨gN,3,none⟩=some (.slice (some ⟨ab,aoff,none⟩) M cA)/\w'.cell? ⟨ab,aoff+i*4+1,none⟩=some (.int .i64 (AT:Int)))) [] (by kernel_rfl) (HS5.out _ HB.out.drew) (fun hHeld=>?_);refine tk 0 22 ?_;refine tk 1 23 ?_;refine tk 2 24 ?_;refine tk 3 25 ?_;refine tk 4 26 ?_;refine tk 5 27 ?_;refine takeT (i:=6) (d:=28) (v:=(.agg #[.int .i64 EX,.slice Al nl cl,.slice Am nm cm,.slice Ad NM cd,.slice (some ⟨vb,voff,none⟩) ND cv,.slice Ap np cp,.slice Ao NV co])) rfl rfl (by kernel_rfl) (by kernel_rfl) (by kernel_rfl) (by kernel_rfl) (fun _ _ _ h=>h) (yieldsIf_load_mid (by rfl) 35 (.tmp 3) rfl gF 0 (by rfl) [.int .i64 EX,.slice Al nl cl,.slice Am nm cm,.slice Ad NM cd,.slice (some ⟨vb,voff,none⟩) ND cv,.slice Ap np cp,.slice Ao NV co] _ (fun w hw=>hw.1) Tryz.underlying35 rfl size_fltA) (by assumption) ?_;(try simp only[Act.put,z1,z2,z3]);refine readyT (rs:=[7]) (by kernel_rfl) (by simp) ?_;refine zC rfl (fun K hK=>?_) ?_
   ·go_simp
    (refine(HDR.out _ (HBW.out _ HB.out.drew)).mono ?_;rintro e w5 ⟨rfl,hb5⟩;have HB5:=zh (show Below W1.heap.size W1 w5 from HB.out.drew.trans (hb5.mono HB.out.drew.size));have HC5:=zh (show Below W3.heap.size W3 w5 from((zB _ _).drew:Below W3.heap.size W3 W3.drew).trans hb5);clear hb5)
    go_wp2_with fail;refine hK.out _ _ ?_ (fun hHeld=>?_)
    ·exact HS5.out _ HB5.out
    clear hK K;(try simp only[Act.put,z1,z2,z3]);refine tk 8 30 ?_;refine tk 9 9 ?_;refine doneT (by kernel_rfl) ?_ _;clear hHeld;have HA5:=zh (show ∃(vs:List Value) (LL:List (List Int)),B<=w5.heap.size/\GridA w5 gO NV B vs LL/\LayX NV i 0 LL from by obtain⟨vs,LL,h1,h2,h3⟩:=HA.out;exact⟨vs,LL,Nat.le_trans h1 HC5.out.size,h2.below HC5.out,h3⟩);clear w1;obtain⟨DI,hDI⟩:=zx ((AT:Int)-(D0:Int));rw[<-hDI];have hfx:=HFC.out w5 (HBW.out w5 HB5.out) i HAE.out.2.2.2;obtain⟨FX,hFX⟩:=zx (gt fl i);rw[<-hFX] at hfx;by_cases hneg:DI<0
    ·have n1:decide (DI<0)=true:=decide_eq_true hneg;have HSN:=zh (show ∃(vs:List Value) (LL:List (List Int)),B<=w5.heap.size/\GridA w5 gO NV B vs LL/\LayX NV (i+1) 0 LL from by obtain⟨vs,LL,h1,h2,h3⟩:=HA5.out;exact⟨vs,LL,h1,h2,h3.skip⟩);clear hDI hneg hFX;go_wp2_with fail;go_roundg (M-(i+1))
     case measure=>have:=HAE.out;omega
     case rel=>exact⟨i+1,by have:=HAE.out;omega,rfl,by go_num,HB5,HSN⟩
    ·have n1:decide (DI<0)=false:=decide_eq_false hneg;by_cases hz:FX=0
     ·have n2:(FX==0)=true:=beq_iff_eq.2 hz;have HSN:=zh (show ∃(vs:List Value) (LL:List (List Int)),B<=w5.heap.size/\GridA w5 gO NV B vs LL/\LayX NV (i+1) 0 LL from by obtain⟨vs,LL,h1,h2,h3⟩:=HA5.out;exact⟨vs,LL,h1,h2,h3.skip⟩);clear hDI hneg hFX hz;go_wp2_with fail;go_roundg (M-(i+1))
      case measure=>have:=HAE.out;omega
      case rel=>exact⟨i+1,by have:=HAE.out;omega,rfl,by go_num,HB5,HSN⟩
     ·have n2:(FX==0)=false:=beq_eq_false_iff_ne.2 hz;obtain⟨DD,hDD⟩:∃y:Nat,DI=(y:Int):=⟨DI.toNat,by omega⟩;subst hDD
      have hdl:DD<ND:=by have:=HAE.out;omega
      obtain⟨MC,hMC⟩:=zx (macN F DD);have HDD:=zh (show MC=macN F DD/\DD<ND/\MC<NM from⟨hMC,hdl,by rw[hMC,HLN.out.1];exact mac_lt HOK.out (by rw[<-HLN.out.2.1];exact hdl)⟩)
      have i2:(DD:Int)<(ND:Int):=by omega
      have nd9:(ND:Int)<=9:=by have:=HSZF.out;omega
      clear hDI hneg hFX hz hdl hMC;go_wp2_with fail;clear n1 n2 hfx;go_loopg [10] NV (fun z v10 wr=>∃v:Nat,v<=NV/\z=NV-v/\v10=.int .i64 (v:Int)/\Hid (Below W1.heap.size W1 wr)/\Hid (∃(vs:List Value) (LL:List (List Int)),B<=wr.heap.size/\GridA wr gO NV B vs LL/\LayX NV i v LL))
      case atStart=>exact⟨0,by omega,rfl,rfl,HB5,HA5⟩
      case round =>
       obtain⟨v,hv,rfl,rfl,HB,HA⟩:=hrel;clear HA5;obtain⟨W3,hW3⟩:=zx wr;rw[<-hW3] at HB HA ⊢;clear hW3;obtain⟨c0,c1,c2,c3,c4,c5,c6⟩:=cells7 (HK.out W3 HB.out).1;by_cases hlt2:v<NV
       ·have i3:(v:Int)<(NV:Int):=by omega
        have HS10:=zh (show ∀w':World,Below W1.heap.size W1 w'->(fun(w':World)=>w'.rangeAt gF 0 [.int .i64 EX,.slice Al nl cl,.slice Am nm cm,.slice Ad NM cd,.slice (some ⟨vb,voff,none⟩) ND cv,.slice Ap np cp,.slice Ao NV co]/\w'.cell? ⟨gN,3,none⟩=some (.slice (some ⟨ab,aoff,none⟩) M cA)/\w'.cell? ⟨ab,aoff+i*4,none⟩=some (.int .i64 (AF:Int))/\w'.cell? ⟨vb,voff+DD*3+2,none⟩=some (.int .i64 (MC:Int))) w' from fun w' hb=>⟨range_cells (HK.out w' hb).1,(cells4 (HK.out w' hb).2).2.2.2,by rw[HAE.out.1];exact(HAC.out w' (HBW.out w' hb) i HAE.out.2.2.2).1,by rw[HDD.out.1];exact HDV.out DD HDD.out.2.1 w' (HBW.out w' hb)⟩);obtain⟨NJ,hNJ⟩:=zx (nodN F v MC);have hno:=HNO.out v MC;rw[<-hNJ] at hno;have HNJ:=zh (fun(w':World) (hb:Below w.heap.size w w')=>hno w' hb hlt2 HDD.out.2.2);have HLV:=zh hlt2;clear hno hNJ;go_upto_region 10 with fail;clear c0 c1 c2 c3 c4 c5 c6;by_cases he:AF=NJ
        ·have q:((AF:Int)==(NJ:Int))=true:=beq_iff_eq.2 (by omega);have q2:(AF==NJ)=true:=beq_iff_eq.2 he;clear he;refine region_tail (S:=(fun(w':World)=>w'.rangeAt gF 0 [.int .i64 EX,.slice Al nl cl,.slice Am nm cm,.slice Ad NM cd,.slice (some ⟨vb,voff,none⟩) ND cv,.slice Ap np cp,.slice Ao NV co]/\w'.cell? ⟨gN,3,none⟩=some (.slice (some ⟨ab,aoff,none⟩) M cA)/\w'.cell? ⟨ab,aoff+i*4,none⟩=some (.int .i64 (AF:Int))/\w'.cell? ⟨vb,voff+DD*3+2,none⟩=some (.int .i64 (MC:Int)))) [] (by kernel_rfl) (HS10.out _ HB.out.drew) (fun hHeld=>?_);refine tk 0 47 ?_;refine tk 1 48 ?_;refine tk 2 49 ?_;refine tk 3 50 ?_;refine tk 4 51 ?_;refine tk 5 52 ?_;refine takeT (i:=6) (d:=53) (v:=(.agg #[.int .i64 EX,.slice Al nl cl,.slice Am nm cm,.slice Ad NM cd,.slice (some ⟨vb,voff,none⟩) ND cv,.slice Ap np cp,.slice Ao NV co])) rfl rfl (by kernel_rfl) (by kernel_rfl) (by kernel_rfl) (by kernel_rfl) (fun _ _ _ h=>h) (yieldsIf_load_mid (by rfl) 35 (.tmp 3) rfl gF 0 (by rfl) [.int .i64 EX,.slice Al nl cl,.slice Am nm cm,.slice Ad NM cd,.slice (some ⟨vb,voff,none⟩) ND cv,.slice Ap np cp,.slice Ao NV co] _ (fun w hw=>hw.1) Tryz.underlying35 rfl size_fltA) (by assumption) ?_;(try simp only[Act.put,z1,z2,z3]);refine tk 7 54 ?_;refine tk 8 55 ?_;refine takeT (i:=9) (d:=56) (v:=?_) rfl rfl (by kernel_rfl) (by kernel_rfl) (by kernel_rfl) (by kernel_rfl) (fun _ _ _ h=>h) (Or.inl ⟨by rfl,?_⟩) (by assumption) ?_;rotate_left
         ·(intro w hSw;(try dsimp only at hSw);(have f4:=hSw.1 4 _ rfl);go_simp;first | done | with_reducible rfl)
         (try simp only[Act.put,z1,z2,z3]);refine tk 10 57 ?_;refine tk 11 58 ?_;refine tk 12 59 ?_;refine tk 13 60 ?_;refine readyT (rs:=[14]) (by kernel_rfl) (by simp) ?_;refine zC rfl (fun K hK=>?_) ?_
         ·go_simp
          (refine(HNJ.out _ (HBW.out _ HB.out.drew)).mono ?_;rintro e w7 ⟨rfl,hb7⟩;have HB7:=zh (show Below W1.heap.size W1 w7 from HB.out.drew.trans (hb7.mono HB.out.drew.size));have HC7:=zh (show Below W3.heap.size W3 w7 from((zB _ _).drew:Below W3.heap.size W3 W3.drew).trans hb7);clear hb7)
          go_wp2_with fail;refine hK.out _ _ ?_ (fun hHeld=>?_)
          ·exact HS10.out _ HB7.out
          clear hK K;(try simp only[Act.put,z1,z2,z3]);refine tk 15 62 ?_;refine doneT (by kernel_rfl) ?_ _;clear hHeld;obtain⟨vs,LL,h1,h2,h3⟩:=HA.out;have hg7:=h2.below HC7.out;obtain⟨l,hl⟩:∃l,LL[v]?=some l:=⟨_,zG (by rw[h3.1];exact HLV.out)⟩;obtain⟨u,hu,ho⟩:=hg7.at_ hl;obtain⟨A3,c3,rfl⟩:=own_form ho;obtain⟨N3,hN3⟩:=zx l.length;rw[<-hN3] at hu ho;have e1:=(hg7.cell hu).1;have HG7:=zh (And.intro (Nat.le_trans h1 HC7.out.size) hg7);have HV:=zh hu;have HO:=zh ho;have HLX:=zh (And.intro hl (And.intro h3 hN3));have HN3:=zh (show N3<=400 from by have:=(h3.2 v l hl).1;rw[if_neg (by omega)] at this;have:=HAE.out;have:=HSS.out;omega)
          have i3:(v:Int)<(NV:Int):=by have:=HLV.out;omega
          clear h1 h2 h3 hg7 hl hu ho hN3;go_upto_region 11 with fail;refine wp_region_lit ?_;refine wpList_plain rfl (fun K hK=>?_);go_simp;refine hK _ _ ?_;clear hK;(try simp only[Act.put,z1,z2,z3]);refine wpList_plain rfl (fun K hK=>?_);go_simp;refine hK _ _ ?_;clear hK;(try simp only[Act.put,z1,z2,z3]);refine wpList_plain rfl (fun K hK=>?_);go_simp;refine hK _ _ ?_;clear hK;(try simp only[Act.put,z1,z2,z3]);refine wpList_plain rfl (fun K hK=>?_);go_simp;refine hK _ _ ?_;clear hK;(try simp only[Act.put,z1,z2,z3]);refine wpList_plain rfl (fun K hK=>?_);go_simp;refine hK _ _ ?_;clear hK;(try simp only[Act.put,z1,z2,z3]);refine wpList_plain rfl (fun K hK=>?_);go_simp;refine hK _ _ ?_;clear hK;(try simp only[Act.put,z1,z2,z3]);clear e1;refine wpList_plain rfl (fun K hK=>?_);go_simp;refine hK _ _ ?_;clear hK;(try simp only[Act.put,z1,z2,z3]);refine wpList_plain rfl (fun K hK=>?_);go_simp;refine hK _ _ ?_;clear hK;(try simp only[Act.put,z1,z2,z3]);obtain⟨W9,hW9⟩:=zx (w7.alloc (.cells #[.int .i64 (DD:Int)] 3))
          have hb9:Below w7.heap.size w7 W9:=by rw[hW9];exact(zB _ _).alloc (zR _) _
          have hs9:W9.heap.size=w7.heap.size+1:=by rw[hW9];simp
          have HW9:=zh hW9;have HB9:=zh hb9;have HS9:=zh hs9;clear hW9 hb9 hs9;refine app_lit [.int .i64 (DD:Int)] 3 22 info_intL Tryz.underlying22 rfl (by omega) (by omega) rfl (fun u hu=>by rw[List.mem_singleton.1 hu];rfl) (.tmp 68) (.tmp 70) rfl rfl B (.slice A3 N3 c3) N3 (l.map (Value.int .i64)) (by rfl) HO.out (by rfl) (by have:=HN3.out;omega) HG7.out.1 ?_;intro v' w' ho' hg' hat'
          have hg9:W9.grownBy w' (Value.slice A3 N3 c3).ownBlock:=by rw[HW9.out];exact hg'
          have hgi9:=HG7.out.2.below HB9.out
          have hown:∀b,(Value.slice A3 N3 c3).ownBlock=some b->B<=b:=fun b hb=>(HO.out.lt b hb).1
          have ho2:w'.ownsRow B 3 1 v' (l++[(DD:Int)]).length ((l++[(DD:Int)]).map (Value.int .i64)):=by
           rw[zP,<-HLX.out.2.2,List.map_append];exact ho'
          have happ:=hgi9.app (k:=v) (l':=l++[(DD:Int)]) HV.out HLX.out.1 hg9 ho2 (by rw[HS9.out];exact hat') hown;obtain⟨A4,c4,rfl⟩:=own_form ho';have hgl:=hgi9.lt;have hlow:=hgi9.low;have hbk:w'.heap[gO]?=W9.heap[gO]?:=hg9.block gO hgl (fun e=>by have:=hown gO e.symm;omega);have x1:w'.cell? ⟨gO,v,none⟩=some (.slice A3 N3 c3):=(World.cell?_of_block (a:=⟨gO,v,none⟩) hbk).trans (hgi9.cell HV.out).1
          have z1:w'.frozen? ⟨gO,v,none⟩=false:=by
           obtain⟨cs,h1,-⟩:=hgi9.outer;exact frozen_of_row _ _ _ _ _ (hbk.trans h1)
          have hbw:Below W1.heap.size W1 w':=Below.grown (HB7.out.trans (HB9.out.mono HB7.out.size)) hg9 (Nat.le_trans HB7.out.size HB9.out.size) (fun k hk=>by have:=hown k hk;have:=HGO.out;omega);have HB10:=zh (show Below W1.heap.size W1 (w'.setCell ⟨gO,v,none⟩ (.slice A4 (N3+1) c4)) from hbw.setCell (show W1.heap.size<=gO from HGO.out.1) _);have HSN:=zh (show ∃(vs:List Value) (LL:List (List Int)),B<=(w'.setCell ⟨gO,v,none⟩ (.slice A4 (N3+1) c4)).heap.size/\GridA (w'.setCell ⟨gO,v,none⟩ (.slice A4 (N3+1) c4)) gO NV B vs LL/\LayX NV i (v+1) LL from⟨_,_,by simp;exact Nat.le_trans HG7.out.1 (Nat.le_trans HB9.out.size hg9.size),happ,HLX.out.2.1.push HLX.out.1 (by have:=HDD.out;have:=HSZF.out;omega)⟩);clear ho' hg' hat' hg9 hgi9 hown ho2 happ hgl hlow hbk hbw;(try simp only[Act.put,z1,z2,z3]);go_wp2_with fail;clear x1 z1;go_roundg (NV-(v+1))
          case measure=>have:=HLV.out;omega
          case rel=>exact⟨v+1,by have:=HLV.out;omega,rfl,by go_num,HB10,HSN⟩
         exact zE
        ·have q:((AF:Int)==(NJ:Int))=false:=beq_eq_false_iff_ne.2 (by omega);have q2:(AF==NJ)=false:=beq_eq_false_iff_ne.2 he;clear he;refine region_tail (S:=(fun(w':World)=>w'.rangeAt gF 0 [.int .i64 EX,.slice Al nl cl,.slice Am nm cm,.slice Ad NM cd,.slice (some ⟨vb,voff,none⟩) ND cv,.slice Ap np cp,.slice Ao NV co]/\w'.cell? ⟨gN,3,none⟩=some (.slice (some ⟨ab,aoff,none⟩) M cA)/\w'.cell? ⟨ab,aoff+i*4,none⟩=some (.int .i64 (AF:Int))/\w'.cell? ⟨vb,voff+DD*3+2,none⟩=some (.int .i64 (MC:Int)))) [] (by kernel_rfl) (HS10.out _ HB.out.drew) (fun hHeld=>?_);refine tk 0 47 ?_;refine tk 1 48 ?_;refine tk 2 49 ?_;refine tk 3 50 ?_;refine tk 4 51 ?_;refine tk 5 52 ?_;refine takeT (i:=6) (d:=53) (v:=(.agg #[.int .i64 EX,.slice Al nl cl,.slice Am nm cm,.slice Ad NM cd,.slice (some ⟨vb,voff,none⟩) ND cv,.slice Ap np cp,.slice Ao NV co])) rfl rfl (by kernel_rfl) (by kernel_rfl) (by kernel_rfl) (by kernel_rfl) (fun _ _ _ h=>h) (yieldsIf_load_mid (by rfl) 35 (.tmp 3) rfl gF 0 (by rfl) [.int .i64 EX,.slice Al nl cl,.slice Am nm cm,.slice Ad NM cd,.slice (some ⟨vb,voff,none⟩) ND cv,.slice Ap np cp,.slice Ao NV co] _ (fun w hw=>hw.1) Tryz.underlying35 rfl size_fltA) (by assumption) ?_;(try simp only[Act.put,z1,z2,z3]);refine tk 7 54 ?_;refine tk 8 55 ?_;refine takeT (i:=9) (d:=56) (v:=?_) rfl rfl (by kernel_rfl) (by kernel_rfl) (by kernel_rfl) (by kernel_rfl) (fun _ _ _ h=>h) (Or.inl ⟨by rfl,?_⟩) (by assumption) ?_;rotate_left
         ·(intro w hSw;(try dsimp only at hSw);(have f4:=hSw.1 4 _ rfl);go_simp;first | done | with_reducible rfl)
         (try simp only[Act.put,z1,z2,z3]);refine tk 10 57 ?_;refine tk 11 58 ?_;refine tk 12 59 ?_;refine tk 13 60 ?_;refine readyT (rs:=[14]) (by kernel_rfl) (by simp) ?_;refine zC rfl (fun K hK=>?_) ?_
         ·go_simp
          (refine(HNJ.out _ (HBW.out _ HB.out.drew)).mono ?_;rintro e w7 ⟨rfl,hb7⟩;have HB7:=zh (show Below W1.heap.size W1 w7 from HB.out.drew.trans (hb7.mono HB.out.drew.size));have HC7:=zh (show Below W3.heap.size W3 w7 from((zB _ _).drew:Below W3.heap.size W3 W3.drew).trans hb7);clear hb7)
          go_wp2_with fail;refine hK.out _ _ ?_ (fun hHeld=>?_)
          ·exact HS10.out _ HB7.out
          clear hK K;(try simp only[Act.put,z1,z2,z3]);refine tk 15 62 ?_;refine doneT (by kernel_rfl) ?_ _;clear hHeld;have HSN:=zh (show ∃(vs:List Value) (LL:List (List Int)),B<=w7.heap.size/\GridA w7 gO NV B vs LL/\LayX NV i (v+1) LL from by obtain⟨vs,LL,h1,h2,h3⟩:=HA.out;exact⟨vs,LL,Nat.le_trans h1 HC7.out.size,h2.below HC7.out,h3.next⟩);go_wp2_with fail;go_roundg (NV-(v+1))
          case measure=>have:=HLV.out;omega
          case rel=>exact⟨v+1,by have:=HLV.out;omega,rfl,by go_num,HB7,HSN⟩
         exact zE
       ·have HSN:=zh (show ∃(vs:List Value) (LL:List (List Int)),B<=W3.heap.size/\GridA W3 gO NV B vs LL/\LayX NV (i+1) 0 LL from by obtain⟨vs,LL,h1,h2,h3⟩:=HA.out;exact⟨vs,LL,h1,h2,h3.row (by omega)⟩);go_wp2_with fail;go_roundg (M-(i+1))
        case measure=>have:=HAE.out;omega
        case rel=>exact⟨i+1,by have:=HAE.out;omega,rfl,by go_num,HB,HSN⟩
   exact zE
  ·have HIE:=zh (show i=M by omega);go_wp2_with fail;go_ret;obtain⟨vs,LL,h1,h2,h3⟩:=HA.out
   exact⟨gO,B,vs,LL,rfl,HSS.out.2.2.2.2,h2,h3.1,fun l hl=>by
    obtain⟨k,hk,rfl⟩:=List.mem_iff_getElem.1 hl;have h5:=h3.2 k _ (zG hk);rw[if_neg (by omega)] at h5
    exact⟨by have:=HIE.out;have:=HSS.out;omega,h5.2⟩,HBW.out _ HB.out⟩
theorem settle_any(vN vS:Value)(nw st:List Int)(w:World)(hn:IntS w (Bl w.heap.size) vN nw)(hs:IntS w (Bl w.heap.size) vS st)(h0:0<nw.length)(h6:nw.length<=6)(h4:st.length<=400) :
  Calls Tryz.prog 58 #[vN,vS] w fun e w'=>∃A n c,e=.returned (.slice A n c)/\Below w.heap.size w w':=by
 have HHS:=zh (fun(d:Int) (w':World) (hb:Below w.heap.size w w')=>has15_any _ vS st d w' (hs.keep (kept_below hb)) (by omega));have HNI:=zh hn.2;obtain⟨An,cn,rfl,-⟩:=hn.1;obtain⟨nb,nof,rfl,hnb,hnc⟩:=ints_at hn h0;have hs0:=hs;obtain⟨As,cs,rfl,-⟩:=hs0.1
 have HSC:=zh (show ∀j,j<st.length->∃b off,As=some ⟨b,off,none⟩/\∀w',Below w.heap.size w w'->w'.cell? ⟨b,off+j,none⟩=some (.int .i64 (gt st j)) from fun j hj=>by
  obtain⟨b,off,hA,hb,hc⟩:=ints_at hs (by omega)
  exact⟨b,off,hA,fun w' h=>hc j hj w' (h.block b hb)⟩)
 have HNC:=zh (show ∀j,j<nw.length->∀w',Below w.heap.size w w'->w'.cell? ⟨nb,nof+j,none⟩=some (.int .i64 (gt nw j)) from fun j hj w' h=>hnc j hj w' (h.block nb hnb));obtain⟨L,hL⟩:=zx nw.length;obtain⟨S,hS⟩:=zx st.length;have hmk:=mk_ints L (by omega);have HGI:=zh (show ∀j,j<L->I64 (gt nw j) from fun j hj=>HNI.out _ (List.mem_of_getElem? (get_gt (by omega))));rw[<-hL] at HNC h0 h6;rw[<-hS] at HHS HSC h4;rw[<-hL,<-hS];have HSZ:=zh (show 0<L/\L<=6/\S<=400 from⟨h0,h6,h4⟩)
 have l6:(L:Int)<=6:=by omega
 have s4:(S:Int)<=400:=by omega
 clear hn hs hs0 hnb hnc hL hS h0 h6 h4 HNI;go_enter Tryz.func58,Tryz.ntmps58;go_upto_region 3 with fail;obtain⟨W1,hW1⟩:=zx (w.alloc (.cells (Array.replicate L (.int .i64 0)) 3));obtain⟨gO,hgO⟩:=zx w.heap.size;obtain⟨W2,hW2⟩:=zx (W1.alloc (.cells #[] 3));obtain⟨gU,hgU⟩:=zx W1.heap.size
 have hr1:RowI W1 gO (List.replicate L 0):=by rw[hW1,hgO];exact RowI.new _ _ _
 have hb1:Below w.heap.size w W1:=by rw[hW1];exact(zB _ _).alloc (zR _) _
 have hb2:Below W1.heap.size W1 W2:=by rw[hW2];exact(zB _ _).alloc (zR _) _
 have hs1:W1.heap.size=w.heap.size+1:=by rw[hW1];simp
 have hu:OwnI W2 gU (.slice (some ⟨gU,0,none⟩) 0 0) []:=by rw[hW2,hgU];exact World.ownsRow_made W1 #[] 0 (zR _) (by unfold maxLen;omega) rfl
 have HST:=zh (show Below w.heap.size w W2/\RowI W2 gO (List.replicate L 0)/\OwnI W2 gU (.slice (some ⟨gU,0,none⟩) 0 0) []/\gU<=W2.heap.size from⟨hb1.trans (hb2.mono hb1.size),hr1.below hb2,hu,by rw[hgU];exact hb2.size⟩);have HG:=zh (show w.heap.size<=gO/\gO<gU from by omega)
 have hgu2:gO+1=gU:=by omega
 rw[<-hW1,<-hW2,show w.heap.size+1=gU by omega,<-hgO];clear hmk hW1 hW2 hgO hgU hr1 hb1 hb2 hs1 hu hgu2;go_wp2_with fail;go_loopg [6,7] L (fun z v6 v7 wr=>∃(i:Nat) (O us:List Int),i<=L/\z=L-i/\v7=.int .i64 (i:Int)/\Hid (Below w.heap.size w wr)/\Hid (RowI wr gO O/\O.length=L/\OwnI wr gU v6 us/\us.length<=i/\(∀x∈us,I64 x)/\gU<=wr.heap.size))
 case atStart=>exact⟨0,_,[],by omega,rfl,rfl,zh HST.out.1,zh ⟨HST.out.2.1,by simp,HST.out.2.2.1,by simp,fun x hx=>(by cases hx),HST.out.2.2.2⟩⟩
 case round =>
  obtain⟨i,O,us,hi,rfl,rfl,HB,HR⟩:=hrel;obtain⟨W3,hW3⟩:=zx wr;rw[<-hW3] at HB HR ⊢;clear hW3;obtain⟨A6,k6,hv6⟩:=HR.out.2.2.1.form;subst hv6;obtain⟨NU,hNU⟩:=zx us.length;rw[<-hNU] at HR ⊢;have HNU:=zh hNU;clear hNU;by_cases hlt:i<L
  ·have i1:(i:Int)<(L:Int):=by omega
   have HLT:=zh hlt;obtain⟨x1,z1⟩:=HR.out.1.at_ (k:=i) (by rw[HR.out.2.1];exact hlt);have HB4:=zh (HB.out.setCell (p:=⟨gO,i,none⟩) HG.out.1 (.int .i64 (-1)));have HR4:=zh (show RowI (W3.setCell ⟨gO,i,none⟩ (.int .i64 (-1))) gO (O.set i (-1))/\(O.set i (-1)).length=L/\OwnI (W3.setCell ⟨gO,i,none⟩ (.int .i64 (-1))) gU (.slice A6 NU k6) us/\gU<=(W3.setCell ⟨gO,i,none⟩ (.int .i64 (-1))).heap.size from⟨HR.out.1.set i (-1),by rw[List.length_set];exact HR.out.2.1,ownsRow_setCell_below HR.out.2.2.1 HG.out.2 _,by simp;exact HR.out.2.2.2.2.2⟩);obtain⟨W4,hW4⟩:=zx (W3.setCell ⟨gO,i,none⟩ (.int .i64 (-1)));rw[<-hW4] at HB4 HR4;have n1:=HNC.out i hlt W4 HB4.out;obtain⟨X,hX⟩:=zx (gt nw i);have hxi:=HGI.out i hlt;rw[<-hX] at n1 hxi;have HXI:=zh hxi;have hh1:=HHS.out X W4 HB4.out;have hh2:=has15_any _ _ us X W4 (HR4.out.2.2.1.intS HR.out.2.2.2.2.1) (by have:=HR.out.2.2.2.1;have:=HSZ.out;have:=HNU.out;omega);obtain⟨B1,hB1⟩:=zx (st.contains X);obtain⟨B2,hB2⟩:=zx (us.contains X);rw[<-hB1] at hh1;rw[<-hB2] at hh2;have HH1:=zh hh1;have HH2:=zh hh2;clear hX hxi hh1 hh2 hB1 hB2 hlt;go_upto_region 7 with fail;rw[<-hW4];clear hW4 x1 z1
   cases B1 with
   | false =>
    go_wp2_with fail;refine HH1.out.mono ?_;rintro e w5 ⟨rfl,h5⟩;obtain⟨W5,hW5⟩:=zx w5;rw[<-hW5] at h5 ⊢;clear hW5;have HB5:=zh (h5.symm▸HB4.out:Below w.heap.size w W5);have HR5:=zh (h5.symm▸HR4.out);clear h5;go_wp2_with fail;go_roundg (L-(i+1))
    case measure=>have:=HLT.out;omega
    case rel=>exact⟨i+1,_,us,by have:=HLT.out;omega,rfl,by go_num,HB5,zh ⟨HR5.out.1,HR5.out.2.1,HR5.out.2.2.1,by have:=HR.out.2.2.2.1;have:=HNU.out;omega,HR.out.2.2.2.2.1,HR5.out.2.2.2⟩⟩
   | true =>
    cases B2 with
    | true =>
     go_wp2_with fail;refine HH1.out.mono ?_;rintro e w5 ⟨rfl,h5⟩;subst h5;go_wp2_with fail;refine HH2.out.mono ?_;rintro e w6 ⟨rfl,h6⟩;obtain⟨W5,hW5⟩:=zx w6;rw[<-hW5] at h6 ⊢;clear hW5;have HB5:=zh (h6.symm▸HB4.out:Below w.heap.size w W5);have HR5:=zh (h6.symm▸HR4.out);clear h6;go_wp2_with fail;go_roundg (L-(i+1))
     case measure=>have:=HLT.out;omega
     case rel=>exact⟨i+1,_,us,by have:=HLT.out;omega,rfl,by go_num,HB5,zh ⟨HR5.out.1,HR5.out.2.1,HR5.out.2.2.1,by have:=HR.out.2.2.2.1;have:=HNU.out;omega,HR.out.2.2.2.2.1,HR5.out.2.2.2⟩⟩
    | false =>
     go_wp2_with fail;refine HH1.out.mono ?_;rintro e w5 ⟨rfl,h5⟩;subst h5;go_wp2_with fail;refine HH2.out.mono ?_;rintro e w6 ⟨rfl,h6⟩;obtain⟨W5,hW5⟩:=zx w6;rw[<-hW5] at h6 ⊢;clear hW5;have HB5:=zh (h6.symm▸HB4.out:Below w.heap.size w W5);have HR5:=zh (h6.symm▸HR4.out);rw[<-h6] at n1;obtain⟨x1,z1⟩:=HR5.out.1.at_ (k:=i) (by rw[HR5.out.2.1];exact HLT.out);have HB6:=zh (HB5.out.setCell (p:=⟨gO,i,none⟩) HG.out.1 (.int .i64 X));have hr6:=HR5.out.1.set i X;have ho6:OwnI (W5.setCell ⟨gO,i,none⟩ (.int .i64 X)) gU (.slice A6 NU k6) us:=ownsRow_setCell_below HR5.out.2.2.1 HG.out.2 _
     have hs6:gU<=(W5.setCell ⟨gO,i,none⟩ (.int .i64 X)).heap.size:=by simp;exact HR5.out.2.2.2
     have n2:=HNC.out i HLT.out _ HB6.out
     have hx:X=gt nw i:=by
      have:=HNC.out i HLT.out W5 HB5.out;rw[n1] at this;injection this with this;injection this
     rw[<-hx] at n2;obtain⟨W6,hW6⟩:=zx (W5.setCell ⟨gO,i,none⟩ (.int .i64 X));rw[<-hW6] at HB6 hr6 ho6 hs6 n2;have HR6:=zh (And.intro hr6 (And.intro ho6 hs6))
     have hl6:((O.set i (-1)).set i X).length=L:=by rw[List.length_set];exact HR5.out.2.1
     have HL6:=zh hl6;clear h6 hr6 ho6 hs6 hx hl6;go_upto_region 9 with fail;rw[<-hW6];clear hW6 x1 z1 n1;go_wp2_with (at_builtin;refine app_int8 X (.tmp 45) (.tmp 50) rfl rfl gU (.slice A6 NU k6) us (by rfl) HR6.out.2.1 (by rfl) (by have:=HR.out.2.2.2.1;have:=HNU.out;have:=HSZ.out;omega) HR6.out.2.2 ?_;intro v7 w7 ho7 hg7;have HO7:=zh ho7;have HR7:=zh (show RowI w7 gO ((O.set i (-1)).set i X) from HR6.out.1.of (hg7.block gO HR6.out.1.lt (fun e=>by have:=HR6.out.2.1.lt gO e.symm;have:=HG.out;omega)));have HB7:=zh (show Below w.heap.size w w7 from Below.grown HB6.out hg7 HB6.out.size (fun k hk=>by have:=HR6.out.2.1.lt k hk;have:=HG.out;omega));have HS7:=zh (Nat.le_trans HR6.out.2.2 hg7.size);clear ho7 hg7);go_roundg (L-(i+1))
     case measure=>have:=HLT.out;omega
     case rel=>exact⟨i+1,_,us++[X],by have:=HLT.out;omega,rfl,by go_num,HB7,zh ⟨HR7.out,HL6.out,HO7.out,by rw[zP];have:=HR.out.2.2.2.1;have:=HNU.out;simp;omega,fun x hx=>by
      rcases List.mem_append.1 hx with hx | hx
      ·exact HR.out.2.2.2.2.1 x hx
      ·rw[List.mem_singleton.1 hx];exact HXI.out,HS7.out⟩⟩
  ·have HU6:=zh (show OwnI W3 gU (.slice A6 NU k6) us/\us.length<=L/\(∀x∈us,I64 x)/\gU<=W3.heap.size from⟨HR.out.2.2.1,by have:=HR.out.2.2.2.1;have:=HNU.out;omega,HR.out.2.2.2.2.1,HR.out.2.2.2.2.2⟩);go_wp2_with fail;go_loopg [8,9] L (fun z v8 v9 wr=>∃(i a:Nat) (O:List Int),i<=L/\a<=S/\z=L-i/\v8=.int .i64 (a:Int)/\v9=.int .i64 (i:Int)/\Hid (Below w.heap.size w wr)/\Hid (RowI wr gO O/\O.length=L/\OwnI wr gU (.slice A6 NU k6) us))
   case atStart=>exact⟨0,0,O,by omega,by omega,rfl,rfl,rfl,HB,zh ⟨HR.out.1,HR.out.2.1,HR.out.2.2.1⟩⟩
   case round =>
    obtain⟨i,a,O,hi,ha,rfl,rfl,rfl,HB,HR⟩:=hrel;obtain⟨W4,hW4⟩:=zx wr;rw[<-hW4] at HB HR ⊢;clear hW4;by_cases hlt:i<L
    ·have i1:(i:Int)<(L:Int):=by omega
     have HLT:=zh hlt;clear hlt;go_wp2_with fail;go_loopg [8] (S-a) (fun z v8 wr=>∃(b:Nat) (O:List Int),b<=S/\z=S-b/\v8=.int .i64 (b:Int)/\Hid (Below w.heap.size w wr)/\Hid (RowI wr gO O/\O.length=L/\OwnI wr gU (.slice A6 NU k6) us))
     case atStart=>exact⟨a,O,ha,rfl,rfl,HB,HR⟩
     case round =>
      obtain⟨b,O,hbS,rfl,rfl,HB,HR⟩:=hrel;obtain⟨W5,hW5⟩:=zx wr;rw[<-hW5] at HB HR ⊢;clear hW5;obtain⟨x1,z1⟩:=HR.out.1.at_ (k:=i) (by rw[HR.out.2.1];exact HLT.out);obtain⟨OX,hOX⟩:=zx (gt O i);rw[<-hOX] at x1
      have hbS':(b:Int)<=(S:Int):=by omega
      by_cases he:OX = -1
      ·have q1:(OX==(-1:Int))=true:=beq_iff_eq.2 he;by_cases hlt3:b<S
       ·have i3:(b:Int)<(S:Int):=by omega
        obtain⟨sb,sof,hAs,hsc⟩:=HSC.out b hlt3;have s1:=hsc W5 HB.out;obtain⟨Y,hY⟩:=zx (gt st b);rw[<-hY] at s1;subst hAs;have hh2:=has15_any _ _ us Y W5 (HR.out.2.2.intS HU6.out.2.2.1) (by have:=HU6.out.2.1;have:=HSZ.out;omega);obtain⟨B2,hB2⟩:=zx (us.contains Y);rw[<-hB2] at hh2;have HH2:=zh hh2;have HBB:=zh (show b<S from hlt3);have HSC2:=zh (show ∀w',Below w.heap.size w w'->w'.cell? ⟨sb,sof+b,none⟩=some (.int .i64 Y) from fun w' h=>by rw[hY];exact hsc w' h);clear hOX he hsc hY hB2 hh2 hlt3
        cases B2 with
        | true =>
         go_wp2_with fail;refine HH2.out.mono ?_;rintro e w6 ⟨rfl,h6⟩;obtain⟨W6,hW6⟩:=zx w6;rw[<-hW6] at h6 ⊢;clear hW6;have HB6:=zh (h6.symm▸HB.out:Below w.heap.size w W6);have HR6:=zh (h6.symm▸HR.out);clear h6 x1 z1 s1;go_wp2_with fail;go_roundg (S-(b+1))
         case measure=>have:=HBB.out;omega
         case rel=>exact⟨b+1,O,by have:=HBB.out;omega,rfl,by go_num,HB6,HR6⟩
        | false =>
         go_wp2_with fail;refine HH2.out.mono ?_;rintro e w6 ⟨rfl,h6⟩;obtain⟨W6,hW6⟩:=zx w6;rw[<-hW6] at h6 ⊢;clear hW6;have HB6:=zh (h6.symm▸HB.out:Below w.heap.size w W6);have HR6:=zh (h6.symm▸HR.out);clear h6 x1 z1 s1;have s1:=HSC2.out W6 HB6.out;obtain⟨x1,z1⟩:=HR6.out.1.at_ (k:=i) (by rw[HR6.out.2.1];exact HLT.out);have HB7:=zh (HB6.out.setCell (p:=⟨gO,i,none⟩) HG.out.1 (.int .i64 Y));have HR7:=zh (show RowI (W6.setCell ⟨gO,i,none⟩ (.int .i64 Y)) gO (O.set i Y)/\(O.set i Y).length=L/\OwnI (W6.setCell ⟨gO,i,none⟩ (.int .i64 Y)) gU (.slice A6 NU k6) us from⟨HR6.out.1.set i Y,by rw[List.length_set];exact HR6.out.2.1,ownsRow_setCell_below HR6.out.2.2 HG.out.2 _⟩);go_wp2_with fail;go_roundg (S-(b+1))
         case measure=>have:=HBB.out;omega
         case rel=>exact⟨b+1,_,by have:=HBB.out;omega,rfl,by go_num,HB7,HR7⟩
       ·have HBE:=zh (show b=S by omega);clear hOX he;go_wp2_with fail;go_roundg (L-(i+1))
        case measure=>have:=HLT.out;omega
        case rel=>exact⟨i+1,b,O,by have:=HLT.out;omega,hbS,rfl,rfl,by go_num,HB,HR⟩
      ·have q1:(OX==(-1:Int))=false:=beq_eq_false_iff_ne.2 he;clear hOX he;go_wp2_with fail;go_roundg (L-(i+1))
       case measure=>have:=HLT.out;omega
       case rel=>exact⟨i+1,b,O,by have:=HLT.out;omega,hbS,rfl,rfl,by go_num,HB,HR⟩
    ·go_wp2_with fail;go_ret;exact⟨_,_,_,rfl,HB.out⟩
end Go.Proofs.YtgfaieppacabjaaGreat
