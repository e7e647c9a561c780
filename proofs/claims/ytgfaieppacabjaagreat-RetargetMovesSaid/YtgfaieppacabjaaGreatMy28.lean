/- drydockref15.has, volumeOf, walked. -/
import Derived.Test.YtgfaieppacabjaaGreatMy27
import Derived.Test.YtgfaieppacabjaaGreatMy22
set_option linter.unusedSectionVars false
set_option maxRecDepth 100000
set_option maxHeartbeats 12800000
namespace Go.Proofs.YtgfaieppacabjaaGreat
open Go.RowKit
set_option linter.unusedVariables false
set_option linter.unusedSimpArgs false
theorem has15_any(R:Nat->Prop)(v:Value)(l:List Int)(d:Int)(w:World)(h:IntS w R v l)(hl:l.length<=100000) :
  Calls Tryz.prog 109 #[v,.int .i64 d] w fun e w'=>e=.returned (.bool (l.contains d))/\w'=w:=by
 have h0:=h;obtain⟨A,c,rfl,-⟩:=h0.1;obtain⟨L,hL⟩:=zx l.length;have HIS:=zh h;have HL:=zh hL;rw[<-hL] at hl ⊢;clear h h0 hL;go_enter Tryz.func109,Tryz.ntmps109
 have i9:(L:Int)<=100000:=by omega
 go_wp2_with fail;go_loopg [5] L (fun z v5 wr=>∃j:Nat,j<=L/\z=L-j/\v5=.int .i64 (j:Int)/\w=wr/\Hid (∀i,i<j->gt l i≠d))
 case atStart=>exact⟨0,by omega,rfl,rfl,rfl,zh (fun i hi=>by omega)⟩
 case round =>
  obtain⟨j,hj,rfl,rfl,rfl,HN⟩:=hrel;by_cases hlt:j<L
  ·have i1:(j:Int)<(L:Int):=by omega
   obtain⟨b,off,hA,-,hc⟩:=ints_at HIS.out (by rw[<-HL.out];omega);have hx:=hc j (by rw[<-HL.out];exact hlt) w rfl;subst hA;obtain⟨X,hX⟩:=zx (gt l j);rw[<-hX] at hx;have HX:=zh hX;clear hc hX;by_cases he:X=d
   ·have q:(X==d)=true:=beq_iff_eq.2 he;have HE:=zh he;clear he;go_wp2_with fail;go_ret
    have hm:l.contains d=true:=by
     rw[List.contains_iff_mem];have h1:=get_gt (l:=l) (i:=j) (by rw[<-HL.out];exact hlt);rw[<-HX.out,HE.out] at h1;exact List.mem_of_getElem? h1
    exact⟨by rw[hm];rfl,rfl⟩
   ·have q:(X==d)=false:=beq_eq_false_iff_ne.2 he;have HE:=zh he;clear he;go_wp2_with fail;go_roundg (L-(j+1))
    case measure=>omega
    case rel=>exact⟨j+1,by omega,rfl,by go_num,rfl,zh (fun i hi=>by
     rcases Nat.lt_succ_iff_lt_or_eq.1 hi with h | rfl
     ·exact HN.out i h
     ·rw[<-HX.out];exact HE.out)⟩
  ·have HJE:=zh (show j=L by omega);go_wp2_with fail;go_ret
   have hm:l.contains d=false:=by
    rw[Bool.eq_false_iff];intro h;rw[List.contains_iff_mem] at h;obtain⟨i,hi,h2⟩:=List.mem_iff_getElem.1 h;exact HN.out i (by rw[HJE.out,HL.out];exact hi) (by rw[<-h2];exact gt_get (zG hi))
   exact⟨by rw[hm];rfl,rfl⟩
def volI(F:FltM)(a:ArcM):Int:=match volOf F a with | some v=>(v:Int) | none => -1
theorem volOf_some{F:FltM}{a:ArcM}{v:Nat}(ht:¬a.t<drvN F 0)(hv:v<F.vols.length)(h1:a.f=nodN F v (macN F (a.t-drvN F 0)))(h2:∀u,u<v->a.f≠nodN F u (macN F (a.t-drvN F 0))):volOf F a=some v:=by
 unfold volOf;rw[if_neg ht,List.find?_range_eq_some];exact⟨by simpa using h1,List.mem_range.2 hv,fun u hu=>by simpa using h2 u hu⟩
theorem volOf_no{F:FltM}{a:ArcM}(ht:¬a.t<drvN F 0)(h2:∀u,u<F.vols.length->a.f≠nodN F u (macN F (a.t-drvN F 0))):volOf F a=none:=by
 unfold volOf;rw[if_neg ht,List.find?_eq_none]
 exact fun u hu=>by simpa using h2 u (List.mem_range.1 hu)
theorem volof_any(N:Nat)(hN:N<=12)(vl vm vd vv vp vo:Value)(F:FltM)(a:ArcM)(w:World)(hf:FleetS w (Bl w.heap.size) vl vm vd vv vp vo F)(hok:FleetOk N F)(hat:a.t<drvN F F.dves.length) :
  Calls Tryz.prog 108 #[.agg #[.int .i64 F.ext,vl,vm,vd,vv,vp,vo],.agg #[.int .i64 (a.f:Int),.int .i64 (a.t:Int),.int .i64 a.cap,.int .i64 a.cost]] w fun e w'=>e=.returned (.int .i64 (volI F a))/\Below w.heap.size w w':=by
 have HNO:=zh (fun(v i:Nat) (w':World) (hb:Below w.heap.size w w') (hv:v<F.vols.length) (hi:i<F.doms.length)=>node_any N hN _ _ _ _ _ _ F v i w' (hf.below hb) hok hv hi)
 have hdr:=fun(w':World) (hb:Below w.heap.size w w')=>driven_any N hN _ _ _ _ _ _ F 0 w' (hf.below hb) hok (by omega)
 have hdl:=drv_le hok hN 0;obtain⟨Al,nl,cl,rfl⟩:=hf.1.form3;obtain⟨Am,nm,cm,rfl⟩:=hf.2.1.form3;obtain⟨Ad,cd,hvd,-⟩:=hf.2.2.1.form;obtain⟨Av,cv,hvv,-⟩:=hf.2.2.2.1.form;obtain⟨Ap,np,cp,rfl⟩:=hf.2.2.2.2.1.form3;obtain⟨Ao,co,hvo,-⟩:=hf.2.2.2.2.2.form;subst hvd hvv hvo;obtain⟨vb,voff,-,hAv,hRv,-,-⟩:=hf.2.2.2.1.at_ (k:=0) (by have:=hok.dve1;omega);subst hAv
 have HDV:=zh (show ∀d,d<F.dves.length->∀w',Below w.heap.size w w'->w'.cell? ⟨vb,voff+d*3+2,none⟩=some (.int .i64 (macN F d:Int)) from fun d hd w' hb=>by
  obtain⟨b,off,cs,e,hR,-,hc,hk⟩:=hf.2.2.2.1.at_ (k:=d) hd;injection e with e;injection e with e1 e2;subst e1 e2;unfold DveK at hk;subst hk;obtain⟨-,-,m,hm,-⟩:=hok.dves d _ (zG hd)
  have:(macN F d:Int)=F.dves[d].machine:=by unfold macN;rw[zG hd];show((F.dves[d].machine).toNat:Int)=_;rw[hm,Int.toNat_natCast]
  rw[this];exact(hb.cell (p:=⟨vb,_,none⟩) hR).trans (hc 2 _ rfl))
 have HSZF:=zh (show F.dves.length<=9/\F.vols.length<=12/\1<=F.vols.length from⟨hok.dveN,by have:=hok.volN;omega,hok.vol1⟩);have HOK:=zh hok;obtain⟨NM,hNM⟩:=zx F.doms.length;obtain⟨ND,hND⟩:=zx F.dves.length;obtain⟨NV,hNV⟩:=zx F.vols.length;obtain⟨EX,hEX⟩:=zx F.ext
 have hd0:drvN F ND=drvN F 0+ND:=by unfold drvN;omega
 have HLN:=zh (show NM=F.doms.length/\ND=F.dves.length/\NV=F.vols.length from⟨hNM,hND,hNV⟩);rw[<-hNM,<-hND,<-hNV,<-hEX] at HNO hdr;rw[<-hND] at HDV hat;rw[<-hND,<-hNV] at HSZF;rw[<-hND,<-hNM,<-hNV,<-hEX];obtain⟨D0,hD0⟩:=zx (drvN F 0);rw[<-hD0] at hdr hdl hd0;rw[hd0] at hat;have HDR:=zh hdr;obtain⟨AF,hAF⟩:=zx a.f;obtain⟨AT,hAT⟩:=zx a.t;obtain⟨RI,hRI⟩:=zx (volI F a);rw[<-hAT] at hat;rw[<-hAF,<-hAT,<-hRI];have HE:=zh (show AF=a.f/\AT=a.t/\RI=volI F a/\D0=drvN F 0/\D0<=254/\AT<D0+ND from⟨hAF,hAT,hRI,hD0,hdl,hat⟩);obtain⟨W1,hW1⟩:=zx ((w.alloc (.cells #[.int .i64 EX,.slice Al nl cl,.slice Am nm cm,.slice Ad NM cd,.slice (some ⟨vb,voff,none⟩) ND cv,.slice Ap np cp,.slice Ao NV co] 35)).alloc (.cells #[.int .i64 (AF:Int),.int .i64 (AT:Int),.int .i64 a.cap,.int .i64 a.cost] 172));obtain⟨gF,hgF⟩:=zx w.heap.size;obtain⟨gA,hgA⟩:=zx (w.heap.size+1)
 have hb1:Below w.heap.size w W1:=by rw[hW1];exact((zB _ _).alloc (zR _) _).alloc (by simp) _
 have hkF:W1.heap[gF]?=some (.cells #[.int .i64 EX,.slice Al nl cl,.slice Am nm cm,.slice Ad NM cd,.slice (some ⟨vb,voff,none⟩) ND cv,.slice Ap np cp,.slice Ao NV co] 35 (0,0)):=by rw[hW1,hgF];exact(zH _ _ _ (by simp)).trans (zN _ _)
 have hkA:W1.heap[gA]?=some (.cells #[.int .i64 (AF:Int),.int .i64 (AT:Int),.int .i64 a.cap,.int .i64 a.cost] 172 (0,0)):=by rw[hW1,hgA];exact heap_alloc_at _ _ _ (by simp)
 have HBW:=zh (show ∀w',Below W1.heap.size W1 w'->Below w.heap.size w w' from fun w' hb=>hb1.trans (hb.mono hb1.size));have HK:=zh (show ∀w',Below W1.heap.size W1 w'->w'.heap[gF]?=some (.cells #[.int .i64 EX,.slice Al nl cl,.slice Am nm cm,.slice Ad NM cd,.slice (some ⟨vb,voff,none⟩) ND cv,.slice Ap np cp,.slice Ao NV co] 35 (0,0))/\w'.heap[gA]?=some (.cells #[.int .i64 (AF:Int),.int .i64 (AT:Int),.int .i64 a.cap,.int .i64 a.cost] 172 (0,0)) from fun w' hb=>⟨(hb.block gF (zA.1 hkF).1).trans hkF,(hb.block gA (zA.1 hkA).1).trans hkA⟩);have HW:=zh (And.intro hW1 (And.intro hgF hgA));have HS1:=zh (show ∀w':World,Below W1.heap.size W1 w'->(fun(w':World)=>w'.rangeAt gF 0 [.int .i64 EX,.slice Al nl cl,.slice Am nm cm,.slice Ad NM cd,.slice (some ⟨vb,voff,none⟩) ND cv,.slice Ap np cp,.slice Ao NV co]/\w'.cell? ⟨gA,1,none⟩=some (.int .i64 (AT:Int))) w' from fun w' hb=>⟨range_cells (HK.out w' hb).1,(cells4 (HK.out w' hb).2).2.1⟩);have w1:IntKind.i64.wrap ((AT:Int)-(D0:Int))=(AT:Int)-(D0:Int):=zI _ (by have:=HSZF.out;omega);clear hf hok hRv hNM hND hNV hEX hD0 hdr hdl hd0 hat hAF hAT hRI hW1 hgF hgA hb1 hkF hkA;go_enter Tryz.func108,Tryz.ntmps108;go_upto_region 1 with fail;rw[<-HW.out.1,<-HW.out.2.1,show gF+1=gA by (have:=HW.out;omega)];refine region_tail (S:=(fun(w':World)=>w'.rangeAt gF 0 [.int .i64 EX,.slice Al nl cl,.slice Am nm cm,.slice Ad NM cd,.slice (some ⟨vb,voff,none⟩) ND cv,.slice Ap np cp,.slice Ao NV co]/\w'.cell? ⟨gA,1,none⟩=some (.int .i64 (AT:Int)))) [] (by kernel_rfl) (HS1.out _ (zB _ _).drew) (fun hHeld=>?_);refine tk 0 7 ?_;refine tk 1 8 ?_;refine takeT (i:=2) (d:=9) (v:=(.agg #[.int .i64 EX,.slice Al nl cl,.slice Am nm cm,.slice Ad NM cd,.slice (some ⟨vb,voff,none⟩) ND cv,.slice Ap np cp,.slice Ao NV co])) rfl rfl (by kernel_rfl) (by kernel_rfl) (by kernel_rfl) (by kernel_rfl) (fun _ _ _ h=>h) (yieldsIf_load_mid (by rfl) 35 (.tmp 2) rfl gF 0 (by rfl) [.int .i64 EX,.slice Al nl cl,.slice Am nm cm,.slice Ad NM cd,.slice (some ⟨vb,voff,none⟩) ND cv,.slice Ap np cp,.slice Ao NV co] _ (fun w hw=>hw.1) Tryz.underlying35 rfl size_fltA) (by assumption) ?_;(try simp only[Act.put,z1,z2,z3]);refine readyT (rs:=[3]) (by kernel_rfl) (by simp) ?_;refine zC rfl (fun K hK=>?_) ?_
 ·go_simp
  (refine(HDR.out _ (HBW.out _ (((zB _ _).drew:Below W1.heap.size W1 W1.drew)))).mono ?_;rintro e w5 ⟨rfl,hb5⟩;have HB5:=zh (show Below W1.heap.size W1 w5 from(((zB _ _).drew:Below W1.heap.size W1 W1.drew)).trans (hb5.mono (((zB _ _).drew:Below W1.heap.size W1 W1.drew)).size));clear hb5)
  go_wp2_with fail;refine hK.out _ _ ?_ (fun hHeld=>?_)
  ·exact HS1.out _ HB5.out
  clear hK K;(try simp only[Act.put,z1,z2,z3]);refine tk 4 11 ?_;refine tk 5 5 ?_;refine doneT (by kernel_rfl) ?_ _;clear hHeld;clear w1;by_cases hlow:AT<D0
  ·have n1:(AT:Int)-(D0:Int)<0:=by omega
   have t1:decide ((0:Int)<=(AT:Int)-(D0:Int))=false:=decide_eq_false (by omega);obtain⟨DI,hDI⟩:=zx ((AT:Int)-(D0:Int));rw[<-hDI] at n1 t1 ⊢;have HLOW:=zh hlow
   have nv1:(0:Int)<(NV:Int):=by have:=HSZF.out;omega
   have nv2:0<NV:=by have:=HSZF.out;omega
   obtain⟨c0,c1,c2,c3,c4,c5,c6⟩:=cells7 (HK.out w5 HB5.out).1;clear hDI hlow;go_wp2_with fail;go_loopg [6] 0 (fun z v6 wr=>v6=.int .i64 0/\w5=wr)
   case atStart=>exact⟨rfl,rfl⟩
   case round =>
    obtain⟨rfl,rfl⟩:=hrel;go_wp2_with fail;go_ret
    exact⟨by
     have h:volOf F a=none:=volOf_low (by rw[<-HE.out.2.1,<-HE.out.2.2.2.1];exact HLOW.out)
     rw[HE.out.2.2.1];unfold volI;rw[h];rfl,HBW.out _ HB5.out⟩
  ·obtain⟨DD,hDD⟩:=zx (AT-D0)
   have hde:(AT:Int)-(D0:Int)=(DD:Int):=by omega
   rw[hde]
   have hdl:DD<ND:=by have:=HE.out;omega
   obtain⟨MC,hMC⟩:=zx (macN F DD);have HDD:=zh (show ¬AT<D0/\DD=AT-D0/\MC=macN F DD/\DD<ND from⟨hlow,hDD,hMC,hdl⟩);have HMC:=zh (show MC<NM from by rw[hMC,HLN.out.1];exact mac_lt HOK.out (by rw[<-HLN.out.2.1];exact hdl))
   have i2:(DD:Int)<(ND:Int):=by omega
   have nd9:(ND:Int)<=9:=by have:=HSZF.out;omega
   have v12:(NV:Int)<=12:=by have:=HSZF.out;omega
   clear hlow hDD hde hdl hMC;go_wp2_with fail;go_loopg [6] NV (fun z v6 wr=>∃v:Nat,v<=NV/\z=NV-v/\v6=.int .i64 (v:Int)/\Hid (Below W1.heap.size W1 wr)/\Hid (∀u,u<v->AF≠nodN F u MC))
   case atStart=>exact⟨0,by omega,rfl,rfl,HB5,zh (fun u hu=>by omega)⟩
   case round =>
    obtain⟨v,hv,rfl,rfl,HB,HN⟩:=hrel;obtain⟨W3,hW3⟩:=zx wr;rw[<-hW3] at HB ⊢;clear hW3;obtain⟨c0,c1,c2,c3,c4,c5,c6⟩:=cells7 (HK.out W3 HB.out).1;by_cases hlt:v<NV
    ·have i1:(v:Int)<(NV:Int):=by omega
     have HS5:=zh (show ∀w':World,Below W1.heap.size W1 w'->(fun(w':World)=>w'.rangeAt gF 0 [.int .i64 EX,.slice Al nl cl,.slice Am nm cm,.slice Ad NM cd,.slice (some ⟨vb,voff,none⟩) ND cv,.slice Ap np cp,.slice Ao NV co]/\w'.cell? ⟨gA,0,none⟩=some (.int .i64 (AF:Int))/\w'.cell? ⟨vb,voff+DD*3+2,none⟩=some (.int .i64 (MC:Int))) w' from fun w' hb=>⟨range_cells (HK.out w' hb).1,(cells4 (HK.out w' hb).2).1,by rw[HDD.out.2.2.1];exact HDV.out DD HDD.out.2.2.2 w' (HBW.out w' hb)⟩);obtain⟨NJ,hNJ⟩:=zx (nodN F v MC);have hno:=HNO.out v MC;rw[<-hNJ] at hno;have HNJ:=zh (fun(w':World) (hb:Below w.heap.size w w')=>hno w' hb hlt HMC.out);have HNE:=zh hNJ;have HLT:=zh hlt;clear hno hNJ;go_upto_region 5 with fail;clear c0 c1 c2 c3 c4 c5 c6;by_cases he:AF=NJ
     ·have q:((AF:Int)==(NJ:Int))=true:=beq_iff_eq.2 (by omega);have q2:(AF==NJ)=true:=beq_iff_eq.2 he;have HEQ:=zh he;clear he;refine region_tail (S:=(fun(w':World)=>w'.rangeAt gF 0 [.int .i64 EX,.slice Al nl cl,.slice Am nm cm,.slice Ad NM cd,.slice (some ⟨vb,voff,none⟩) ND cv,.slice Ap np cp,.slice Ao NV co]/\w'.cell? ⟨gA,0,none⟩=some (.int .i64 (AF:Int))/\w'.cell? ⟨vb,voff+DD*3+2,none⟩=some (.int .i64 (MC:Int)))) [] (by kernel_rfl) (HS5.out _ HB.out.drew) (fun hHeld=>?_);refine tk 0 23 ?_;refine tk 1 24 ?_;refine takeT (i:=2) (d:=25) (v:=(.agg #[.int .i64 EX,.slice Al nl cl,.slice Am nm cm,.slice Ad NM cd,.slice (some ⟨vb,voff,none⟩) ND cv,.slice Ap np cp,.slice Ao NV co])) rfl rfl (by kernel_rfl) (by kernel_rfl) (by kernel_rfl) (by kernel_rfl) (fun _ _ _ h=>h) (yieldsIf_load_mid (by rfl) 35 (.tmp 2) rfl gF 0 (by rfl) [.int .i64 EX,.slice Al nl cl,.slice Am nm cm,.slice Ad NM cd,.slice (some ⟨vb,voff,none⟩) ND cv,.slice Ap np cp,.slice Ao NV co] _ (fun w hw=>hw.1) Tryz.underlying35 rfl size_fltA) (by assumption) ?_;(try simp only[Act.put,z1,z2,z3]);refine tk 3 26 ?_;refine tk 4 27 ?_;refine takeT (i:=5) (d:=28) (v:=?_) rfl rfl (by kernel_rfl) (by kernel_rfl) (by kernel_rfl) (by kernel_rfl) (fun _ _ _ h=>h) (Or.inl ⟨by rfl,?_⟩) (by assumption) ?_;rotate_left
      ·(intro w hSw;(try dsimp only at hSw);(have f4:=hSw.1 4 _ rfl);go_simp;first | done | with_reducible rfl)
      (try simp only[Act.put,z1,z2,z3]);refine tk 6 29 ?_;refine tk 7 30 ?_;refine tk 8 31 ?_;refine tk 9 32 ?_;refine readyT (rs:=[10]) (by kernel_rfl) (by simp) ?_;refine zC rfl (fun K hK=>?_) ?_
      ·go_simp
       (refine(HNJ.out _ (HBW.out _ (HB.out.drew))).mono ?_;rintro e w7 ⟨rfl,hb7⟩;have HB7:=zh (show Below W1.heap.size W1 w7 from(HB.out.drew).trans (hb7.mono (HB.out.drew).size));clear hb7)
       go_wp2_with fail;refine hK.out _ _ ?_ (fun hHeld=>?_)
       ·exact HS5.out _ HB7.out
       clear hK K;(try simp only[Act.put,z1,z2,z3]);refine tk 11 34 ?_;refine doneT (by kernel_rfl) ?_ _;clear hHeld;go_wp2_with fail;go_ret
       exact⟨by
        have h:volOf F a=some v:=volOf_some (by rw[<-HE.out.2.1,<-HE.out.2.2.2.1];exact HDD.out.1) (by rw[<-HLN.out.2.2];exact HLT.out) (by
         rw[<-HE.out.1,<-HE.out.2.1,<-HE.out.2.2.2.1,<-HDD.out.2.1,<-HDD.out.2.2.1,<-HNE.out];exact HEQ.out) (fun u hu=>by
         rw[<-HE.out.1,<-HE.out.2.1,<-HE.out.2.2.2.1,<-HDD.out.2.1,<-HDD.out.2.2.1];exact HN.out u hu)
        rw[HE.out.2.2.1];unfold volI;rw[h];rfl,HBW.out _ HB7.out⟩
      exact zE
     ·have q:((AF:Int)==(NJ:Int))=false:=beq_eq_false_iff_ne.2 (by omega);have q2:(AF==NJ)=false:=beq_eq_false_iff_ne.2 he;have HEQ:=zh he;clear he;refine region_tail (S:=(fun(w':World)=>w'.rangeAt gF 0 [.int .i64 EX,.slice Al nl cl,.slice Am nm cm,.slice Ad NM cd,.slice (some ⟨vb,voff,none⟩) ND cv,.slice Ap np cp,.slice Ao NV co]/\w'.cell? ⟨gA,0,none⟩=some (.int .i64 (AF:Int))/\w'.cell? ⟨vb,voff+DD*3+2,none⟩=some (.int .i64 (MC:Int)))) [] (by kernel_rfl) (HS5.out _ HB.out.drew) (fun hHeld=>?_);refine tk 0 23 ?_;refine tk 1 24 ?_;refine takeT (i:=2) (d:=25) (v:=(.agg #[.int .i64 EX,.slice Al nl cl,.slice Am nm cm,.slice Ad NM cd,.slice (some ⟨vb,voff,none⟩) ND cv,.slice Ap np cp,.slice Ao NV co])) rfl rfl (by kernel_rfl) (by kernel_rfl) (by kernel_rfl) (by kernel_rfl) (fun _ _ _ h=>h) (yieldsIf_load_mid (by rfl) 35 (.tmp 2) rfl gF 0 (by rfl) [.int .i64 EX,.slice Al nl cl,.slice Am nm cm,.slice Ad NM cd,.slice (some ⟨vb,voff,none⟩) ND cv,.slice Ap np cp,.slice Ao NV co] _ (fun w hw=>hw.1) Tryz.underlying35 rfl size_fltA) (by assumption) ?_;(try simp only[Act.put,z1,z2,z3]);refine tk 3 26 ?_;refine tk 4 27 ?_;refine takeT (i:=5) (d:=28) (v:=?_) rfl rfl (by kernel_rfl) (by kernel_rfl) (by kernel_rfl) (by kernel_rfl) (fun _ _ _ h=>h) (Or.inl ⟨by rfl,?_⟩) (by assumption) ?_;rotate_left
      ·(intro w hSw;(try dsimp only at hSw);(have f4:=hSw.1 4 _ rfl);go_simp;first | done | with_reducible rfl)
      (try simp only[Act.put,z1,z2,z3]);refine tk 6 29 ?_;refine tk 7 30 ?_;refine tk 8 31 ?_;refine tk 9 32 ?_;refine readyT (rs:=[10]) (by kernel_rfl) (by simp) ?_;refine zC rfl (fun K hK=>?_) ?_
      ·go_simp
       (refine(HNJ.out _ (HBW.out _ (HB.out.drew))).mono ?_;rintro e w7 ⟨rfl,hb7⟩;have HB7:=zh (show Below W1.heap.size W1 w7 from(HB.out.drew).trans (hb7.mono (HB.out.drew).size));clear hb7)
       go_wp2_with fail;refine hK.out _ _ ?_ (fun hHeld=>?_)
       ·exact HS5.out _ HB7.out
       clear hK K;(try simp only[Act.put,z1,z2,z3]);refine tk 11 34 ?_;refine doneT (by kernel_rfl) ?_ _;clear hHeld;go_wp2_with fail;go_roundg (NV-(v+1))
       case measure=>have:=HLT.out;omega
       case rel=>exact⟨v+1,by have:=HLT.out;omega,rfl,by go_num,HB7,zh (fun u hu=>by
        rcases Nat.lt_succ_iff_lt_or_eq.1 hu with h | rfl
        ·exact HN.out u h
        ·rw[<-HNE.out];exact HEQ.out)⟩
      exact zE
    ·have HVE:=zh (show v=NV by omega);go_wp2_with fail;go_ret
     exact⟨by
      have h:volOf F a=none:=volOf_no (by rw[<-HE.out.2.1,<-HE.out.2.2.2.1];exact HDD.out.1) (fun u hu=>by
       have:=HN.out u (by rw[HVE.out,HLN.out.2.2];exact hu)
       rw[HDD.out.2.2.1,HDD.out.2.1,HE.out.1,HE.out.2.1,HE.out.2.2.2.1] at this;exact this)
      rw[HE.out.2.2.1];unfold volI;rw[h];rfl,HBW.out _ HB.out⟩
 exact zE
theorem size_arcA:(Tryz.prog.info? 172).map (·.size)=some 4:=by kernel_rfl
def partA(F:FltM)(L:List (List Int))(A:List ArcM)(i:Nat):List ArcM:=(A.map (costA F L)).take i++A.drop i
theorem partA_len(F:FltM)(L:List (List Int))(A:List ArcM)(i:Nat):(partA F L A i).length=A.length:=by
 unfold partA;rw[zP,List.length_take,List.length_drop,List.length_map];omega
theorem partA_zero(F:FltM)(L:List (List Int))(A:List ArcM):partA F L A 0=A:=by unfold partA;simp
theorem partA_all(F:FltM)(L:List (List Int))(A:List ArcM):partA F L A A.length=A.map (costA F L):=by
 unfold partA;rw[List.drop_length,List.append_nil,List.take_of_length_le (by simp)]
theorem partA_at{F:FltM}{L:List (List Int)}{A:List ArcM}{i:Nat}(hi:i<A.length):(partA F L A i)[i]?=A[i]?:=by
 have hl:((A.map (costA F L)).take i).length=i:=by rw[List.length_take,List.length_map];omega
 unfold partA;rw[List.getElem?_append_right (by omega),hl,Nat.sub_self,List.getElem?_drop,Nat.add_zero]
theorem partA_set{F:FltM}{L:List (List Int)}{A:List ArcM}{i:Nat}{a:ArcM}(h:A[i]?=some a):(partA F L A i).set i (costA F L a)=partA F L A (i+1):=by
 have hi:=(zL.1 h).1;apply List.ext_getElem?;intro k
 have hl:((A.map (costA F L)).take i).length=i:=by rw[List.length_take,List.length_map];omega
 have hl1:((A.map (costA F L)).take (i+1)).length=i+1:=by rw[List.length_take,List.length_map];omega
 by_cases hk:i=k
 ·subst hk;rw[List.getElem?_set_self (by rw[partA_len];exact hi)];unfold partA;rw[List.getElem?_append_left (by omega),List.getElem?_take,if_pos (by omega),List.getElem?_map,h];rfl
 ·rw[List.getElem?_set_ne hk];unfold partA;rcases Nat.lt_or_ge k i with h1 | h1
  ·rw[List.getElem?_append_left (by omega),List.getElem?_append_left (by omega),List.getElem?_take,List.getElem?_take,if_pos h1,if_pos (by omega)]
  ·rw[List.getElem?_append_right (by omega),List.getElem?_append_right (by omega),hl,hl1,List.getElem?_drop,List.getElem?_drop]
   congr 1
   omega
theorem ownA_form{w:World}{B:Nat}{v:Value}{A:List ArcM}(h:OwnK 4 ArcK w B 172 v A (fun _=>True))(h0:0<A.length):∃g c,v=.slice (some ⟨g,0,none⟩) A.length c/\B<=g:=by
 obtain⟨cs,h1,h2⟩:=h;rcases h1.2 with ⟨rfl,h3⟩ | ⟨g,cap,cur,rfl,h4,-⟩
 ·omega
 ·exact⟨g,cap,rfl,h4⟩
theorem ownA_at{w:World}{B g n c:Nat}{A:List ArcM}(h:OwnK 4 ArcK w B 172 (.slice (some ⟨g,0,none⟩) n c) A (fun _=>True))(hn:n=A.length){i:Nat}{a:ArcM}(ha:A[i]?=some a):w.rangeAt g (i*4) [.int .i64 (a.f:Int),.int .i64 (a.t:Int),.int .i64 a.cap,.int .i64 a.cost]/\g<w.heap.size/\∀o,w.frozen? ⟨g,o,none⟩=false:=by
 subst hn;obtain⟨cs,h1,h2⟩:=h;obtain⟨x,g1,g2,g3⟩:=h2 i a ha;unfold ArcK at g3;subst g3;have hc:=h1.cells (g:=g) rfl;refine⟨fun k u hu=>?_,(h1.lt g rfl).2,fun o=>?_⟩
 ·have:=hc (i*4+k) u (g2 k u hu);rw[<-this];unfold Addr.add;split <;> simp_all
 ·rcases h1.2 with ⟨h3,-⟩ | ⟨g',cap,cur,h3,h4,h5,-⟩
  ·simp at h3
  ·injection h3 with h3;injection h3 with h3;injection h3 with h3;subst h3;exact frozen_of_row _ _ _ _ _ h5
theorem ownA_cost{w:World}{B g n c:Nat}{A:List ArcM}(h:OwnK 4 ArcK w B 172 (.slice (some ⟨g,0,none⟩) n c) A (fun _=>True))(hn:n=A.length){i:Nat}{a:ArcM}(ha:A[i]?=some a)(y:Int):OwnK 4 ArcK (w.setCell ⟨g,i*4+3,none⟩ (.int .i64 y)) B 172 (.slice (some ⟨g,0,none⟩) n c) (A.set i { a with cost:=y }) (fun _=>True):=by
 subst hn;obtain⟨cs,h1,h2⟩:=h;obtain⟨r1,-⟩:=h1.stored (i*4+3) (.int .i64 y);have hi:=(zL.1 ha).1;have hcl:cs.length=A.length*4:=h1.1;refine⟨cs.set (i*4+3) (.int .i64 y),by rw[List.length_set];exact r1,fun k b hb=>?_⟩;by_cases hk:i=k
 ·subst hk;rw[List.getElem?_set_self hi] at hb;injection hb with hb;subst hb;obtain⟨x,g1,g2,g3⟩:=h2 i a ha;unfold ArcK at g3;subst g3;refine⟨[.int .i64 (a.f:Int),.int .i64 (a.t:Int),.int .i64 a.cap,.int .i64 y],rfl,fun j u hu=>?_,rfl⟩
  match j,hu with
  | 0,hu=>rw[List.getElem?_set_ne (by omega)];exact g2 0 u hu
  | 1,hu=>rw[List.getElem?_set_ne (by omega)];exact g2 1 u hu
  | 2,hu=>rw[List.getElem?_set_ne (by omega)];exact g2 2 u hu
  | 3,hu=>rw[List.getElem?_set_self (by omega)];exact hu
  | j+4,hu=>simp at hu
 ·rw[List.getElem?_set_ne hk] at hb;obtain⟨x,g1,g2,g3⟩:=h2 k b hb;refine⟨x,g1,fun j u hu=>?_,g3⟩;have hj:=(zL.1 hu).1;rw[List.getElem?_set_ne (by omega)];exact g2 j u hu
theorem volOf_lt{F:FltM}{a:ArcM}{v:Nat}(h:volOf F a=some v):v<F.vols.length/\drvN F 0<=a.t:=by
 unfold volOf at h;by_cases hl:a.t<drvN F 0
 ·rw[if_pos hl] at h;cases h
 ·rw[if_neg hl] at h;exact⟨List.mem_range.1 (List.mem_of_find?_eq_some h),by omega⟩
theorem net15_any(N:Nat)(hN:N<=12)(vl vm vd vv vp vo vL vR:Value)(F:FltM)(L:List (List Int))(RM:List Int)(w:World)(hrm:IntS w (Bl w.heap.size) vR RM)(hf:FleetS w (Bl w.heap.size) vl vm vd vv vp vo F)(hok:FleetOk N F)(hl:SlS 1 RowIK w (Bl w.heap.size) vL L)(hlo:LayOk F F.vols.length L) :
  Calls Tryz.prog 54 #[.agg #[.int .i64 F.ext,vl,vm,vd,vv,vp,vo],vL,vR] w fun e w'=>∃(vA:Value) (rm:List Int),e=.returned (.tuple #[.agg #[.int .i64 ((drvN F F.dves.length:Nat):Int),.int .i64 0,.int .i64 1,vA],.int .i64 0])/\OwnK 4 ArcK w' w.heap.size 172 vA (netM F L rm).arcs (fun _=>True)/\(∀d,d<F.dves.length->0<=gt rm d/\gt rm d<=4)/\Below w.heap.size w w':=by
 have HN14:=zh (fun(w':World) (hb:Below w.heap.size w w')=>rnet_any N hN _ _ _ _ _ _ _ F RM w' ((hrm.keep (kept_below hb)).mono (Bl.mono hb.size)) (hf.below hb) hok);have HSH:=zh (fun(w':World) (hb:Below w.heap.size w w')=>rshaped_any N hN _ _ _ _ _ _ vL F L w' (hf.below hb) hok (SlS.below rowIK hl hb) hlo);have HVF:=zh (fun(a:ArcM) (w':World) (hb:Below w.heap.size w w') (ha:a.t<drvN F F.dves.length)=>volof_any N hN _ _ _ _ _ _ F a w' (hf.below hb) hok ha);have HDF:=zh (fun(w':World) (hb:Below w.heap.size w w')=>driven_any N hN _ _ _ _ _ _ F 0 w' (hf.below hb) hok (by omega));obtain⟨Al,nl,cl,rfl⟩:=hf.1.form3;obtain⟨Am,nm,cm,rfl⟩:=hf.2.1.form3;obtain⟨Ad,nd,cd,rfl⟩:=hf.2.2.1.form3;obtain⟨Av,nv,cv,rfl⟩:=hf.2.2.2.1.form3;obtain⟨Ap,np,cp,rfl⟩:=hf.2.2.2.2.1.form3;obtain⟨Ao,no,co,rfl⟩:=hf.2.2.2.2.2.form3;obtain⟨AL,cL,hvL,-⟩:=hl.form;subst hvL;obtain⟨AR0,cR0,rfl,-⟩:=hrm.1;obtain⟨lb,lof,-,hAL,hRl,-,-⟩:=hl.at_ (k:=0) (by rw[hlo.1];have:=hok.vol1;omega);subst hAL
 have HROW:=zh (show ∀v,v<F.vols.length->∃(A:Option Addr) (n c:Nat),∀w',Below w.heap.size w w'->w'.cell? ⟨lb,lof+v,none⟩=some (.slice A n c)/\IntS w' (Bl w.heap.size) (.slice A n c) (L.getD v [])/\(L.getD v []).length<=6 from fun v hv=>by
  have hvl:v<L.length:=by rw[hlo.1];exact hv
  obtain⟨b,off,cs,e,hR,-,hc,vr,rfl,hr⟩:=hl.at_ (k:=v) hvl;injection e with e;injection e with e1 e2;subst e1 e2;have hr':=hr;obtain⟨A,c,rfl,-⟩:=hr.1
  have he:L.getD v []=L[v]:=by rw[List.getD_eq_getElem?_getD,zG hvl];rfl
  refine⟨A,_,c,fun w' hb=>⟨(hb.cell (p:=⟨lb,lof+v,none⟩) hR).trans (by have:=hc 0 _ rfl;simpa using this),by rw[he];exact hr'.keep (kept_below hb),?_⟩⟩;rw[he,(hlo.2 v _ (zG hvl)).1]
  exact(szN_range hok hv).2)
 have HNA:=zh (show ∀(rm:List Int),(∀d,d<F.dves.length->0<=gt rm d/\gt rm d<=4)->0<(netA F rm).length/\(netA F rm).length<=369/\∀a∈netA F rm,a.t<drvN F F.dves.length/\a.cost=0/\a.t<=300 from fun rm hrm=>by
  refine⟨?_,netA_len hok hN rm,fun a ha=>?_⟩
  ·unfold netA;rw[zP,snksA_len];have:=hok.dve1;omega
  ·have h:=net_arc hok hN hrm ha
   exact⟨h.2.1,h.2.2.2.2,by have:=drv_le hok hN F.dves.length;have:=hok.dveN;omega⟩)
 have HSZF:=zh (show F.vols.length<=12/\L.length=F.vols.length/\drvN F 0<=254 from⟨by have:=hok.volN;omega,hlo.1,by have:=drv_le hok hN 0;omega⟩);obtain⟨EX,hEX⟩:=zx F.ext;obtain⟨NLL,hNL⟩:=zx L.length;obtain⟨NR,hNR⟩:=zx RM.length;obtain⟨D0,hD0⟩:=zx (drvN F 0);obtain⟨DR,hDR⟩:=zx (drvN F F.dves.length);rw[<-hEX] at HN14 HSH HVF HDF;rw[<-hNR] at HN14;rw[<-hNL] at HSH HSZF;rw[<-hD0] at HDF HSZF;rw[<-hDR] at HN14;rw[<-hEX,<-hNL,<-hNR,<-hDR];have HE:=zh (show D0=drvN F 0/\DR=drvN F F.dves.length from⟨hD0,hDR⟩);obtain⟨W1,hW1⟩:=zx ((w.alloc (.cells #[.int .i64 EX,.slice Al nl cl,.slice Am nm cm,.slice Ad nd cd,.slice Av nv cv,.slice Ap np cp,.slice Ao no co] 35)).alloc (.cells #[.int .i64 0,.int .i64 0,.int .i64 0,.slice none 0 0] 119));obtain⟨gF,hgF⟩:=zx w.heap.size;obtain⟨g6,hg6⟩:=zx (w.heap.size+1)
 have hb1:Below w.heap.size w W1:=by rw[hW1];exact((zB _ _).alloc (zR _) _).alloc (by simp) _
 have hkF:W1.heap[gF]?=some (.cells #[.int .i64 EX,.slice Al nl cl,.slice Am nm cm,.slice Ad nd cd,.slice Av nv cv,.slice Ap np cp,.slice Ao no co] 35 (0,0)):=by rw[hW1,hgF];exact(zH _ _ _ (by simp)).trans (zN _ _)
 have hk6:W1.heap[g6]?=some (.cells #[.int .i64 0,.int .i64 0,.int .i64 0,.slice none 0 0] 119 (0,0)):=by rw[hW1,hg6];exact heap_alloc_at _ _ _ (by simp)
 have HBW:=zh (show ∀w',Below W1.heap.size W1 w'->Below w.heap.size w w' from fun w' hb=>hb1.trans (hb.mono hb1.size));have HK:=zh (show ∀w',Below W1.heap.size W1 w'->w'.heap[gF]?=some (.cells #[.int .i64 EX,.slice Al nl cl,.slice Am nm cm,.slice Ad nd cd,.slice Av nv cv,.slice Ap np cp,.slice Ao no co] 35 (0,0))/\w'.heap[g6]?=some (.cells #[.int .i64 0,.int .i64 0,.int .i64 0,.slice none 0 0] 119 (0,0)) from fun w' hb=>⟨(hb.block gF (zA.1 hkF).1).trans hkF,(hb.block g6 (zA.1 hk6).1).trans hk6⟩);have HW:=zh (show W1=(w.alloc (.cells #[.int .i64 EX,.slice Al nl cl,.slice Am nm cm,.slice Ad nd cd,.slice Av nv cv,.slice Ap np cp,.slice Ao no co] 35)).alloc (.cells #[.int .i64 0,.int .i64 0,.int .i64 0,.slice none 0 0] 119)/\gF=w.heap.size/\g6=gF+1/\W1.heap.size=gF+2 from⟨hW1,hgF,by omega,by rw[hW1,hgF];simp⟩);clear hrm hf hok hl hlo hRl hEX hNL hNR hD0 hDR hW1 hgF hg6 hb1 hkF hk6;go_enter Tryz.func54,Tryz.ntmps54;go_upto_region 1 with fail;rw[<-HW.out.1,<-HW.out.2.1,show gF+1=g6 by (have:=HW.out;omega)];obtain⟨c0,c1,c2,c3,c4,c5,c6⟩:=cells7 (HK.out W1 (zB _ _)).1;go_wp2_with fail;refine(HN14.out W1 (HBW.out W1 (zB _ _))).mono ?_;rintro e w2 ⟨vA,rm,rfl,hown,hrm,hb2⟩;obtain⟨hn0,hn9,hna⟩:=HNA.out rm hrm;obtain⟨gA,cA,rfl,hgA⟩:=ownA_form hown hn0;obtain⟨A0,hA0⟩:=zx (netA F rm);rw[<-hA0] at hown hn0 hn9 hna;obtain⟨M,hM⟩:=zx A0.length;rw[<-hA0] ;rw[<-hM] at hown hn0 hn9 ⊢;have HA0:=zh (And.intro hA0 (And.intro hM (And.intro hrm (And.intro hna (And.intro hn0 hn9)))));have HOW:=zh hown;have HB2:=zh hb2;have HGA:=zh hgA;clear hown hrm hb2 hn0 hn9 hna hgA hA0 hM c0 c1 c2 c3 c4 c5 c6;go_upto_region 2 with fail;obtain⟨W2,hW2⟩:=zx (w2.alloc (.cells #[.int .i64 (DR:Int),.int .i64 0,.int .i64 1,(.slice (some ⟨gA,0,none⟩) M cA)] 119));obtain⟨g8,hg8⟩:=zx w2.heap.size;rw[<-hW2,<-hg8]
 have hb22:Below w2.heap.size w2 W2:=by rw[hW2];exact(zB _ _).alloc (zR _) _
 have hk8:W2.heap[g8]?=some (.cells #[.int .i64 (DR:Int),.int .i64 0,.int .i64 1,(.slice (some ⟨gA,0,none⟩) M cA)] 119 (0,0)):=by rw[hW2,hg8];exact zN _ _
 have HB22:=zh (HB2.out.trans (hb22.mono HB2.out.size));have HST0:=zh (show OwnK 4 ArcK W2 W1.heap.size 172 (.slice (some ⟨gA,0,none⟩) M cA) (partA F L A0 0) (fun _=>True)/\W2.heap[g8]?=some (.cells #[.int .i64 (DR:Int),.int .i64 0,.int .i64 1,(.slice (some ⟨gA,0,none⟩) M cA)] 119 (0,0)) from⟨by rw[partA_zero];exact ownK_below HOW.out hb22,hk8⟩);have HG8:=zh (show gA≠g8 from fun e=>by obtain⟨cs,h1,-⟩:=HOW.out;have:=(h1.lt gA rfl).2;omega);clear hW2 hg8 hb22 hk8;obtain⟨c0,c1,c2,c3,c4,c5,c6⟩:=cells7 (HK.out W2 HB22.out).1;go_wp2_with fail;refine(HSH.out W2 (HBW.out W2 HB22.out)).mono ?_;rintro e w3 ⟨rfl,hb3⟩;have HB3:=zh (HB22.out.trans (hb3.mono HB22.out.size));have HST:=zh (show OwnK 4 ArcK w3 W1.heap.size 172 (.slice (some ⟨gA,0,none⟩) M cA) (partA F L A0 0) (fun _=>True)/\w3.heap[g8]?=some (.cells #[.int .i64 (DR:Int),.int .i64 0,.int .i64 1,(.slice (some ⟨gA,0,none⟩) M cA)] 119 (0,0)) from⟨ownK_below HST0.out.1 hb3,(hb3.block g8 (zA.1 HST0.out.2).1).trans HST0.out.2⟩);clear hb3 HST0 c0 c1 c2 c3 c4 c5 c6;go_wp2_with fail;go_loopg [10] M (fun z v10 wr=>∃i:Nat,i<=M/\z=M-i/\v10=.int .i64 (i:Int)/\Hid (Below W1.heap.size W1 wr)/\Hid (OwnK 4 ArcK wr W1.heap.size 172 (.slice (some ⟨gA,0,none⟩) M cA) (partA F L A0 i) (fun _=>True)/\wr.heap[g8]?=some (.cells #[.int .i64 (DR:Int),.int .i64 0,.int .i64 1,(.slice (some ⟨gA,0,none⟩) M cA)] 119 (0,0))))
 case atStart=>exact⟨0,by omega,rfl,rfl,HB3,HST⟩
 case round =>
  obtain⟨i,hi,rfl,rfl,HB4,HA⟩:=hrel;clear HST;obtain⟨W4,hW4⟩:=zx wr;rw[<-hW4] at HB4 HA ⊢;clear hW4;obtain⟨k0,k1,k2,k3⟩:=cells4 HA.out.2;by_cases hlt:i<M
  ·have i1:(i:Int)<(M:Int):=by omega
   have i9:(M:Int)<=369:=by have:=HA0.out.2.2.2.2.2;omega
   obtain⟨a,ha⟩:∃a,A0[i]?=some a:=⟨_,zG (by rw[<-HA0.out.2.1];exact hlt)⟩;have hpa:=partA_at (F:=F) (L:=L) (zL.1 ha).1;rw[ha] at hpa;obtain⟨hra,hgl,hfz⟩:=ownA_at HA.out.1 (by rw[partA_len];exact HA0.out.2.1) hpa;obtain⟨ht,hc0,ht3⟩:=HA0.out.2.2.2.1 a (List.mem_of_getElem? ha);rw[hc0] at hra;obtain⟨AF,hAF⟩:=zx a.f;obtain⟨AT,hAT⟩:=zx a.t;obtain⟨AP,hAP⟩:=zx a.cap;obtain⟨RI,hRI⟩:=zx (volI F a)
   have hvo:=fun(w':World) (hb:Below W4.heap.size W4 w')=>HVF.out a w' (HBW.out w' (HB4.out.trans (hb.mono HB4.out.size))) ht
   rw[hc0,<-hAF,<-hAT,<-hAP,<-hRI] at hvo;rw[<-hAF,<-hAT,<-hAP] at hra;have HVO:=zh hvo;have HARC:=zh (And.intro ha (And.intro hpa (And.intro hc0 (And.intro hAT hRI))));have HAP2:=zh (And.intro hAF hAP);have HT3:=zh (show AT<=300 by omega);have HFZ:=zh (And.intro hra (And.intro hgl hfz));have HLT:=zh hlt;have HS7:=zh (show ∀w':World,Below W4.heap.size W4 w'->(fun(w':World)=>w'.rangeAt gF 0 [.int .i64 EX,.slice Al nl cl,.slice Am nm cm,.slice Ad nd cd,.slice Av nv cv,.slice Ap np cp,.slice Ao no co]/\w'.cell? ⟨g8,3,none⟩=some (.slice (some ⟨gA,0,none⟩) M cA)/\w'.rangeAt gA (i*4) [.int .i64 (AF:Int),.int .i64 (AT:Int),.int .i64 AP,.int .i64 0]) w' from fun w' hb=>⟨range_cells (HK.out w' (HB4.out.trans (hb.mono HB4.out.size))).1,(cells4 ((hb.block g8 (zA.1 HA.out.2).1).trans HA.out.2)).2.2.2,range_same hra (hb.block gA hgl)⟩);clear ha hpa ht hc0 ht3 hAF hAT hAP hRI hvo hra hgl hfz;go_upto_region 7 with fail;clear k0 k1 k2 k3;refine region_tail (S:=(fun(w':World)=>w'.rangeAt gF 0 [.int .i64 EX,.slice Al nl cl,.slice Am nm cm,.slice Ad nd cd,.slice Av nv cv,.slice Ap np cp,.slice Ao no co]/\w'.cell? ⟨g8,3,none⟩=some (.slice (some ⟨gA,0,none⟩) M cA)/\w'.rangeAt gA (i*4) [.int .i64 (AF:Int),.int .i64 (AT:Int),.int .i64 AP,.int .i64 0])) [] (by kernel_rfl) (HS7.out _ (zB _ _).drew) (fun hHeld=>?_);refine takeT (i:=0) (d:=34) (v:=(.agg #[.int .i64 EX,.slice Al nl cl,.slice Am nm cm,.slice Ad nd cd,.slice Av nv cv,.slice Ap np cp,.slice Ao no co])) rfl rfl (by kernel_rfl) (by kernel_rfl) (by kernel_rfl) (by kernel_rfl) (fun _ _ _ h=>h) (yieldsIf_load_mid (by rfl) 35 (.tmp 3) rfl gF 0 (by rfl) [.int .i64 EX,.slice Al nl cl,.slice Am nm cm,.slice Ad nd cd,.slice Av nv cv,.slice Ap np cp,.slice Ao no co] _ (fun w hw=>hw.1) Tryz.underlying35 rfl size_fltA) (by assumption) ?_;(try simp only[Act.put,z1,z2,z3]);refine tk 1 35 ?_;refine tk 2 36 ?_;refine tk 3 37 ?_;refine tk 4 38 ?_;refine takeT (i:=5) (d:=39) (v:=(.agg #[.int .i64 (AF:Int),.int .i64 (AT:Int),.int .i64 AP,.int .i64 0])) rfl rfl (by kernel_rfl) (by kernel_rfl) (by kernel_rfl) (by kernel_rfl) (fun _ _ _ h=>h) (yieldsIf_load_mid (by rfl) 172 (.tmp 38) rfl gA (i*4) (by rfl) [.int .i64 (AF:Int),.int .i64 (AT:Int),.int .i64 AP,.int .i64 0] _ (fun w hw=>hw.2.2) Tryz.underlying172 rfl size_arcA) (by assumption) ?_;(try simp only[Act.put,z1,z2,z3]);refine readyT (rs:=[6]) (by kernel_rfl) (by simp) ?_;refine zC rfl (fun K hK=>?_) ?_
   ·go_simp
    (refine(HVO.out _ (((zB _ _).drew:Below W4.heap.size W4 W4.drew))).mono ?_;rintro e w5 ⟨rfl,hb5⟩;have HB5:=zh (show Below W4.heap.size W4 w5 from(((zB _ _).drew:Below W4.heap.size W4 W4.drew)).trans (hb5.mono (((zB _ _).drew:Below W4.heap.size W4 W4.drew)).size));clear hb5)
    go_wp2_with fail;refine hK.out _ _ ?_ (fun hHeld=>?_)
    ·exact HS7.out _ HB5.out
    clear hK K;(try simp only[Act.put,z1,z2,z3]);refine tk 7 11 ?_;refine doneT (by kernel_rfl) ?_ _;clear hHeld;go_upto_region 8 with fail;have HA5:=zh (show OwnK 4 ArcK w5 W1.heap.size 172 (.slice (some ⟨gA,0,none⟩) M cA) (partA F L A0 i) (fun _=>True)/\w5.heap[g8]?=some (.cells #[.int .i64 (DR:Int),.int .i64 0,.int .i64 1,(.slice (some ⟨gA,0,none⟩) M cA)] 119 (0,0)) from⟨ownK_below HA.out.1 HB5.out,(HB5.out.block g8 (zA.1 HA.out.2).1).trans HA.out.2⟩);have HB45:=zh (HB4.out.trans (HB5.out.mono HB4.out.size));have HFZ5:=zh (ownA_at HA5.out.1 (by rw[partA_len];exact HA0.out.2.1) HARC.out.2.1);obtain⟨W4,hW4⟩:=zx w5;rw[<-hW4] at HA5 HB45 HFZ5 ⊢;clear hW4 HS7 HVO HFZ
    cases hvo:volOf F a with
    | none =>
     have hri:RI = -1:=by rw[HARC.out.2.2.2.2];unfold volI;rw[hvo]
     have HCA:=zh (show costA F L a=a from by unfold costA;rw[hvo]);subst hri;clear hvo;have HS8:=zh (show ∀w':World,Below W4.heap.size W4 w'->(fun(w':World)=>w'.rangeAt gF 0 [.int .i64 EX,.slice Al nl cl,.slice Am nm cm,.slice Ad nd cd,.slice Av nv cv,.slice Ap np cp,.slice Ao no co]) w' from fun w' hb=>range_cells (HK.out w' (HB45.out.trans (hb.mono HB45.out.size))).1);refine region_tail (S:=(fun(w':World)=>w'.rangeAt gF 0 [.int .i64 EX,.slice Al nl cl,.slice Am nm cm,.slice Ad nd cd,.slice Av nv cv,.slice Ap np cp,.slice Ao no co])) [] (by kernel_rfl) (HS8.out _ (zB _ _).drew) (fun hHeld=>?_);refine tk 0 41 ?_;refine tk 1 42 ?_;refine tk 2 43 ?_;refine takeT (i:=3) (d:=44) (v:=undef) rfl rfl (by kernel_rfl) (by kernel_rfl) (by kernel_rfl) (by kernel_rfl) (fun _ _ _ h=>h) (Or.inr ⟨by kernel_rfl,rfl⟩) (by assumption) ?_;(try simp only[Act.put,z1,z2,z3]);refine takeT (i:=4) (d:=45) (v:=undef) rfl rfl (by kernel_rfl) (by kernel_rfl) (by kernel_rfl) (by kernel_rfl) (fun _ _ _ h=>h) (Or.inr ⟨by kernel_rfl,rfl⟩) (by assumption) ?_;(try simp only[Act.put,z1,z2,z3]);refine takeT (i:=5) (d:=46) (v:=undef) rfl rfl (by kernel_rfl) (by kernel_rfl) (by kernel_rfl) (by kernel_rfl) (fun _ _ _ h=>h) (Or.inr ⟨by kernel_rfl,rfl⟩) (by assumption) ?_;(try simp only[Act.put,z1,z2,z3]);refine takeT (i:=6) (d:=47) (v:=undef) rfl rfl (by kernel_rfl) (by kernel_rfl) (by kernel_rfl) (by kernel_rfl) (fun _ _ _ h=>h) (Or.inr ⟨by kernel_rfl,rfl⟩) (by assumption) ?_;(try simp only[Act.put,z1,z2,z3]);refine takeT (i:=7) (d:=48) (v:=undef) rfl rfl (by kernel_rfl) (by kernel_rfl) (by kernel_rfl) (by kernel_rfl) (fun _ _ _ h=>h) (Or.inr ⟨by kernel_rfl,rfl⟩) (by assumption) ?_;(try simp only[Act.put,z1,z2,z3]);refine takeT (i:=8) (d:=49) (v:=undef) rfl rfl (by kernel_rfl) (by kernel_rfl) (by kernel_rfl) (by kernel_rfl) (fun _ _ _ h=>h) (Or.inr ⟨by kernel_rfl,rfl⟩) (by assumption) ?_;(try simp only[Act.put,z1,z2,z3]);refine takeT (i:=9) (d:=50) (v:=undef) rfl rfl (by kernel_rfl) (by kernel_rfl) (by kernel_rfl) (by kernel_rfl) (fun _ _ _ h=>h) (Or.inr ⟨by kernel_rfl,rfl⟩) (by assumption) ?_;(try simp only[Act.put,z1,z2,z3]);refine takeT (i:=10) (d:=51) (v:=undef) rfl rfl (by kernel_rfl) (by kernel_rfl) (by kernel_rfl) (by kernel_rfl) (fun _ _ _ h=>h) (Or.inr ⟨by kernel_rfl,rfl⟩) (by assumption) ?_;(try simp only[Act.put,z1,z2,z3]);refine takeT (i:=11) (d:=52) (v:=undef) rfl rfl (by kernel_rfl) (by kernel_rfl) (by kernel_rfl) (by kernel_rfl) (fun _ _ _ h=>h) (Or.inr ⟨by kernel_rfl,rfl⟩) (by assumption) ?_;(try simp only[Act.put,z1,z2,z3]);refine takeT (i:=12) (d:=53) (v:=undef) rfl rfl (by kernel_rfl) (by kernel_rfl) (by kernel_rfl) (by kernel_rfl) (fun _ _ _ h=>h) (Or.inr ⟨by kernel_rfl,rfl⟩) (by assumption) ?_;(try simp only[Act.put,z1,z2,z3]);refine takeT (i:=13) (d:=54) (v:=undef) rfl rfl (by kernel_rfl) (by kernel_rfl) (by kernel_rfl) (by kernel_rfl) (fun _ _ _ h=>h) (Or.inr ⟨by kernel_rfl,rfl⟩) (by assumption) ?_;(try simp only[Act.put,z1,z2,z3]);refine takeT (i:=14) (d:=55) (v:=undef) rfl rfl (by kernel_rfl) (by kernel_rfl) (by kernel_rfl) (by kernel_rfl) (fun _ _ _ h=>h) (Or.inr ⟨by kernel_rfl,rfl⟩) (by assumption) ?_;(try simp only[Act.put,z1,z2,z3]);refine takeT (i:=15) (d:=56) (v:=undef) rfl rfl (by kernel_rfl) (by kernel_rfl) (by kernel_rfl) (by kernel_rfl) (fun _ _ _ h=>h) (Or.inr ⟨by kernel_rfl,rfl⟩) (by assumption) ?_;(try simp only[Act.put,z1,z2,z3]);refine takeT (i:=16) (d:=57) (v:=undef) rfl rfl (by kernel_rfl) (by kernel_rfl) (by kernel_rfl) (by kernel_rfl) (fun _ _ _ h=>h) (Or.inr ⟨by kernel_rfl,rfl⟩) (by assumption) ?_;(try simp only[Act.put,z1,z2,z3]);refine takeT (i:=17) (d:=58) (v:=undef) rfl rfl (by kernel_rfl) (by kernel_rfl) (by kernel_rfl) (by kernel_rfl) (fun _ _ _ h=>h) (Or.inr ⟨by kernel_rfl,rfl⟩) (by assumption) ?_;(try simp only[Act.put,z1,z2,z3]);refine readyT (rs:=[18]) (by kernel_rfl) (by simp) ?_;refine zC rfl (fun K hK=>?_) ?_
     ·go_simp;refine hK.out _ _ ?_ (fun hHeld=>?_)
      ·exact HS8.out _ (zB _ _).drew
      clear hK K;(try simp only[Act.put,z1,z2,z3]);refine doneT (by kernel_rfl) ?_ _;clear hHeld;have hps:=partA_set (F:=F) (L:=L) HARC.out.1;rw[HCA.out,set_hereL HARC.out.2.1] at hps;have HSN:=zh (show OwnK 4 ArcK W4.drew W1.heap.size 172 (.slice (some ⟨gA,0,none⟩) M cA) (partA F L A0 (i+1)) (fun _=>True)/\W4.drew.heap[g8]?=some (.cells #[.int .i64 (DR:Int),.int .i64 0,.int .i64 1,(.slice (some ⟨gA,0,none⟩) M cA)] 119 (0,0)) from⟨by rw[<-hps];exact ownK_below HA5.out.1 (zB _ _).drew,HA5.out.2⟩);have HBN:=zh HB45.out.drew;clear hps;go_wp2_with fail;go_roundg (M-(i+1))
      case measure=>have:=HLT.out;omega
      case rel=>exact⟨i+1,by have:=HLT.out;omega,rfl,by go_num,HBN,HSN⟩
     exact zE
    | some v =>
     have hri:RI=(v:Int):=by rw[HARC.out.2.2.2.2];unfold volI;rw[hvo]
     obtain⟨hvl,hvt⟩:=volOf_lt hvo;obtain⟨AV,nr,kr,hrow⟩:=HROW.out v hvl;have HCA:=zh (show costA F L a=if(L.getD v []).contains (((a.t-drvN F 0:Nat):Int)) then a else { a with cost:=1 } from by unfold costA;rw[hvo]);obtain⟨DD,hDD⟩:=zx (AT-D0)
     have hde:(AT:Int)-(D0:Int)=(DD:Int):=by rw[<-HARC.out.2.2.2.1,<-HE.out.1] at hvt;omega
     have w1:IntKind.i64.wrap ((AT:Int)-(D0:Int))=(DD:Int):=by rw[hde];exact zI _ (by have:=HT3.out;omega)
     have HHB:=zh (show ∀w':World,Below W4.heap.size W4 w'->Below w.heap.size w w' from fun w' hb=>HBW.out w' (HB45.out.trans (hb.mono HB45.out.size)));obtain⟨CB,hCB⟩:=zx ((L.getD v []).contains (DD:Int))
     have hha:=fun(w':World) (hb:Below W4.heap.size W4 w')=>has15_any _ _ (L.getD v []) (DD:Int) w' (hrow w' (HHB.out w' hb)).2.1 (by have:=(hrow w' (HHB.out w' hb)).2.2;omega)
     rw[<-hCB] at hha;have HHA:=zh hha;have HDR:=zh (fun(w':World) (hb:Below W4.heap.size W4 w')=>HDF.out w' (HHB.out w' hb));have HCB:=zh (show CB=(L.getD v []).contains (((a.t-drvN F 0:Nat):Int)) from by rw[hCB,hDD,HARC.out.2.2.2.1,HE.out.1])
     have v12:(NLL:Int)<=12:=by have:=HSZF.out;omega
     have i2:(v:Int)<(NLL:Int):=by have:=HSZF.out;omega
     have HS8:=zh (show ∀w':World,Below W4.heap.size W4 w'->(fun(w':World)=>w'.rangeAt gF 0 [.int .i64 EX,.slice Al nl cl,.slice Am nm cm,.slice Ad nd cd,.slice Av nv cv,.slice Ap np cp,.slice Ao no co]/\w'.cell? ⟨g8,3,none⟩=some (.slice (some ⟨gA,0,none⟩) M cA)/\w'.rangeAt gA (i*4) [.int .i64 (AF:Int),.int .i64 (AT:Int),.int .i64 AP,.int .i64 0]/\w'.cell? ⟨lb,lof+v,none⟩=some (.slice AV nr kr)) w' from fun w' hb=>⟨range_cells (HK.out w' (HB45.out.trans (hb.mono HB45.out.size))).1,(cells4 ((hb.block g8 (zA.1 HA5.out.2).1).trans HA5.out.2)).2.2.2,by have hh:=range_same HFZ5.out.1 (hb.block gA HFZ5.out.2.1);rw[HARC.out.2.2.1,<-HAP2.out.1,<-HARC.out.2.2.2.1,<-HAP2.out.2] at hh;exact hh,(hrow w' (HHB.out w' hb)).1⟩);subst hri;clear hvo hvl hvt hrow hDD hde hCB hha
     cases CB with
     | true =>
      refine region_tail (S:=(fun(w':World)=>w'.rangeAt gF 0 [.int .i64 EX,.slice Al nl cl,.slice Am nm cm,.slice Ad nd cd,.slice Av nv cv,.slice Ap np cp,.slice Ao no co]/\w'.cell? ⟨g8,3,none⟩=some (.slice (some ⟨gA,0,none⟩) M cA)/\w'.rangeAt gA (i*4) [.int .i64 (AF:Int),.int .i64 (AT:Int),.int .i64 AP,.int .i64 0]/\w'.cell? ⟨lb,lof+v,none⟩=some (.slice AV nr kr))) [] (by kernel_rfl) (HS8.out _ (zB _ _).drew) (fun hHeld=>?_);refine tk 0 41 ?_;refine tk 1 42 ?_;refine tk 2 43 ?_;refine tk 3 44 ?_;refine tk 4 45 ?_;refine tk 5 46 ?_;refine tk 6 47 ?_;refine tk 7 48 ?_;refine tk 8 49 ?_;refine tk 9 50 ?_;refine tk 10 51 ?_;refine tk 11 52 ?_;refine takeT (i:=12) (d:=53) (v:=?_) rfl rfl (by kernel_rfl) (by kernel_rfl) (by kernel_rfl) (by kernel_rfl) (fun _ _ _ h=>h) (Or.inl ⟨by rfl,?_⟩) (by assumption) ?_;rotate_left
      ·(intro w hSw;(try dsimp only at hSw);(have a1:=hSw.2.2.1 1 _ rfl);go_simp;first | done | with_reducible rfl)
      (try simp only[Act.put,z1,z2,z3]);refine takeT (i:=13) (d:=54) (v:=(.agg #[.int .i64 EX,.slice Al nl cl,.slice Am nm cm,.slice Ad nd cd,.slice Av nv cv,.slice Ap np cp,.slice Ao no co])) rfl rfl (by kernel_rfl) (by kernel_rfl) (by kernel_rfl) (by kernel_rfl) (fun _ _ _ h=>h) (yieldsIf_load_mid (by rfl) 35 (.tmp 3) rfl gF 0 (by rfl) [.int .i64 EX,.slice Al nl cl,.slice Am nm cm,.slice Ad nd cd,.slice Av nv cv,.slice Ap np cp,.slice Ao no co] _ (fun w hw=>hw.1) Tryz.underlying35 rfl size_fltA) (by assumption) ?_;(try simp only[Act.put,z1,z2,z3]);refine readyT (rs:=[14]) (by kernel_rfl) (by simp) ?_;refine zC rfl (fun K hK=>?_) ?_
      ·go_simp
       (refine(HDR.out _ (((zB _ _).drew:Below W4.heap.size W4 W4.drew))).mono ?_;rintro e w6 ⟨rfl,hb6⟩;have HB6:=zh (show Below W4.heap.size W4 w6 from(((zB _ _).drew:Below W4.heap.size W4 W4.drew)).trans (hb6.mono (((zB _ _).drew:Below W4.heap.size W4 W4.drew)).size));clear hb6)
       go_wp2_with fail;refine hK.out _ _ ?_ (fun hHeld=>?_)
       ·exact HS8.out _ HB6.out
       clear hK K;(try simp only[Act.put,z1,z2,z3]);refine tk 15 56 ?_;refine readyT (rs:=[16]) (by kernel_rfl) (by simp) ?_;refine zC rfl (fun K hK=>?_) ?_
       ·go_simp
        (refine(HHA.out _ HB6.out).mono ?_;rintro e w7 ⟨rfl,rfl⟩)
        go_wp2_with fail;refine hK.out _ _ ?_ (fun hHeld=>?_)
        ·exact HS8.out _ HB6.out
        clear hK K;(try simp only[Act.put,z1,z2,z3]);refine tk 17 58 ?_;refine readyT (rs:=[18]) (by kernel_rfl) (by simp) ?_;refine zC rfl (fun K hK=>?_) ?_
        ·go_simp;refine hK.out _ _ ?_ (fun hHeld=>?_)
         ·exact HS8.out _ HB6.out
         clear hK K;(try simp only[Act.put,z1,z2,z3]);refine doneT (by kernel_rfl) ?_ _;clear hHeld;have hps:=partA_set (F:=F) (L:=L) HARC.out.1;rw[HCA.out,if_pos HCB.out.symm,set_hereL HARC.out.2.1] at hps;have HSN:=zh (show OwnK 4 ArcK w7 W1.heap.size 172 (.slice (some ⟨gA,0,none⟩) M cA) (partA F L A0 (i+1)) (fun _=>True)/\w7.heap[g8]?=some (.cells #[.int .i64 (DR:Int),.int .i64 0,.int .i64 1,(.slice (some ⟨gA,0,none⟩) M cA)] 119 (0,0)) from⟨by rw[<-hps];exact ownK_below HA5.out.1 HB6.out,(HB6.out.block g8 (zA.1 HA5.out.2).1).trans HA5.out.2⟩);have HBN:=zh (HB45.out.trans (HB6.out.mono HB45.out.size));clear hps;go_wp2_with fail;go_roundg (M-(i+1))
         case measure=>have:=HLT.out;omega
         case rel=>exact⟨i+1,by have:=HLT.out;omega,rfl,by go_num,HBN,HSN⟩
        exact zE
       exact zE
      exact zE
     | false =>
      refine region_tail (S:=(fun(w':World)=>w'.rangeAt gF 0 [.int .i64 EX,.slice Al nl cl,.slice Am nm cm,.slice Ad nd cd,.slice Av nv cv,.slice Ap np cp,.slice Ao no co]/\w'.cell? ⟨g8,3,none⟩=some (.slice (some ⟨gA,0,none⟩) M cA)/\w'.rangeAt gA (i*4) [.int .i64 (AF:Int),.int .i64 (AT:Int),.int .i64 AP,.int .i64 0]/\w'.cell? ⟨lb,lof+v,none⟩=some (.slice AV nr kr))) [] (by kernel_rfl) (HS8.out _ (zB _ _).drew) (fun hHeld=>?_);refine tk 0 41 ?_;refine tk 1 42 ?_;refine tk 2 43 ?_;refine tk 3 44 ?_;refine tk 4 45 ?_;refine tk 5 46 ?_;refine tk 6 47 ?_;refine tk 7 48 ?_;refine tk 8 49 ?_;refine tk 9 50 ?_;refine tk 10 51 ?_;refine tk 11 52 ?_;refine takeT (i:=12) (d:=53) (v:=?_) rfl rfl (by kernel_rfl) (by kernel_rfl) (by kernel_rfl) (by kernel_rfl) (fun _ _ _ h=>h) (Or.inl ⟨by rfl,?_⟩) (by assumption) ?_;rotate_left
      ·(intro w hSw;(try dsimp only at hSw);(have a1:=hSw.2.2.1 1 _ rfl);go_simp;first | done | with_reducible rfl)
      (try simp only[Act.put,z1,z2,z3]);refine takeT (i:=13) (d:=54) (v:=(.agg #[.int .i64 EX,.slice Al nl cl,.slice Am nm cm,.slice Ad nd cd,.slice Av nv cv,.slice Ap np cp,.slice Ao no co])) rfl rfl (by kernel_rfl) (by kernel_rfl) (by kernel_rfl) (by kernel_rfl) (fun _ _ _ h=>h) (yieldsIf_load_mid (by rfl) 35 (.tmp 3) rfl gF 0 (by rfl) [.int .i64 EX,.slice Al nl cl,.slice Am nm cm,.slice Ad nd cd,.slice Av nv cv,.slice Ap np cp,.slice Ao no co] _ (fun w hw=>hw.1) Tryz.underlying35 rfl size_fltA) (by assumption) ?_;(try simp only[Act.put,z1,z2,z3]);refine readyT (rs:=[14]) (by kernel_rfl) (by simp) ?_;refine zC rfl (fun K hK=>?_) ?_
      ·go_simp
       (refine(HDR.out _ (((zB _ _).drew:Below W4.heap.size W4 W4.drew))).mono ?_;rintro e w6 ⟨rfl,hb6⟩;have HB6:=zh (show Below W4.heap.size W4 w6 from(((zB _ _).drew:Below W4.heap.size W4 W4.drew)).trans (hb6.mono (((zB _ _).drew:Below W4.heap.size W4 W4.drew)).size));clear hb6)
       go_wp2_with fail;refine hK.out _ _ ?_ (fun hHeld=>?_)
       ·exact HS8.out _ HB6.out
       clear hK K;(try simp only[Act.put,z1,z2,z3]);refine tk 15 56 ?_;refine readyT (rs:=[16]) (by kernel_rfl) (by simp) ?_;refine zC rfl (fun K hK=>?_) ?_
       ·go_simp
        (refine(HHA.out _ HB6.out).mono ?_;rintro e w7 ⟨rfl,rfl⟩)
        go_wp2_with fail;refine hK.out _ _ ?_ (fun hHeld=>?_)
        ·exact HS8.out _ HB6.out
        clear hK K;(try simp only[Act.put,z1,z2,z3]);refine tk 17 58 ?_;refine readyT (rs:=[18]) (by kernel_rfl) (by simp) ?_;refine zC rfl (fun K hK=>?_) ?_
        ·go_simp;refine hK.out _ _ ?_ (fun hHeld=>?_)
         ·exact HS8.out _ HB6.out
         clear hK K;(try simp only[Act.put,z1,z2,z3]);refine doneT (by kernel_rfl) ?_ _;clear hHeld;have hps:=partA_set (F:=F) (L:=L) HARC.out.1;rw[HCA.out,if_neg (by rw[<-HCB.out];decide)] at hps;have ho6:=ownK_below HA5.out.1 HB6.out;have hk6:=(HB6.out.block g8 (zA.1 HA5.out.2).1).trans HA5.out.2;obtain⟨hra,hgl,hfz⟩:=ownA_at ho6 (by rw[partA_len];exact HA0.out.2.1) HARC.out.2.1;have x1:w7.cell? ⟨gA,i*4+3,none⟩=some (.int .i64 a.cost):=hra 3 _ rfl;have z1:=hfz (i*4+3);have hoc:=ownA_cost ho6 (by rw[partA_len];exact HA0.out.2.1) HARC.out.2.1 1;rw[hps] at hoc;have HSN:=zh (show OwnK 4 ArcK (w7.setCell ⟨gA,i*4+3,none⟩ (.int .i64 1)) W1.heap.size 172 (.slice (some ⟨gA,0,none⟩) M cA) (partA F L A0 (i+1)) (fun _=>True)/\(w7.setCell ⟨gA,i*4+3,none⟩ (.int .i64 1)).heap[g8]?=some (.cells #[.int .i64 (DR:Int),.int .i64 0,.int .i64 1,(.slice (some ⟨gA,0,none⟩) M cA)] 119 (0,0)) from⟨hoc,(Below.heap_setCell _ ⟨gA,i*4+3,none⟩ _ g8 (fun e=>HG8.out e.symm)).trans hk6⟩);have HBN:=zh ((HB45.out.trans (HB6.out.mono HB45.out.size)).setCell (p:=⟨gA,i*4+3,none⟩) HGA.out (.int .i64 1));obtain⟨k0,k1,k2,k3⟩:=cells4 hk6;clear hps ho6 hk6 hra hgl hfz hoc;go_wp2_with fail;go_roundg (M-(i+1))
         case measure=>have:=HLT.out;omega
         case rel=>exact⟨i+1,by have:=HLT.out;omega,rfl,by go_num,HBN,HSN⟩
        exact zE
       exact zE
      exact zE
   exact zE
  ·have HIE:=zh (show i=M by omega);have hk6:=(HK.out W4 HB4.out).2;have HTH:=zh (show W4.there g6 0 4 from there_new hk6 (zR 4));clear hk6;go_upto_region 10 with fail;clear k0 k1 k2 k3;refine wp_region_lit ?_;refine wpList_load_mid rfl 119 (.tmp 8) rfl g8 0 (by rfl) [.int .i64 (DR:Int),.int .i64 0,.int .i64 1,(.slice (some ⟨gA,0,none⟩) M cA)] _ (range_cells HA.out.2) Tryz.underlying119 rfl size_netA ?_;(try simp only[Act.put,z1,z2,z3]);refine wpList_store_mid rfl 119 (.tmp 6) (.tmp 65) rfl g6 0 #[.int .i64 (DR:Int),.int .i64 0,.int .i64 1,(.slice (some ⟨gA,0,none⟩) M cA)] (by rfl) (by rfl) HTH.out size_netA (by simp[Value.oneCell']) ?_;simp only[List.toList_toArray];have hgr:=World.rangeAt_setCells_same W4 g6 0 [.int .i64 (DR:Int),.int .i64 0,.int .i64 1,(.slice (some ⟨gA,0,none⟩) M cA)] HTH.out;have hbz:Below w.heap.size w (World.setCells W4 g6 0 [.int .i64 (DR:Int),.int .i64 0,.int .i64 1,(.slice (some ⟨gA,0,none⟩) M cA)]):=below_setCellsV (by have:=HW.out;omega) _ _ _ (HBW.out W4 HB4.out)
   have hown:OwnK 4 ArcK (World.setCells W4 g6 0 [.int .i64 (DR:Int),.int .i64 0,.int .i64 1,(.slice (some ⟨gA,0,none⟩) M cA)]) w.heap.size 172 (.slice (some ⟨gA,0,none⟩) M cA) (partA F L A0 i) (fun _=>True):=by
    obtain⟨cs,h1,h2⟩:=HA.out.1;exact⟨cs,own_base (ownsRow_setCells_low (show g6<W1.heap.size by have:=HW.out;omega) _ _ _ h1) (show w.heap.size<=W1.heap.size by have:=HW.out;omega),fun k a ha=>h2 k a ha⟩
   have hpe:partA F L A0 i=(netA F rm).map (costA F L):=by rw[HIE.out,HA0.out.2.1,partA_all,HA0.out.1]
   rw[hpe] at hown;clear hpe;obtain⟨W9,hW9⟩:=zx (World.setCells W4 g6 0 [.int .i64 (DR:Int),.int .i64 0,.int .i64 1,(.slice (some ⟨gA,0,none⟩) M cA)]);rw[<-hW9] at hgr hbz hown ⊢;clear hW9;(try simp only[Act.put,z1,z2,z3]);go_wp2_with fail;have hld:=run_loadVar_mid (P:=Tryz.prog) W9 g6 0 119 _ _ hgr Tryz.underlying119 rfl size_netA;refine bodyPost_ret (v:=.tuple #[.agg #[.int .i64 (DR:Int),.int .i64 0,.int .i64 1,(.slice (some ⟨gA,0,none⟩) M cA)],.int .i64 0]) (by simp[results,Tryz.results54,asAddr,hld]) rfl ⟨_,rm,rfl,hown,HA0.out.2.2.1,hbz⟩
end Go.Proofs.YtgfaieppacabjaaGreat
