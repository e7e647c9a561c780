/- The law RetargetExtends, walked. -/
import Derived.Test.YtgfaieppacabjaaGreatMw01
import Derived.Test.YtgfaieppacabjaaGreatMw02
import Derived.Test.YtgfaieppacabjaaGreatMw03
import Derived.Test.YtgfaieppacabjaaGreatMw04
import Derived.Test.YtgfaieppacabjaaGreatMw05
import Derived.Test.YtgfaieppacabjaaGreatMw06
import Derived.Test.YtgfaieppacabjaaGreatMw07
import Derived.Test.YtgfaieppacabjaaGreatMw08
import Derived.Test.YtgfaieppacabjaaGreatMw09
import Derived.Test.YtgfaieppacabjaaGreatMw10
import Derived.Test.YtgfaieppacabjaaGreatMw11
import Derived.Test.YtgfaieppacabjaaGreatMw12
import Derived.Test.YtgfaieppacabjaaGreatMw13
import Derived.Test.YtgfaieppacabjaaGreatMw14
import Derived.Test.YtgfaieppacabjaaGreatMw15
import Derived.Test.YtgfaieppacabjaaGreatMw16
import Derived.Test.YtgfaieppacabjaaGreatMw17
import Derived.Test.YtgfaieppacabjaaGreatMw18
import Derived.Test.YtgfaieppacabjaaGreatMw19
import Derived.Test.YtgfaieppacabjaaGreatMw20
import Derived.Test.YtgfaieppacabjaaGreatMw21
import Derived.Test.YtgfaieppacabjaaGreatMw22
import Derived.BigQuiet
import Derived.Deep.QuietTactic
import Derived.Deep.MidRow
import Derived.Test.YtgfaieppacabjaaGreatMx05
import Derived.Test.YtgfaieppacabjaaGreatMx01
import Derived.Test.YtgfaieppacabjaaGreatMx02
import Derived.Test.YtgfaieppacabjaaGreatMx03
import Derived.Test.YtgfaieppacabjaaGreatMx04
set_option linter.unusedSectionVars false
set_option maxRecDepth 100000
set_option maxHeartbeats 12800000
namespace Go.Proofs.YtgfaieppacabjaaGreat
open Go.RowKit
set_option linter.unusedVariables false
set_option linter.unusedSimpArgs false
theorem seven_of{W:World} {g:Nat} {a b c d e f h:Value} (q:W.rangeAt g 0 [a,b,c,d,e,f,h]):W.cell? ⟨g,0,none⟩=some a∧W.cell? ⟨g,1,none⟩=some b∧W.cell? ⟨g,2,none⟩=some c∧W.cell? ⟨g,3,none⟩=some d∧W.cell? ⟨g,4,none⟩=some e∧W.cell? ⟨g,5,none⟩=some f∧W.cell? ⟨g,6,none⟩=some h :=
 ⟨q 0 _ rfl,q 1 _ rfl,q 2 _ rfl,q 3 _ rfl,q 4 _ rfl,q 5 _ rfl,q 6 _ rfl⟩
theorem extends_any(vt:Value) (xs:List Int) (p m q:Int) (back:Bool) (w:World) (hx:IntS w (Bl w.heap.size) vt xs) (hp:I64 p) (hm:I64 m) (hq:I64 q) :
  Calls Tryz.prog 5 #[vt,.int .i64 p,.int .i64 m,.int .i64 q,.bool back] w fun e w'=>e=.returned (.bool true)∧Below w.heap.size w w':=by
 have HMD:=zh (made35_any vt xs w hx)
 obtain⟨At,nt,ct,rfl⟩:∃A n c,vt=.slice A n c:=by obtain⟨A,c,e,-⟩:=hx.1;exact⟨A,_,c,e⟩
 have HI:=zh (And.intro hp (And.intro hm hq))
 clear hx hp hm hq
 go_enter Tryz.func5,Tryz.ntmps5
 go_wp2_with fail
 refine HMD.out.mono ?_
 rintro e w2 ⟨vl,vm,vd,vv,vp,vo,vy,Ar,nr,kr,gT,F,L,rfl,hf,hly,hok,hlo,hb2⟩
 clear HMD
 obtain⟨Al,nl,cl,rfl⟩:=hf.1.form3
 obtain⟨Am,nm,cm,rfl⟩:=hf.2.1.form3
 obtain⟨Ad,nd,cd,rfl⟩:=hf.2.2.1.form3
 obtain⟨Av,nv,cv,rfl⟩:=hf.2.2.2.1.form3
 obtain⟨Ap,cp,hvp,-⟩:=hf.2.2.2.2.1.form
 subst hvp
 obtain⟨Ao,no,co,rfl⟩:=hf.2.2.2.2.2.form3
 obtain⟨Ay,ny,ky,rfl⟩:=hly.form3
 have hl2:SlS 1 RowIK w2 (Bl w2.heap.size) (.slice Ay ny ky) L:=hly.mono rowIK (fun b hb=>hb.2)
 have HL2:=zh hl2
 have HLO:=zh hlo
 clear hl2 hlo
 obtain⟨EX,hEX⟩:=zx F.ext
 obtain⟨NP,hNP⟩:=zx F.pols.length
 have hf2:FleetS w2 (Bl w2.heap.size) (.slice Al nl cl) (.slice Am nm cm) (.slice Ad nd cd) (.slice Av nv cv) (.slice Ap F.pols.length cp) (.slice Ao no co) F:=hf.mono (fun b hb=>hb.2)
 have HB2:=zh hb2
 have HF2:=zh hf2
 have HOK:=zh hok
 have HEX:=zh hEX
 have HNP:=zh hNP
 rw[←hEX,←hNP]
 clear hf hf2 hly hok hEX hNP hb2
 go_upto_region 2 with fail
 obtain⟨W3,hW3⟩:=zx (w2.alloc (.cells #[.int .i64 EX,.slice Al nl cl,.slice Am nm cm,.slice Ad nd cd,.slice Av nv cv,.slice Ap NP cp,.slice Ao no co,.slice Ay ny ky,.slice Ar nr kr] 39))
 obtain⟨gC,hgC⟩:=zx w2.heap.size
 rw[←hW3,←hgC]
 have h3k:W3.heap[gC]?=some (.cells #[.int .i64 EX,.slice Al nl cl,.slice Am nm cm,.slice Ad nd cd,.slice Av nv cv,.slice Ap NP cp,.slice Ao no co,.slice Ay ny ky,.slice Ar nr kr] 39 (0,0)):=by rw[hW3,hgC];exact heap_alloc_new _ _
 have hb3:Below w2.heap.size w2 W3:=by rw[hW3];exact(Below.refl _ _).alloc (Nat.le_refl _) _
 have g3l:gC<W3.heap.size:=(Array.getElem?_eq_some_iff.1 h3k).1
 have hw3:=HB2.out.trans (hb3.mono HB2.out.size)
 have HBW:=zh (show ∀w',Below W3.heap.size W3 w'→Below w.heap.size w w' from fun w' hb=>hw3.trans (hb.mono hw3.size))
 have HC:=zh (show ∀w',Below W3.heap.size W3 w'→w'.heap[gC]?=some (.cells #[.int .i64 EX,.slice Al nl cl,.slice Am nm cm,.slice Ad nd cd,.slice Av nv cv,.slice Ap NP cp,.slice Ao no co,.slice Ay ny ky,.slice Ar nr kr] 39 (0,0)) from fun w' hb=>(hb.block gC g3l).trans h3k)
 have HFS:=zh (show ∀w',Below W3.heap.size W3 w'→FleetS w' (Bl w'.heap.size) (.slice Al nl cl) (.slice Am nm cm) (.slice Ad nd cd) (.slice Av nv cv) (.slice Ap F.pols.length cp) (.slice Ao no co) F from fun w' hb=>HF2.out.below (hb3.trans (hb.mono hb3.size)))
 have HLS:=zh (show ∀w',Below W3.heap.size W3 w'→SlS 1 RowIK w' (Bl w'.heap.size) (.slice Ay ny ky) L from fun w' hb=>SlS.below rowIK HL2.out (hb3.trans (hb.mono hb3.size)))
 clear hW3 hgC h3k hb3 g3l hw3 HF2 HB2 HL2
 have hra:=raised_any 3 _ _ _ _ _ _ F p m q W3 (HFS.out W3 (Below.refl _ _)) HOK.out HI.out.1 HI.out.2.1 HI.out.2.2
 rw[←HEX.out,←HNP.out] at hra
 have HRA:=zh hra
 clear hra
 obtain⟨c0,c1,c2,c3,c4,c5,c6,c7,c8⟩:=cells9 (HC.out W3 (Below.refl _ _))
 go_wp2_with fail
 refine HRA.out.mono ?_
 rintro e w4 ⟨pi,x,a,b,hx,hpi,ha3,ham,⟨hbm,hbq⟩,rfl,hb4⟩
 clear HRA c0 c1 c2 c3 c4 c5 c6 c7 c8
 have HB4:=zh hb4
 have HX:=zh hx
 obtain⟨M1,hM1⟩:=zx (x.m+(a:Int))
 obtain⟨Q1,hQ1⟩:=zx (x.k+(b:Int))
 rw[←hM1,←hQ1]
 have hpw:=(HOK.out.pols pi x hx).2.2
 obtain⟨hk1,hm0,hm4,-,-,-,-,-,-,-,-,htg,-⟩:=hpw
 have HM:=zh (show x.m≤M1∧M1≤6∧x.k≤Q1∧Q1≤x.k+M1∧0≤M1∧(x.k=1∨x.k=2) from⟨by omega,by omega,by omega,by omega,by omega,hk1⟩)
 have hpl:=(List.getElem?_eq_some_iff.1 hx).1
 obtain⟨pb,pof,cs,hAp,hRp,hcl,hc,hK⟩:=(HFS.out w4 HB4.out).2.2.2.2.1.at_ (k:=pi) hpl
 rw[(List.getElem?_eq_some_iff.1 hx).2] at hK
 subst hAp
 obtain⟨v1,v2,v3,v4,v5,v6,rfl,i1,i2,i3,i4,i5,i6⟩:=hK
 rw[htg] at hc i3 i4
 obtain⟨At3,kt3,rfl⟩:=ls_one i3 (by decide)
 obtain⟨At4,kt4,rfl⟩:=ls_one i4 (by decide)
 have e11:w4.cell? ⟨pb,pof+pi * 17+11,none⟩=some (.bool false):=hc 11 _ rfl
 have e12:w4.cell? ⟨pb,pof+pi * 17+12,none⟩=some (.slice At3 1 kt3):=hc 12 _ rfl
 have e13:w4.cell? ⟨pb,pof+pi * 17+13,none⟩=some (.slice At4 1 kt4):=hc 13 _ rfl
 have HT34:=zh (And.intro i3 i4)
 have lp:(pi:Int)<(NP:Int):=by rw[HNP.out];omega
 have HPI:=zh (show pi<NP∧NP≤2 from⟨by omega,by rw[HNP.out];exact HOK.out.polN⟩)
 have hrt:w4.rangeAt pb (pof+pi * 17+11) [.bool false,.slice At3 1 kt3,.slice At4 1 kt4]:=fun k u hu=>by
  match k,hu with
  | 0,hu=>simp at hu;subst hu;exact e11
  | 1,hu=>simp at hu;subst hu;exact e12
  | 2,hu=>simp at hu;subst hu;exact e13
  | k+3,hu=>simp at hu
 have hpbl:pb<w4.heap.size:=hRp
 obtain⟨W4,hW4⟩:=zx w4
 rw[←hW4] at HB4 HT34 hrt hpbl ⊢
 have HSR:=zh (show ∀w',Below W4.heap.size W4 w'→(fun w'=>w'.rangeAt gC 0 [.int .i64 EX,.slice Al nl cl,.slice Am nm cm,.slice Ad nd cd,.slice Av nv cv,.slice (some ⟨pb,pof,none⟩) NP cp,.slice Ao no co]∧w'.rangeAt pb (pof+pi * 17+11) [.bool false,.slice At3 1 kt3,.slice At4 1 kt4]) w' from fun w' hb=>⟨fun k u hu=>by
  have h9:=HC.out w' (HB4.out.trans (hb.mono HB4.out.size))
  rw[cell_of_row _ _ _ _ _ _ h9,Nat.zero_add,←Array.getElem?_toList]
  match k,hu with
  | 0,hu=>exact hu
  | 1,hu=>exact hu
  | 2,hu=>exact hu
  | 3,hu=>exact hu
  | 4,hu=>exact hu
  | 5,hu=>exact hu
  | 6,hu=>exact hu
  | k+7,hu=>simp at hu,range_same hrt (hb.block pb hpbl)⟩)
 have hf4:=HFS.out W4 HB4.out
 have hrs:=fun(Z0:Nat→Prop) (hZ:∀b,Z0 b→W4.heap.size≤b) (w':World) (hb:Below W4.heap.size W4 w') (hZ0:∀b,Z0 b→b<w'.heap.size)=>raise_uni Z0 3 (by omega) _ _ _ _ _ _ _ _ F pi x M1 Q1 w' ((hf4.keep (fun b hb'=>hb.block b hb')).mono (fun b hb'=>⟨Nat.lt_of_lt_of_le hb' hb.size,fun e=>by have:=hZ b e;unfold Bl at hb';omega⟩)) hZ0 HOK.out HX.out HM.out.1 HM.out.2.1 HM.out.2.2.1 HM.out.2.2.2.1 (HT34.out.1.below hb) (HT34.out.2.below hb)
 rw[←HEX.out,←HNP.out] at hrs
 have HRS:=zh hrs
 have hrn:=fun(w':World) (hb:Below W4.heap.size W4 w') (h4:4<M1)=>rraise_no 3 (by omega) _ _ _ _ _ _ _ _ F pi x M1 Q1 w' (HFS.out w' (HB4.out.trans (hb.mono HB4.out.size))) HOK.out HX.out HM.out.1 HM.out.2.1 h4 HM.out.2.2.1 HM.out.2.2.2.1 (HT34.out.1.below hb) (HT34.out.2.below hb)
 rw[←HEX.out,←HNP.out] at hrn
 have HRN0:=zh hrn
 clear hrs hrn hf4 hx hpi ha3 ham hbm hbq hb4 hM1 hQ1 hk1 hm0 hm4 htg hpl hRp hcl hc i1 i2 i3 i4 i5 i6 e11 e12 e13 hrt hpbl hW4
 go_upto_region 3 with fail
 go_cut [13,14] from 42 to 57 (fun v13 v14 wc=>∃(gG:Nat) (ex er:Int) (E1 E2 E3 E4 E5 E6:Option Addr) (m1 m2 m3 m4 m5 m6 t1 t2 t3 t4 t5 t6:Nat),v13=.pointer (some ⟨gG,0,none⟩)∧v14=.int .i64 er∧Hid (Below W4.heap.size W4 wc)∧Hid (wc.rangeAt gG 0 [.int .i64 ex,.slice E1 m1 t1,.slice E2 m2 t2,.slice E3 m3 t3,.slice E4 m4 t4,.slice E5 m5 t5,.slice E6 m6 t6]∧gG<wc.heap.size)∧Hid ((4<M1∧er=5)∨(M1≤4∧er=0∧ex=EX∧FleetS wc (Bl wc.heap.size) (.slice E1 m1 t1) (.slice E2 m2 t2) (.slice E3 m3 t3) (.slice E4 m4 t4) (.slice E5 m5 t5) (.slice E6 m6 t6) (raiseM F pi M1 Q1))))
 case first =>
  refine region_tail (S:=(fun w'=>w'.rangeAt gC 0 [.int .i64 EX,.slice Al nl cl,.slice Am nm cm,.slice Ad nd cd,.slice Av nv cv,.slice (some ⟨pb,pof,none⟩) NP cp,.slice Ao no co]∧w'.rangeAt pb (pof+pi * 17+11) [.bool false,.slice At3 1 kt3,.slice At4 1 kt4])) [] (by kernel_rfl) (HSR.out _ (Below.refl _ _).drew) (fun hHeld=>?_)
  refine tk 0 43 ?_
  refine takeT (i:=1) (d:=44) (v:=(.agg #[.int .i64 EX,.slice Al nl cl,.slice Am nm cm,.slice Ad nd cd,.slice Av nv cv,.slice (some ⟨pb,pof,none⟩) NP cp,.slice Ao no co])) rfl rfl (by kernel_rfl) (by kernel_rfl) (by kernel_rfl) (by kernel_rfl) (fun _ _ _ h=>h) (yieldsIf_load_mid (by rfl) 35 (.tmp 43) rfl gC 0 (by rfl) [.int .i64 EX,.slice Al nl cl,.slice Am nm cm,.slice Ad nd cd,.slice Av nv cv,.slice (some ⟨pb,pof,none⟩) NP cp,.slice Ao no co] _ (fun w hw=>hw.1) Tryz.underlying35 rfl size_fltE) (by assumption) ?_
  (try simp only[Act.put,z1,z2,z3])
  refine tk 2 45 ?_
  refine tk 3 46 ?_
  refine tk 4 47 ?_
  refine tk 5 48 ?_
  refine tk 6 49 ?_
  refine takeT (i:=7) (d:=50) (v:=?_) rfl rfl (by kernel_rfl) (by kernel_rfl) (by kernel_rfl) (by kernel_rfl) (fun _ _ _ h=>h) (Or.inl ⟨by rfl,?_⟩) (by assumption) ?_
  rotate_left
  ·(intro w hSw;(try dsimp only at hSw);(have c5:=hSw.1 5 _ rfl);go_simp;first | done | with_reducible rfl)
  (try simp only[Act.put,z1,z2,z3])
  refine tk 8 51 ?_
  refine tk 9 52 ?_
  refine tk 10 53 ?_
  refine takeT (i:=11) (d:=54) (v:=(.agg #[.bool false,.slice At3 1 kt3,.slice At4 1 kt4])) rfl rfl (by kernel_rfl) (by kernel_rfl) (by kernel_rfl) (by kernel_rfl) (fun _ _ _ h=>h) (yieldsIf_load_mid (by rfl) 26 (.tmp 53) rfl pb (pof+pi * 17+11) (by rfl) [.bool false,.slice At3 1 kt3,.slice At4 1 kt4] _ (fun w hw=>hw.2) Tryz.underlying26 rfl size_frac7) (by assumption) ?_
  (try simp only[Act.put,z1,z2,z3])
  refine readyT (rs:=[12,16]) (by kernel_rfl) (by simp) ?_
  refine AllReadyT.cons rfl (fun K hK=>?_) ?_
  ·go_simp
   (go_at_call 11;refine(HRS.out (fun _=>False) (fun _ h=>h.elim) _ (Below.refl _ _).drew (fun _ h=>h.elim)).mono ?_;rintro e w6 ⟨ex,er,E1,E2,E3,E4,E5,E6,m1,m2,m3,m4,m5,m6,t1,t2,t3,t4,t5,t6,rfl,hb6,hcase⟩;have HB6:=zh (show Below W4.heap.size W4 w6 from((Below.refl _ _).drew:Below W4.heap.size W4 W4.drew).trans hb6);have HX6:=zh hcase;clear hb6 hcase)
   go_wp2_with fail
   refine hK.out _ _ ?_ (fun hHeld=>?_)
   ·exact HSR.out _ HB6.out
   clear hK K
   (try simp only[Act.put,z1,z2,z3])
   refine tk 13 42 ?_
   refine tk 14 56 ?_
   refine tk 15 57 ?_
   refine readyT (rs:=[16]) (by kernel_rfl) (by simp) ?_
   refine AllReadyT.cons rfl (fun K hK=>?_) ?_
   ·go_simp
    obtain⟨W7,hW7⟩:=zx (w6.alloc (.cells #[.int .i64 0,.slice none 0 0,.slice none 0 0,.slice none 0 0,.slice none 0 0,.slice none 0 0,.slice none 0 0] 35))
    obtain⟨gG,hgG⟩:=zx w6.heap.size
    rw[←hW7,←hgG]
    have hk7:=(new7 hW7).1
    have hb7:=(new7 hW7).2
    rw[←hgG] at hk7
    have hgs:W4.heap.size≤gG:=by rw[hgG];exact HB6.out.size
    have HTH:=zh (show W7.there gG 0 7 from there_new hk7 (Nat.le_refl 7))
    have HB7:=zh (HB6.out.trans (hb7.mono HB6.out.size))
    have HB67:=zh hb7
    have HG6:=zh (show w6.heap.size≤gG by omega)
    have HGS:=zh hgs
    have HGL:=zh (Array.getElem?_eq_some_iff.1 hk7).1
    clear hW7 hgG hk7 hb7 hgs
    refine hK.out _ _ ?_ (fun hHeld=>?_)
    ·(first|exact HSR.out _ HB7.out|exact HSR.out _ HB5.out)
    clear hK K
    (try simp only[Act.put,z1,z2,z3])
    refine readyT (rs:=[17]) (by kernel_rfl) (by simp) ?_
    refine AllReadyT.cons rfl (fun K hK=>?_) ?_
    ·refine wp_store_mid 35 (.tmp 13) (.tmp 56) rfl gG 0 #[.int .i64 ex,.slice E1 m1 t1,.slice E2 m2 t2,.slice E3 m3 t3,.slice E4 m4 t4,.slice E5 m5 t5,.slice E6 m6 t6] (by rfl) (by rfl) HTH.out size_fltE (by simp[Value.oneCell']) ?_
     simp only[List.toList_toArray]
     have hgr:=World.rangeAt_setCells_same W7 gG 0 [.int .i64 ex,.slice E1 m1 t1,.slice E2 m2 t2,.slice E3 m3 t3,.slice E4 m4 t4,.slice E5 m5 t5,.slice E6 m6 t6] HTH.out
     have hbz:Below W4.heap.size W4 (World.setCells W7 gG 0 [.int .i64 ex,.slice E1 m1 t1,.slice E2 m2 t2,.slice E3 m3 t3,.slice E4 m4 t4,.slice E5 m5 t5,.slice E6 m6 t6]):=below_setCellsV HGS.out _ _ _ HB7.out
     have hkp:∀b,b≠gG→(World.setCells W7 gG 0 [.int .i64 ex,.slice E1 m1 t1,.slice E2 m2 t2,.slice E3 m3 t3,.slice E4 m4 t4,.slice E5 m5 t5,.slice E6 m6 t6]).heap[b]?=W7.heap[b]?:=fun b hb=>setCells_other _ _ _ _ hb
     have hsz:=setCells_sizeK (g:=gG) [.int .i64 ex,.slice E1 m1 t1,.slice E2 m2 t2,.slice E3 m3 t3,.slice E4 m4 t4,.slice E5 m5 t5,.slice E6 m6 t6] 0 W7
     obtain⟨W8,hW8⟩:=zx (World.setCells W7 gG 0 [.int .i64 ex,.slice E1 m1 t1,.slice E2 m2 t2,.slice E3 m3 t3,.slice E4 m4 t4,.slice E5 m5 t5,.slice E6 m6 t6])
     rw[←hW8] at hgr hbz hkp hsz ⊢
     clear hW8
     have HGR:=zh hgr
     have HB8:=zh hbz
     have HKP:=zh (show(∀b,b≠gG→W8.heap[b]?=W7.heap[b]?)∧W8.heap.size=W7.heap.size from⟨hkp,hsz⟩)
     clear hgr hbz hkp hsz
     refine hK.out _ _ ?_ (fun hHeld=>?_)
     ·exact HSR.out _ HB8.out
     clear hK K
     (try simp only[Act.put,z1,z2,z3])
     refine tk 18 14 ?_
     refine doneT (by kernel_rfl) ?_ _
     clear hHeld
     have h6:=HX6.out
     have hc:(4<M1∧er=5)∨(M1≤4∧er=0∧ex=EX∧FleetS W8 (Bl W8.heap.size) (.slice E1 m1 t1) (.slice E2 m2 t2) (.slice E3 m3 t3) (.slice E4 m4 t4) (.slice E5 m5 t5) (.slice E6 m6 t6) (raiseM F pi M1 Q1)):=by
      rcases h6 with h | ⟨h1,h2,h3,h4⟩
      ·exact .inl h
      ·exact .inr ⟨h1,h2,h3,(h4.keep (fun b hb=>(HKP.out.1 b (by have h7:=hb.1;have h8:=HG6.out;omega)).trans (HB67.out.block b hb.1))).mono (fun b hb=>by unfold Bl;rw[HKP.out.2];exact Nat.lt_of_lt_of_le hb.1 HB67.out.size)⟩
     have HCC:=zh hc
     have HGR2:=zh (show W8.rangeAt gG 0 [.int .i64 ex,.slice E1 m1 t1,.slice E2 m2 t2,.slice E3 m3 t3,.slice E4 m4 t4,.slice E5 m5 t5,.slice E6 m6 t6]∧gG<W8.heap.size from⟨HGR.out,by rw[HKP.out.2];exact HGL.out⟩)
     clear hc h6
     go_wp2_with fail
     go_meet
     exact⟨gG,ex,er,E1,E2,E3,E4,E5,E6,m1,m2,m3,m4,m5,m6,t1,t2,t3,t4,t5,t6,rfl,rfl,HB8,HGR2,HCC⟩
    exact AllReadyT.nil
   exact AllReadyT.nil
  refine AllReadyT.cons rfl (fun K hK=>?_) ?_
  ·go_simp
   obtain⟨W5,hW5⟩:=zx ((W4.alloc (.cells #[.int .i64 0,.slice none 0 0,.slice none 0 0,.slice none 0 0,.slice none 0 0,.slice none 0 0,.slice none 0 0] 35)).drew)
   obtain⟨gG,hgG⟩:=zx W4.heap.size
   rw[←hW5,←hgG]
   have hk5:W5.heap[gG]?=some (.cells #[.int .i64 0,.slice none 0 0,.slice none 0 0,.slice none 0 0,.slice none 0 0,.slice none 0 0,.slice none 0 0] 35 (0,0)):=by rw[hW5,hgG];exact heap_alloc_new W4 _
   have hb5:Below W4.heap.size W4 W5:=by rw[hW5];exact((Below.refl _ _).alloc (Nat.le_refl _) _).drew
   have HB5:=zh hb5
   have HK5:=zh hk5
   have HG5:=zh (show W4.heap.size≤gG∧gG<W5.heap.size from⟨by omega,(Array.getElem?_eq_some_iff.1 hk5).1⟩)
   clear hW5 hgG hb5 hk5
   refine hK.out _ _ ?_ (fun hHeld=>?_)
   ·(first|exact HSR.out _ HB7.out|exact HSR.out _ HB5.out)
   clear hK K
   (try simp only[Act.put,z1,z2,z3])
   refine readyT (rs:=[12]) (by kernel_rfl) (by simp) ?_
   refine AllReadyT.cons rfl (fun K hK=>?_) ?_
   ·go_simp
    (go_at_call 11;refine(HRS.out (fun b=>b=gG) (fun b e=>by subst e;exact HG5.out.1) W5 HB5.out (fun b e=>by subst e;exact HG5.out.2)).mono ?_;rintro e w6 ⟨ex,er,E1,E2,E3,E4,E5,E6,m1,m2,m3,m4,m5,m6,t1,t2,t3,t4,t5,t6,rfl,hb6,hcase⟩;have HB6:=zh (show Below W4.heap.size W4 w6 from HB5.out.trans (hb6.mono HB5.out.size));have HX6:=zh hcase;have HB56:=zh hb6;clear hb6 hcase)
    go_wp2_with fail
    refine hK.out _ _ ?_ (fun hHeld=>?_)
    ·exact HSR.out _ HB6.out
    clear hK K
    (try simp only[Act.put,z1,z2,z3])
    refine tk 13 42 ?_
    refine tk 14 56 ?_
    refine tk 15 57 ?_
    refine readyT (rs:=[17]) (by kernel_rfl) (by simp) ?_
    refine AllReadyT.cons rfl (fun K hK=>?_) ?_
    ·have HTH:=zh (show w6.there gG 0 7 from there_new ((HB56.out.block gG HG5.out.2).trans HK5.out) (Nat.le_refl 7))
     have HGS:=zh HG5.out.1
     have HGL:=zh (Nat.lt_of_lt_of_le HG5.out.2 HB56.out.size)
     refine wp_store_mid 35 (.tmp 13) (.tmp 56) rfl gG 0 #[.int .i64 ex,.slice E1 m1 t1,.slice E2 m2 t2,.slice E3 m3 t3,.slice E4 m4 t4,.slice E5 m5 t5,.slice E6 m6 t6] (by rfl) (by rfl) HTH.out size_fltE (by simp[Value.oneCell']) ?_
     simp only[List.toList_toArray]
     have hgr:=World.rangeAt_setCells_same w6 gG 0 [.int .i64 ex,.slice E1 m1 t1,.slice E2 m2 t2,.slice E3 m3 t3,.slice E4 m4 t4,.slice E5 m5 t5,.slice E6 m6 t6] HTH.out
     have hbz:Below W4.heap.size W4 (World.setCells w6 gG 0 [.int .i64 ex,.slice E1 m1 t1,.slice E2 m2 t2,.slice E3 m3 t3,.slice E4 m4 t4,.slice E5 m5 t5,.slice E6 m6 t6]):=below_setCellsV HGS.out _ _ _ HB6.out
     have hkp:∀b,b≠gG→(World.setCells w6 gG 0 [.int .i64 ex,.slice E1 m1 t1,.slice E2 m2 t2,.slice E3 m3 t3,.slice E4 m4 t4,.slice E5 m5 t5,.slice E6 m6 t6]).heap[b]?=w6.heap[b]?:=fun b hb=>setCells_other _ _ _ _ hb
     have hsz:=setCells_sizeK (g:=gG) [.int .i64 ex,.slice E1 m1 t1,.slice E2 m2 t2,.slice E3 m3 t3,.slice E4 m4 t4,.slice E5 m5 t5,.slice E6 m6 t6] 0 w6
     obtain⟨W8,hW8⟩:=zx (World.setCells w6 gG 0 [.int .i64 ex,.slice E1 m1 t1,.slice E2 m2 t2,.slice E3 m3 t3,.slice E4 m4 t4,.slice E5 m5 t5,.slice E6 m6 t6])
     rw[←hW8] at hgr hbz hkp hsz ⊢
     clear hW8
     have HGR:=zh hgr
     have HB8:=zh hbz
     have HKP:=zh (show(∀b,b≠gG→W8.heap[b]?=w6.heap[b]?)∧W8.heap.size=w6.heap.size from⟨hkp,hsz⟩)
     clear hgr hbz hkp hsz
     refine hK.out _ _ ?_ (fun hHeld=>?_)
     ·exact HSR.out _ HB8.out
     clear hK K
     (try simp only[Act.put,z1,z2,z3])
     refine tk 18 14 ?_
     refine doneT (by kernel_rfl) ?_ _
     clear hHeld
     have h6:=HX6.out
     have hc:(4<M1∧er=5)∨(M1≤4∧er=0∧ex=EX∧FleetS W8 (Bl W8.heap.size) (.slice E1 m1 t1) (.slice E2 m2 t2) (.slice E3 m3 t3) (.slice E4 m4 t4) (.slice E5 m5 t5) (.slice E6 m6 t6) (raiseM F pi M1 Q1)):=by
      rcases h6 with h | ⟨h1,h2,h3,h4⟩
      ·exact .inl h
      ·exact .inr ⟨h1,h2,h3,(h4.keep (fun b hb=>HKP.out.1 b hb.2)).mono (fun b hb=>by unfold Bl;rw[HKP.out.2];exact hb.1)⟩
     have HCC:=zh hc
     have HGR2:=zh (show W8.rangeAt gG 0 [.int .i64 ex,.slice E1 m1 t1,.slice E2 m2 t2,.slice E3 m3 t3,.slice E4 m4 t4,.slice E5 m5 t5,.slice E6 m6 t6]∧gG<W8.heap.size from⟨HGR.out,by rw[HKP.out.2];exact HGL.out⟩)
     clear hc h6
     go_wp2_with fail
     go_meet
     exact⟨gG,ex,er,E1,E2,E3,E4,E5,E6,m1,m2,m3,m4,m5,m6,t1,t2,t3,t4,t5,t6,rfl,rfl,HB8,HGR2,HCC⟩
    exact AllReadyT.nil
   exact AllReadyT.nil
  exact AllReadyT.nil
 case rest =>
  obtain⟨gG,ex,er,E1,E2,E3,E4,E5,E6,m1,m2,m3,m4,m5,m6,t1,t2,t3,t4,t5,t6,rfl,rfl,HBC,HGR,HCC⟩:=hcut
  clear HRS
  rcases HCC.out with ⟨h4,her⟩ | ⟨h4,her,hex,hg⟩
  ·subst her
   have HM4:=zh h4
   have HRN:=zh (fun(w':World) (hb:Below wc.heap.size wc w')=>HRN0.out w' (HBC.out.trans (hb.mono HBC.out.size)) HM4.out)
   clear HCC h4
   obtain⟨WC,hWC⟩:=zx wc
   rw[←hWC] at HRN HBC HGR ⊢
   clear hWC
   have HSRC:=zh (show ∀w',Below WC.heap.size WC w'→(fun w'=>w'.rangeAt gC 0 [.int .i64 EX,.slice Al nl cl,.slice Am nm cm,.slice Ad nd cd,.slice Av nv cv,.slice (some ⟨pb,pof,none⟩) NP cp,.slice Ao no co]∧w'.rangeAt pb (pof+pi * 17+11) [.bool false,.slice At3 1 kt3,.slice At4 1 kt4]) w' from fun w' hb=>HSR.out w' (HBC.out.trans (hb.mono HBC.out.size)))
   go_upto_region 5 with fail
   go_cut [15,16] from 60 to 75 (fun v15 v16 wd=>∃gH:Nat,v15=.pointer (some ⟨gH,0,none⟩)∧v16=.int .i64 5∧Hid (Below WC.heap.size WC wd))
   case first =>
    clear HGR
    refine region_tail (S:=(fun w'=>w'.rangeAt gC 0 [.int .i64 EX,.slice Al nl cl,.slice Am nm cm,.slice Ad nd cd,.slice Av nv cv,.slice (some ⟨pb,pof,none⟩) NP cp,.slice Ao no co]∧w'.rangeAt pb (pof+pi * 17+11) [.bool false,.slice At3 1 kt3,.slice At4 1 kt4])) [] (by kernel_rfl) (HSRC.out _ (Below.refl _ _).drew) (fun hHeld=>?_)
    refine tk 0 61 ?_
    refine takeT (i:=1) (d:=62) (v:=(.agg #[.int .i64 EX,.slice Al nl cl,.slice Am nm cm,.slice Ad nd cd,.slice Av nv cv,.slice (some ⟨pb,pof,none⟩) NP cp,.slice Ao no co])) rfl rfl (by kernel_rfl) (by kernel_rfl) (by kernel_rfl) (by kernel_rfl) (fun _ _ _ h=>h) (yieldsIf_load_mid (by rfl) 35 (.tmp 61) rfl gC 0 (by rfl) [.int .i64 EX,.slice Al nl cl,.slice Am nm cm,.slice Ad nd cd,.slice Av nv cv,.slice (some ⟨pb,pof,none⟩) NP cp,.slice Ao no co] _ (fun w hw=>hw.1) Tryz.underlying35 rfl size_fltE) (by assumption) ?_
    (try simp only[Act.put,z1,z2,z3])
    refine tk 2 63 ?_
    refine tk 3 64 ?_
    refine tk 4 65 ?_
    refine tk 5 66 ?_
    refine tk 6 67 ?_
    refine takeT (i:=7) (d:=68) (v:=?_) rfl rfl (by kernel_rfl) (by kernel_rfl) (by kernel_rfl) (by kernel_rfl) (fun _ _ _ h=>h) (Or.inl ⟨by rfl,?_⟩) (by assumption) ?_
    rotate_left
    ·(intro w hSw;(try dsimp only at hSw);(have c5:=hSw.1 5 _ rfl);go_simp;first | done | with_reducible rfl)
    (try simp only[Act.put,z1,z2,z3])
    refine tk 8 69 ?_
    refine tk 9 70 ?_
    refine tk 10 71 ?_
    refine takeT (i:=11) (d:=72) (v:=(.agg #[.bool false,.slice At3 1 kt3,.slice At4 1 kt4])) rfl rfl (by kernel_rfl) (by kernel_rfl) (by kernel_rfl) (by kernel_rfl) (fun _ _ _ h=>h) (yieldsIf_load_mid (by rfl) 26 (.tmp 71) rfl pb (pof+pi * 17+11) (by rfl) [.bool false,.slice At3 1 kt3,.slice At4 1 kt4] _ (fun w hw=>hw.2) Tryz.underlying26 rfl size_frac7) (by assumption) ?_
    (try simp only[Act.put,z1,z2,z3])
    refine readyT (rs:=[12,16]) (by kernel_rfl) (by simp) ?_
    refine AllReadyT.cons rfl (fun K hK=>?_) ?_
    ·go_simp
     (go_at_call 12;refine(HRN.out _ (Below.refl _ _).drew).mono ?_;rintro e w6 ⟨rfl,hb6⟩;have HB6:=zh (show Below WC.heap.size WC w6 from((Below.refl _ _).drew:Below WC.heap.size WC WC.drew).trans hb6);have HX6:=zh (Nat.le_refl 0);clear hb6)
     go_wp2_with fail
     refine hK.out _ _ ?_ (fun hHeld=>?_)
     ·exact HSRC.out _ HB6.out
     clear hK K
     (try simp only[Act.put,z1,z2,z3])
     refine tk 13 60 ?_
     refine tk 14 74 ?_
     refine tk 15 75 ?_
     refine readyT (rs:=[16]) (by kernel_rfl) (by simp) ?_
     refine AllReadyT.cons rfl (fun K hK=>?_) ?_
     ·go_simp
      obtain⟨W7,hW7⟩:=zx (w6.alloc (.cells #[.int .i64 0,.slice none 0 0,.slice none 0 0,.slice none 0 0,.slice none 0 0,.slice none 0 0,.slice none 0 0] 35))
      obtain⟨gG,hgG⟩:=zx w6.heap.size
      rw[←hW7,←hgG]
      have hk7:=(new7 hW7).1
      have hb7:=(new7 hW7).2
      rw[←hgG] at hk7
      have hgs:WC.heap.size≤gG:=by rw[hgG];exact HB6.out.size
      have HTH:=zh (show W7.there gG 0 7 from there_new hk7 (Nat.le_refl 7))
      have HB7:=zh (HB6.out.trans (hb7.mono HB6.out.size))
      have HB67:=zh hb7
      have HG6:=zh (show w6.heap.size≤gG by omega)
      have HGS:=zh hgs
      have HGL:=zh (Array.getElem?_eq_some_iff.1 hk7).1
      clear hW7 hgG hk7 hb7 hgs
      refine hK.out _ _ ?_ (fun hHeld=>?_)
      ·(first|exact HSRC.out _ HB7.out|exact HSRC.out _ HB5.out)
      clear hK K
      (try simp only[Act.put,z1,z2,z3])
      refine readyT (rs:=[17]) (by kernel_rfl) (by simp) ?_
      refine AllReadyT.cons rfl (fun K hK=>?_) ?_
      ·refine wp_store_mid 35 (.tmp 15) (.tmp 74) rfl gG 0 #[.int .i64 0,.slice none 0 0,.slice none 0 0,.slice none 0 0,.slice none 0 0,.slice none 0 0,.slice none 0 0] (by rfl) (by rfl) HTH.out size_fltE (by simp[Value.oneCell']) ?_
       simp only[List.toList_toArray]
       have hgr:=World.rangeAt_setCells_same W7 gG 0 [.int .i64 0,.slice none 0 0,.slice none 0 0,.slice none 0 0,.slice none 0 0,.slice none 0 0,.slice none 0 0] HTH.out
       have hbz:Below WC.heap.size WC (World.setCells W7 gG 0 [.int .i64 0,.slice none 0 0,.slice none 0 0,.slice none 0 0,.slice none 0 0,.slice none 0 0,.slice none 0 0]):=below_setCellsV HGS.out _ _ _ HB7.out
       have hkp:∀b,b≠gG→(World.setCells W7 gG 0 [.int .i64 0,.slice none 0 0,.slice none 0 0,.slice none 0 0,.slice none 0 0,.slice none 0 0,.slice none 0 0]).heap[b]?=W7.heap[b]?:=fun b hb=>setCells_other _ _ _ _ hb
       have hsz:=setCells_sizeK (g:=gG) [.int .i64 0,.slice none 0 0,.slice none 0 0,.slice none 0 0,.slice none 0 0,.slice none 0 0,.slice none 0 0] 0 W7
       obtain⟨W8,hW8⟩:=zx (World.setCells W7 gG 0 [.int .i64 0,.slice none 0 0,.slice none 0 0,.slice none 0 0,.slice none 0 0,.slice none 0 0,.slice none 0 0])
       rw[←hW8] at hgr hbz hkp hsz ⊢
       clear hW8
       have HGR:=zh hgr
       have HB8:=zh hbz
       have HKP:=zh (show(∀b,b≠gG→W8.heap[b]?=W7.heap[b]?)∧W8.heap.size=W7.heap.size from⟨hkp,hsz⟩)
       clear hgr hbz hkp hsz
       refine hK.out _ _ ?_ (fun hHeld=>?_)
       ·exact HSRC.out _ HB8.out
       clear hK K
       (try simp only[Act.put,z1,z2,z3])
       refine tk 18 16 ?_
       refine doneT (by kernel_rfl) ?_ _
       clear hHeld
       go_wp2_with fail
       go_meet
       exact⟨gG,rfl,rfl,HB8⟩
      exact AllReadyT.nil
     exact AllReadyT.nil
    refine AllReadyT.cons rfl (fun K hK=>?_) ?_
    ·go_simp
     obtain⟨W5,hW5⟩:=zx ((WC.alloc (.cells #[.int .i64 0,.slice none 0 0,.slice none 0 0,.slice none 0 0,.slice none 0 0,.slice none 0 0,.slice none 0 0] 35)).drew)
     obtain⟨gG,hgG⟩:=zx WC.heap.size
     rw[←hW5,←hgG]
     have hk5:W5.heap[gG]?=some (.cells #[.int .i64 0,.slice none 0 0,.slice none 0 0,.slice none 0 0,.slice none 0 0,.slice none 0 0,.slice none 0 0] 35 (0,0)):=by rw[hW5,hgG];exact heap_alloc_new WC _
     have hb5:Below WC.heap.size WC W5:=by rw[hW5];exact((Below.refl _ _).alloc (Nat.le_refl _) _).drew
     have HB5:=zh hb5
     have HK5:=zh hk5
     have HG5:=zh (show WC.heap.size≤gG∧gG<W5.heap.size from⟨by omega,(Array.getElem?_eq_some_iff.1 hk5).1⟩)
     clear hW5 hgG hb5 hk5
     refine hK.out _ _ ?_ (fun hHeld=>?_)
     ·(first|exact HSRC.out _ HB7.out|exact HSRC.out _ HB5.out)
     clear hK K
     (try simp only[Act.put,z1,z2,z3])
     refine readyT (rs:=[12]) (by kernel_rfl) (by simp) ?_
     refine AllReadyT.cons rfl (fun K hK=>?_) ?_
     ·go_simp
      (go_at_call 12;refine(HRN.out W5 HB5.out).mono ?_;rintro e w6 ⟨rfl,hb6⟩;have HB6:=zh (show Below WC.heap.size WC w6 from HB5.out.trans (hb6.mono HB5.out.size));have HX6:=zh (Nat.le_refl 0);have HB56:=zh hb6;clear hb6)
      go_wp2_with fail
      refine hK.out _ _ ?_ (fun hHeld=>?_)
      ·exact HSRC.out _ HB6.out
      clear hK K
      (try simp only[Act.put,z1,z2,z3])
      refine tk 13 60 ?_
      refine tk 14 74 ?_
      refine tk 15 75 ?_
      refine readyT (rs:=[17]) (by kernel_rfl) (by simp) ?_
      refine AllReadyT.cons rfl (fun K hK=>?_) ?_
      ·have HTH:=zh (show w6.there gG 0 7 from there_new ((HB56.out.block gG HG5.out.2).trans HK5.out) (Nat.le_refl 7))
       have HGS:=zh HG5.out.1
       have HGL:=zh (Nat.lt_of_lt_of_le HG5.out.2 HB56.out.size)
       refine wp_store_mid 35 (.tmp 15) (.tmp 74) rfl gG 0 #[.int .i64 0,.slice none 0 0,.slice none 0 0,.slice none 0 0,.slice none 0 0,.slice none 0 0,.slice none 0 0] (by rfl) (by rfl) HTH.out size_fltE (by simp[Value.oneCell']) ?_
       simp only[List.toList_toArray]
       have hgr:=World.rangeAt_setCells_same w6 gG 0 [.int .i64 0,.slice none 0 0,.slice none 0 0,.slice none 0 0,.slice none 0 0,.slice none 0 0,.slice none 0 0] HTH.out
       have hbz:Below WC.heap.size WC (World.setCells w6 gG 0 [.int .i64 0,.slice none 0 0,.slice none 0 0,.slice none 0 0,.slice none 0 0,.slice none 0 0,.slice none 0 0]):=below_setCellsV HGS.out _ _ _ HB6.out
       have hkp:∀b,b≠gG→(World.setCells w6 gG 0 [.int .i64 0,.slice none 0 0,.slice none 0 0,.slice none 0 0,.slice none 0 0,.slice none 0 0,.slice none 0 0]).heap[b]?=w6.heap[b]?:=fun b hb=>setCells_other _ _ _ _ hb
       have hsz:=setCells_sizeK (g:=gG) [.int .i64 0,.slice none 0 0,.slice none 0 0,.slice none 0 0,.slice none 0 0,.slice none 0 0,.slice none 0 0] 0 w6
       obtain⟨W8,hW8⟩:=zx (World.setCells w6 gG 0 [.int .i64 0,.slice none 0 0,.slice none 0 0,.slice none 0 0,.slice none 0 0,.slice none 0 0,.slice none 0 0])
       rw[←hW8] at hgr hbz hkp hsz ⊢
       clear hW8
       have HGR:=zh hgr
       have HB8:=zh hbz
       have HKP:=zh (show(∀b,b≠gG→W8.heap[b]?=w6.heap[b]?)∧W8.heap.size=w6.heap.size from⟨hkp,hsz⟩)
       clear hgr hbz hkp hsz
       refine hK.out _ _ ?_ (fun hHeld=>?_)
       ·exact HSRC.out _ HB8.out
       clear hK K
       (try simp only[Act.put,z1,z2,z3])
       refine tk 18 16 ?_
       refine doneT (by kernel_rfl) ?_ _
       clear hHeld
       go_wp2_with fail
       go_meet
       exact⟨gG,rfl,rfl,HB8⟩
      exact AllReadyT.nil
     exact AllReadyT.nil
    exact AllReadyT.nil
   case rest =>
    obtain⟨gH,rfl,rfl,HBD⟩:=hcut
    go_wp2_with fail
    refine(awake_any wc).mono ?_
    rintro e w9 ⟨rfl,hb9⟩
    have HB9:=zh ((HB4.out.trans (HBC.out.mono HB4.out.size)).trans ((HBD.out.trans (hb9.mono HBD.out.size)).mono (HB4.out.trans (HBC.out.mono HB4.out.size)).size))
    clear hb9
    go_wp2_with fail
    go_ret
    exact⟨rfl,HBW.out w9 HB9.out⟩
  ·subst her
   rw[hex] at HGR
   obtain⟨G,hG⟩:=zx (raiseM F pi M1 Q1)
   rw[←hG] at hg
   have hgext:G.ext=F.ext:=by rw[hG];rfl
   have hgok:FleetOk 3 G:=by rw[hG];exact raise_ok HOK.out HX.out HM.out.2.2.2.2.1 h4 HM.out.2.2.1 HM.out.2.2.2.1
   have hsz:∀v,v<F.vols.length→szN F v≤szN G v:=fun v hv=>by
    rw[hG]
    rw[hG] at hgok
    exact sz_up HOK.out hgok HX.out HM.out.1 hv
   have hgv:F.vols.length=G.vols.length:=by rw[hG];rfl
   have hgd:F.dves.length=G.dves.length:=by rw[hG];rfl
   obtain⟨WC,hWC⟩:=zx wc
   rw[←hWC] at HBC HGR hg ⊢
   have HB0:=zh (HB4.out.trans (HBC.out.mono HB4.out.size))
   have HGC:=zh (show ∀w',Below WC.heap.size WC w'→(w'.rangeAt gG 0 [.int .i64 EX,.slice E1 m1 t1,.slice E2 m2 t2,.slice E3 m3 t3,.slice E4 m4 t4,.slice E5 m5 t5,.slice E6 m6 t6]∧FleetS w' (Bl w'.heap.size) (.slice E1 m1 t1) (.slice E2 m2 t2) (.slice E3 m3 t3) (.slice E4 m4 t4) (.slice E5 m5 t5) (.slice E6 m6 t6) G∧Below W3.heap.size W3 w') from fun w' hb=>⟨range_same HGR.out.1 (hb.block gG HGR.out.2),hg.below hb,HB0.out.trans (hb.mono HB0.out.size)⟩)
   have HGG:=zh (show G=raiseM F pi M1 Q1∧G.ext=EX∧FleetOk 3 G∧(∀v,v<F.vols.length→szN F v≤szN G v)∧F.vols.length=G.vols.length∧F.dves.length=G.dves.length from⟨hG,by rw[hgext,HEX.out],hgok,hsz,hgv,hgd⟩)
   have hvp:=fun(w':World) (hb:Below WC.heap.size WC w')=>fvalidate_any 3 (by omega) _ _ _ _ _ _ G w' (HGC.out w' hb).2.1 hgok
   have hvr:=fun(w':World) (hb:Below WC.heap.size WC w')=>rvalidate_k 3 (by omega) _ _ _ _ _ _ G w' (HGC.out w' hb).2.1 hgok
   have hep:=fun(w':World) (hb:Below WC.heap.size WC w')=>pextend_any 3 (by omega) _ _ _ _ _ _ _ _ _ _ _ _ _ F G L w' (HFS.out w' (HGC.out w' hb).2.2) HOK.out (HGC.out w' hb).2.1 hgok hgv hgd (HLS.out w' (HGC.out w' hb).2.2) HLO.out
   have her:=fun(w':World) (hb:Below WC.heap.size WC w')=>rextend_any 3 (by omega) _ _ _ _ _ _ _ _ _ _ _ _ _ F G L w' (HFS.out w' (HGC.out w' hb).2.2) HOK.out (HGC.out w' hb).2.1 hgok hgv hgd (HLS.out w' (HGC.out w' hb).2.2) HLO.out
   rw[hgext,←HEX.out] at hvp hvr hep her
   rw[←HNP.out] at hep her
   have HVP:=zh hvp
   have HVR:=zh hvr
   have HEP:=zh hep
   have HER:=zh her
   clear hG hg hgext hgok hsz hgv hgd hWC hvp hvr hep her hex h4 HCC HSR
   obtain⟨c0,c1,c2,c3,c4,c5,c6⟩:=seven_of (HGC.out WC (Below.refl _ _)).1
   go_wp2_with fail
   refine(HVP.out WC (Below.refl _ _)).mono ?_
   rintro e w5 ⟨rfl,hb5⟩
   have HB5:=zh hb5
   clear hb5 c0 c1 c2 c3 c4 c5 c6
   obtain⟨c0,c1,c2,c3,c4,c5,c6⟩:=seven_of (HGC.out w5 HB5.out).1
   go_wp2_with fail
   refine(HVR.out w5 HB5.out).mono ?_
   rintro e w6 ⟨rfl,hb6⟩
   have HB6:=zh (HB5.out.trans (hb6.mono HB5.out.size))
   clear hb6 c0 c1 c2 c3 c4 c5 c6
   obtain⟨c0,c1,c2,c3,c4,c5,c6⟩:=seven_of (HGC.out w6 HB6.out).1
   obtain⟨d0,d1,d2,d3,d4,d5,d6,d7,d8⟩:=cells9 (HC.out w6 (HGC.out w6 HB6.out).2.2)
   go_wp2_with fail
   refine(HEP.out w6 HB6.out).mono ?_
   rintro e w7 ⟨hb7,hcase⟩
   have HB7:=zh (HB6.out.trans (hb7.mono HB6.out.size))
   have HX7:=zh hb7
   clear hb7 c0 c1 c2 c3 c4 c5 c6 d0 d1 d2 d3 d4 d5 d6 d7 d8
   rcases hcase with ⟨rfl,v,hv,hlt⟩ | ⟨Aa,na,ka,rfl,hsa,-⟩
   ·exact absurd (HGG.out.2.2.2.1 v hv) (by omega)
   ·have HSA:=zh (show ∀w',Below w7.heap.size w7 w'→SlS 1 RowIK w' (Bl w'.heap.size) (.slice Aa na ka) (extL G L) from fun w' hb=>SlS.below rowIK hsa hb)
    clear hsa
    obtain⟨c0,c1,c2,c3,c4,c5,c6⟩:=seven_of (HGC.out w7 HB7.out).1
    obtain⟨d0,d1,d2,d3,d4,d5,d6,d7,d8⟩:=cells9 (HC.out w7 (HGC.out w7 HB7.out).2.2)
    go_wp2_with fail
    refine(HER.out w7 HB7.out).mono ?_
    rintro e w8 ⟨hb8,hcase⟩
    have HB8:=zh (HB7.out.trans (hb8.mono HB7.out.size))
    have HX8:=zh hb8
    clear hb8 c0 c1 c2 c3 c4 c5 c6 d0 d1 d2 d3 d4 d5 d6 d7 d8
    rcases hcase with ⟨rfl,v,hv,hlt⟩ | ⟨Ab,nb,kb,rfl,hsb,-⟩
    ·exact absurd (HGG.out.2.2.2.1 v hv) (by omega)
    ·have HSB:=zh (show ∀w',Below w8.heap.size w8 w'→SlS 1 RowIK w' (Bl w'.heap.size) (.slice Ab nb kb) (extL G L) from fun w' hb=>SlS.below rowIK hsb hb)
     clear hsb
     have HSYM:=zh (show LayOk G G.vols.length (extL G L)∧G.vols.length=F.vols.length∧G.dves.length=F.dves.length from⟨ext_ok HLO.out HGG.out.2.2.2.2.1 HGG.out.2.2.2.2.2 HGG.out.2.2.2.1,HGG.out.2.2.2.2.1.symm,HGG.out.2.2.2.2.2.symm⟩)
     cases back with
     | false =>
      have HXZ:=zh (Below.refl w8.heap.size w8)
      have HBZ:=zh HB8.out
      obtain⟨wz,hwz⟩:=zx w8
      rw[show w8=wz from hwz.symm] at HXZ HBZ HSB HX8 HB8 ⊢
      clear hwz
      obtain⟨c0,c1,c2,c3,c4,c5,c6⟩:=seven_of (HGC.out wz HBZ.out).1
      obtain⟨d0,d1,d2,d3,d4,d5,d6,d7,d8⟩:=cells9 (HC.out wz (HGC.out wz HBZ.out).2.2)
      go_wp2_with fail
      refine(pextend_zero EX E1 E2 E3 E4 E5 E6 Ay m1 t1 m2 t2 m3 t3 m4 t4 m5 t5 m6 t6 ny ky wz).mono ?_
      rintro e w20 ⟨rfl,hb20⟩
      have HZ20:=zh hb20
      clear hb20 c0 c1 c2 c3 c4 c5 c6 d0 d1 d2 d3 d4 d5 d6 d7 d8
      go_wp2_with fail
      refine(awake_any w20).mono ?_
      rintro e w21 ⟨rfl,hb21⟩
      have HZ21:=zh (HZ20.out.trans (hb21.mono HZ20.out.size))
      clear hb21
      go_wp2_with fail
      refine(same35_any _ _ (extL G L) _ _ w21 (HSA.out w21 (HX8.out.trans ((HXZ.out.trans (HZ21.out.mono HXZ.out.size)).mono HX8.out.size))) (HSB.out w21 (HXZ.out.trans (HZ21.out.mono HXZ.out.size)))).mono ?_
      rintro e w' ⟨rfl,n22,rfl⟩
      have HZ22:=zh (Below.drewN' HZ21.out n22)
      obtain⟨w22,hw22⟩:=zx (w21.drewN n22)
      rw[←hw22] at HZ22 ⊢
      clear hw22
      have HBT:=zh (HBZ.out.trans (HZ22.out.mono HBZ.out.size))
      obtain⟨c0,c1,c2,c3,c4,c5,c6⟩:=seven_of (HGC.out w22 HBT.out).1
      have hsh:=rshaped_any 3 (by omega) _ _ _ _ _ _ _ G (extL G L) w22 (HGC.out w22 HBT.out).2.1 HGG.out.2.2.1 (HSA.out w22 (HX8.out.trans ((HXZ.out.trans (HZ22.out.mono HXZ.out.size)).mono HX8.out.size))) (ext_ok HLO.out HGG.out.2.2.2.2.1 HGG.out.2.2.2.2.2 HGG.out.2.2.2.1)
      rw[HGG.out.2.1] at hsh
      have HSH:=zh hsh
      clear hsh
      go_wp2_with fail
      refine HSH.out.mono ?_
      rintro e w23 ⟨rfl,hb23⟩
      have HB23:=zh (HBT.out.trans (hb23.mono HBT.out.size))
      clear hb23 c0 c1 c2 c3 c4 c5 c6
      go_wp2_with fail
      go_ret
      exact⟨rfl,HBW.out w23 (HGC.out w23 HB23.out).2.2⟩
     | true =>
      obtain⟨c0,c1,c2,c3,c4,c5,c6⟩:=seven_of (HGC.out w8 HB8.out).1
      obtain⟨d0,d1,d2,d3,d4,d5,d6,d7,d8⟩:=cells9 (HC.out w8 (HGC.out w8 HB8.out).2.2)
      have hep:=pextend_any 3 (by omega) _ _ _ _ _ _ _ _ _ _ _ _ _ G F (extL G L) w8 (HGC.out w8 HB8.out).2.1 HGG.out.2.2.1 (HFS.out w8 (HGC.out w8 HB8.out).2.2) HOK.out HSYM.out.2.1 HSYM.out.2.2 (HSA.out w8 HX8.out) HSYM.out.1
      rw[HGG.out.2.1,←HEX.out,←HNP.out] at hep
      have HEB:=zh hep
      clear hep
      go_wp2_with fail
      refine HEB.out.mono ?_
      rintro e w9 ⟨hb9,hc1⟩
      have HX9:=zh hb9
      have HB9:=zh (HB8.out.trans (hb9.mono HB8.out.size))
      clear hb9 c0 c1 c2 c3 c4 c5 c6 d0 d1 d2 d3 d4 d5 d6 d7 d8 HEB
      have her:=rextend_any 3 (by omega) _ _ _ _ _ _ _ _ _ _ _ _ _ G F (extL G L) w9 (HGC.out w9 HB9.out).2.1 HGG.out.2.2.1 (HFS.out w9 (HGC.out w9 HB9.out).2.2) HOK.out HSYM.out.2.1 HSYM.out.2.2 (HSB.out w9 HX9.out) HSYM.out.1
      rw[HGG.out.2.1,←HEX.out,←HNP.out] at her
      have HEB:=zh her
      clear her
      obtain⟨c0,c1,c2,c3,c4,c5,c6⟩:=seven_of (HGC.out w9 HB9.out).1
      obtain⟨d0,d1,d2,d3,d4,d5,d6,d7,d8⟩:=cells9 (HC.out w9 (HGC.out w9 HB9.out).2.2)
      rcases hc1 with ⟨rfl,v,hv,hlt⟩ | ⟨Ax,nx,kx,rfl,hsx,hxx⟩
      ·have HNO:=zh (show ∃v,v<G.vols.length∧szN F v<szN G v from⟨v,hv,hlt⟩)
       clear hv hlt
       go_wp2_with fail
       refine HEB.out.mono ?_
       rintro e w10 ⟨hb10,hc2⟩
       have HX10:=zh (HX9.out.trans (hb10.mono HX9.out.size))
       clear hb10 c0 c1 c2 c3 c4 c5 c6 d0 d1 d2 d3 d4 d5 d6 d7 d8 HEB
       rcases hc2 with ⟨rfl,-⟩ | ⟨Ay2,ny2,ky2,rfl,-,hyy⟩
       ·go_wp2_with fail
        refine(same35_any (.slice none 0 0) (.slice none 0 0) [] (fun _=>True) (fun _=>True) w10 (by unfold SlS;exact Row.nil _ _ _) (by unfold SlS;exact Row.nil _ _ _)).mono ?_
        rintro e w' ⟨rfl,n11,rfl⟩
        have HXZ:=zh (Below.drewN' HX10.out n11)
        obtain⟨wz,hwz⟩:=zx (w10.drewN n11)
        rw[←hwz] at HXZ ⊢
        clear hwz
        have HBZ:=zh (HB8.out.trans (HXZ.out.mono HB8.out.size))
        obtain⟨c0,c1,c2,c3,c4,c5,c6⟩:=seven_of (HGC.out wz HBZ.out).1
        obtain⟨d0,d1,d2,d3,d4,d5,d6,d7,d8⟩:=cells9 (HC.out wz (HGC.out wz HBZ.out).2.2)
        go_wp2_with fail
        refine(pextend_zero EX E1 E2 E3 E4 E5 E6 Ay m1 t1 m2 t2 m3 t3 m4 t4 m5 t5 m6 t6 ny ky wz).mono ?_
        rintro e w20 ⟨rfl,hb20⟩
        have HZ20:=zh hb20
        clear hb20 c0 c1 c2 c3 c4 c5 c6 d0 d1 d2 d3 d4 d5 d6 d7 d8
        go_wp2_with fail
        refine(awake_any w20).mono ?_
        rintro e w21 ⟨rfl,hb21⟩
        have HZ21:=zh (HZ20.out.trans (hb21.mono HZ20.out.size))
        clear hb21
        go_wp2_with fail
        refine(same35_any _ _ (extL G L) _ _ w21 (HSA.out w21 (HX8.out.trans ((HXZ.out.trans (HZ21.out.mono HXZ.out.size)).mono HX8.out.size))) (HSB.out w21 (HXZ.out.trans (HZ21.out.mono HXZ.out.size)))).mono ?_
        rintro e w' ⟨rfl,n22,rfl⟩
        have HZ22:=zh (Below.drewN' HZ21.out n22)
        obtain⟨w22,hw22⟩:=zx (w21.drewN n22)
        rw[←hw22] at HZ22 ⊢
        clear hw22
        have HBT:=zh (HBZ.out.trans (HZ22.out.mono HBZ.out.size))
        obtain⟨c0,c1,c2,c3,c4,c5,c6⟩:=seven_of (HGC.out w22 HBT.out).1
        have hsh:=rshaped_any 3 (by omega) _ _ _ _ _ _ _ G (extL G L) w22 (HGC.out w22 HBT.out).2.1 HGG.out.2.2.1 (HSA.out w22 (HX8.out.trans ((HXZ.out.trans (HZ22.out.mono HXZ.out.size)).mono HX8.out.size))) (ext_ok HLO.out HGG.out.2.2.2.2.1 HGG.out.2.2.2.2.2 HGG.out.2.2.2.1)
        rw[HGG.out.2.1] at hsh
        have HSH:=zh hsh
        clear hsh
        go_wp2_with fail
        refine HSH.out.mono ?_
        rintro e w23 ⟨rfl,hb23⟩
        have HB23:=zh (HBT.out.trans (hb23.mono HBT.out.size))
        clear hb23 c0 c1 c2 c3 c4 c5 c6
        go_wp2_with fail
        go_ret
        exact⟨rfl,HBW.out w23 (HGC.out w23 HB23.out).2.2⟩
       ·obtain⟨v,hv,hlt⟩:=HNO.out
        exact absurd (hyy v hv) (by omega)
      ·have HSX:=zh hsx
       have HXX:=zh hxx
       clear hsx hxx
       go_wp2_with fail
       refine HEB.out.mono ?_
       rintro e w10 ⟨hb10,hc2⟩
       have HX10:=zh (HX9.out.trans (hb10.mono HX9.out.size))
       have HX910:=zh hb10
       clear hb10 c0 c1 c2 c3 c4 c5 c6 d0 d1 d2 d3 d4 d5 d6 d7 d8 HEB
       rcases hc2 with ⟨rfl,v,hv,hlt⟩ | ⟨Ay2,ny2,ky2,rfl,hsy,-⟩
       ·exact absurd (HXX.out v hv) (by omega)
       ·have HSY:=zh hsy
        clear hsy
        go_wp2_with fail
        refine(same35_any _ _ (extL F (extL G L)) _ _ w10 (SlS.below rowIK HSX.out HX910.out) HSY.out).mono ?_
        rintro e w' ⟨rfl,n11,rfl⟩
        have HXZ:=zh (Below.drewN' HX10.out n11)
        obtain⟨wz,hwz⟩:=zx (w10.drewN n11)
        rw[←hwz] at HXZ ⊢
        clear hwz
        have HBZ:=zh (HB8.out.trans (HXZ.out.mono HB8.out.size))
        obtain⟨c0,c1,c2,c3,c4,c5,c6⟩:=seven_of (HGC.out wz HBZ.out).1
        obtain⟨d0,d1,d2,d3,d4,d5,d6,d7,d8⟩:=cells9 (HC.out wz (HGC.out wz HBZ.out).2.2)
        go_wp2_with fail
        refine(pextend_zero EX E1 E2 E3 E4 E5 E6 Ay m1 t1 m2 t2 m3 t3 m4 t4 m5 t5 m6 t6 ny ky wz).mono ?_
        rintro e w20 ⟨rfl,hb20⟩
        have HZ20:=zh hb20
        clear hb20 c0 c1 c2 c3 c4 c5 c6 d0 d1 d2 d3 d4 d5 d6 d7 d8
        go_wp2_with fail
        refine(awake_any w20).mono ?_
        rintro e w21 ⟨rfl,hb21⟩
        have HZ21:=zh (HZ20.out.trans (hb21.mono HZ20.out.size))
        clear hb21
        go_wp2_with fail
        refine(same35_any _ _ (extL G L) _ _ w21 (HSA.out w21 (HX8.out.trans ((HXZ.out.trans (HZ21.out.mono HXZ.out.size)).mono HX8.out.size))) (HSB.out w21 (HXZ.out.trans (HZ21.out.mono HXZ.out.size)))).mono ?_
        rintro e w' ⟨rfl,n22,rfl⟩
        have HZ22:=zh (Below.drewN' HZ21.out n22)
        obtain⟨w22,hw22⟩:=zx (w21.drewN n22)
        rw[←hw22] at HZ22 ⊢
        clear hw22
        have HBT:=zh (HBZ.out.trans (HZ22.out.mono HBZ.out.size))
        obtain⟨c0,c1,c2,c3,c4,c5,c6⟩:=seven_of (HGC.out w22 HBT.out).1
        have hsh:=rshaped_any 3 (by omega) _ _ _ _ _ _ _ G (extL G L) w22 (HGC.out w22 HBT.out).2.1 HGG.out.2.2.1 (HSA.out w22 (HX8.out.trans ((HXZ.out.trans (HZ22.out.mono HXZ.out.size)).mono HX8.out.size))) (ext_ok HLO.out HGG.out.2.2.2.2.1 HGG.out.2.2.2.2.2 HGG.out.2.2.2.1)
        rw[HGG.out.2.1] at hsh
        have HSH:=zh hsh
        clear hsh
        go_wp2_with fail
        refine HSH.out.mono ?_
        rintro e w23 ⟨rfl,hb23⟩
        have HB23:=zh (HBT.out.trans (hb23.mono HBT.out.size))
        clear hb23 c0 c1 c2 c3 c4 c5 c6
        go_wp2_with fail
        go_ret
        exact⟨rfl,HBW.out w23 (HGC.out w23 HB23.out).2.2⟩
end Go.Proofs.YtgfaieppacabjaaGreat
