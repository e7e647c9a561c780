/- The law ControlValid, walked. -/
import Derived.BigQuiet
import Derived.Deep.QuietTactic
import Derived.Deep.MidRow
import Derived.Test.YtmacgpnlcdapfaaGreatMv04
import Derived.Test.YtmacgpnlcdapfaaGreatMv12
import Derived.Test.YtmacgpnlcdapfaaGreatMv01
set_option linter.unusedSectionVars false
set_option maxRecDepth 100000
set_option maxHeartbeats 12800000
namespace Go.Proofs.YtmacgpnlcdapfaaGreat
open Go.RowKit
set_option linter.unusedVariables false
set_option linter.unusedSimpArgs false
theorem cells14{W:World} {g:Nat} {a b c d e f h i j k l m n o:Value} {t:TypeId} (q:W.heap[g]?=some (.cells #[a,b,c,d,e,f,h,i,j,k,l,m,n,o] t (0,0))):W.cell? ⟨g,0,none⟩=some a∧W.cell? ⟨g,1,none⟩=some b∧W.cell? ⟨g,2,none⟩=some c∧W.cell? ⟨g,3,none⟩=some d∧W.cell? ⟨g,4,none⟩=some e∧W.cell? ⟨g,5,none⟩=some f∧W.cell? ⟨g,6,none⟩=some h∧W.cell? ⟨g,7,none⟩=some i∧W.cell? ⟨g,8,none⟩=some j∧W.cell? ⟨g,9,none⟩=some k∧W.cell? ⟨g,10,none⟩=some l∧W.cell? ⟨g,11,none⟩=some m∧W.cell? ⟨g,12,none⟩=some n∧W.cell? ⟨g,13,none⟩=some o:=by
 refine⟨?_,?_,?_,?_,?_,?_,?_,?_,?_,?_,?_,?_,?_,?_⟩ <;> (rw[cell_of_row _ _ _ _ _ _ q];rfl)
theorem control_any(vt:Value) (xs:List Int) (x1 x2 x3 x4 x5 x6 xd:Int) (w:World) (hd:I64 xd) (hx:IntS w (Bl w.heap.size) vt xs) :
  Calls Tryz.prog 3 #[vt,.int .i64 x1,.int .i64 x2,.int .i64 x3,.int .i64 x4,.int .i64 x5,.int .i64 x6,.int .i64 xd] w fun e w'=>e=.returned (.bool true)∧Below w.heap.size w w':=by
 obtain⟨At,nt,ct,rfl⟩:∃A n c,vt=.slice A n c:=by obtain⟨A,c,e,-⟩:=hx.1;exact⟨A,_,c,e⟩
 obtain⟨W1,hW1⟩:=zx (w.alloc (.cells #[.slice At nt ct,.int .i64 0] 25))
 obtain⟨gT,hgT⟩:=zx w.heap.size
 have hb1:Below w.heap.size w W1:=by rw[hW1];exact(Below.refl _ _).alloc (Nat.le_refl _) _
 have hT1:TapeB W1 gT (.slice At nt ct) 0:=by rw[hW1,hgT];exact heap_alloc_new _ _
 have hz1:W1.heap.size=gT+1:=by rw[hW1,hgT];simp
 have hx1:IntS W1 (Bl w.heap.size) (.slice At nt ct) xs:=hx.keep (fun b hb=>hb1.block b hb)
 have hRT:∀b,Bl w.heap.size b→b<W1.heap.size∧b≠gT:=fun b hb=>by unfold Bl at hb;omega
 have HFL:=zh (fleet_any gT (.slice At nt ct) xs 0 2 W1 _ hT1 hx1 hRT (by omega) (by omega) (by omega))
 have HX1:=zh hx1
 have HRT:=zh hRT
 have HB1:=zh hb1
 have HZ1:=zh (And.intro hz1 hgT)
 have HW1:=zh hW1
 have HD:=zh hd
 clear hb1 hT1 hz1 hx1 hRT hW1 hgT hx hd
 go_enter Tryz.func3,Tryz.ntmps3
 go_wp2_with fail
 rw[←HW1.out,←HZ1.out.2]
 refine HFL.out.mono ?_
 rintro e w2 ⟨vl,vm,vd,vv,vp,vo,F,I0,rfl,hfs,hT2,hI0,hg,hok⟩
 obtain⟨EX,hEX⟩:=zx F.ext
 obtain⟨Al,nl,cl,rfl⟩:=hfs.1.form3
 obtain⟨Am,nm,cm,rfl⟩:=hfs.2.1.form3
 obtain⟨Ad,nd,cd,rfl⟩:=hfs.2.2.1.form3
 obtain⟨Av,nv,cv,rfl⟩:=hfs.2.2.2.1.form3
 obtain⟨Ap,np,cp,rfl⟩:=hfs.2.2.2.2.1.form3
 obtain⟨Ao,no,co,rfl⟩:=hfs.2.2.2.2.2.form3
 have hh2:HotBy [some gT] W1 w2:=HotBy.grown hg (.inl (by simp))
 have hf2:FleetS w2 (fun b=>b<w2.heap.size∧b≠gT) (.slice Al nl cl) (.slice Am nm cm) (.slice Ad nd cd) (.slice Av nv cv) (.slice Ap np cp) (.slice Ao no co) F:=hfs.mono (fun b hb=>⟨hb.2,by have:=hb.1;have:=HZ1.out.1;omega⟩)
 have HH2:=zh hh2
 have HF2:=zh hf2
 have HNV:=zh (show nv=F.dves.length from by obtain⟨A,c,e,-⟩:=hfs.2.2.2.1.form;injection e)
 have HT2:=zh hT2
 have HOK:=zh hok
 have HI0:=zh hI0
 have HEX:=zh hEX
 rw[←hEX]
 clear hfs hT2 hI0 hg hok hh2 hf2 hEX
 go_upto_region 3 with fail
 obtain⟨W3,hW3⟩:=zx (w2.alloc (.cells #[.int .i64 EX,.slice Al nl cl,.slice Am nm cm,.slice Ad nd cd,.slice Av nv cv,.slice Ap np cp,.slice Ao no co] 33))
 obtain⟨gF,hgF⟩:=zx w2.heap.size
 rw[←hW3,←hgF]
 have hh3:HotBy [some gT] W1 W3:=HH2.out.trans (by rw[hW3];exact HotBy.alloc _ _ _)
 have hb3:Below w2.heap.size w2 W3:=by rw[hW3];exact(Below.refl _ _).alloc (Nat.le_refl _) _
 have hk3:W3.heap[gF]?=some (.cells #[.int .i64 EX,.slice Al nl cl,.slice Am nm cm,.slice Ad nd cd,.slice Av nv cv,.slice Ap np cp,.slice Ao no co] 33 (0,0)):=by rw[hW3,hgF];exact heap_alloc_new _ _
 have hT3:TapeB W3 gT (.slice At nt ct) I0:=(hb3.block gT HT2.out.lt).trans HT2.out
 have hx3:IntS W3 (Bl w.heap.size) (.slice At nt ct) xs:=HX1.out.keep (fun b hb=>hh3.block b (HRT.out b hb).1 (fun e=>by simp at e;exact(HRT.out b hb).2 e))
 have hR3:∀b,Bl w.heap.size b→b<W3.heap.size∧b≠gT:=fun b hb=>⟨Nat.lt_of_lt_of_le (HRT.out b hb).1 hh3.size,(HRT.out b hb).2⟩
 have hf3:=HF2.out.keep (fun b hb=>hb3.block b hb.1)
 have hR4:∀b,(b<w2.heap.size∧b≠gT)→b<W3.heap.size∧b≠gT:=fun b hb=>⟨Nat.lt_of_lt_of_le hb.1 hb3.size,hb.2⟩
 have HST:=zh (HEX.out▸site_any 2 (by omega) gT (.slice At nt ct) xs I0 _ _ _ _ _ _ F W3 _ _ hT3 hx3 hR3 (by have:=HI0.out;omega) hf3 hR4 HOK.out:Calls Tryz.prog 5 #[.pointer (some ⟨gT,0,none⟩),.agg #[.int .i64 EX,.slice Al nl cl,.slice Am nm cm,.slice Ad nd cd,.slice Av nv cv,.slice Ap np cp,.slice Ao no co]] W3 _)
 have HH3:=zh hh3
 have HB3:=zh hb3
 have HC3:=zh (cells7 hk3)
 have HK3:=zh hk3
 have HG3:=zh (show gF<W3.heap.size∧gF≠gT from⟨(Array.getElem?_eq_some_iff.1 hk3).1,by have:=HT2.out.lt;omega⟩)
 clear hW3 hgF hh3 hb3 hk3 hT3 hx3 hR3 hf3 hR4
 obtain⟨c0,c1,c2,c3,c4,c5,c6⟩:=HC3.out
 go_wp2_with fail
 refine HST.out.mono ?_
 rintro e w4 ⟨gS,gL,vS,I1,rfl,hgS,hsk,⟨WS,hWS,hgs,hown⟩,hT4,hI1,hg4⟩
 have hh4:HotBy [some gT] W3 w4:=HotBy.grown hg4 (.inl (by simp))
 obtain⟨gR,rc,cs,rfl,hrc,hdr⟩:=drv_row hown (by unfold clms;rw[List.length_map];exact HOK.out.dve1)
 rw[show(clms F).length=F.dves.length from by unfold clms;rw[List.length_map]] at hrc hsk
 have hown2:=hown
 have hlt4:=OwnK.lt hown2
 obtain⟨ND,hND⟩:=zx F.dves.length
 rw[←hND] at hrc hsk
 have HDR:=zh (And.intro hdr hrc)
 have HRC:=zh hrc
 have HRT4:=zh (show gR≠gT from by have:=(hlt4 gR rfl).1;have:=HH3.out.size;have:=HZ1.out.1;omega)
 have HSK:=zh hsk
 have HGS:=zh (show W3.heap.size≤gS∧gS<w4.heap.size∧gS≠gT from⟨hgS,(Array.getElem?_eq_some_iff.1 hsk).1,by have:=HH3.out.size;have:=HZ1.out.1;omega⟩)
 have HT4:=zh hT4
 have HH4:=zh (HH3.out.trans hh4)
 have HN:=zh hND
 have HI1:=zh (show I1≤2000 by have:=HI0.out;omega)
 have HC4:=zh (cells7 ((hh4.block gF HG3.out.1 (fun e=>by simp at e;exact HG3.out.2 e)).trans HK3.out))
 have HF4:=zh (HF2.out.keep (w':=w4) (fun b hb=>(hh4.block b (Nat.lt_of_lt_of_le hb.1 HB3.out.size) (fun e=>by simp at e;exact hb.2 e)).trans (HB3.out.block b hb.1)))
 have HHF:=zh hh4
 clear hgS hsk hWS hgs hown hT4 hI1 hg4 hh4 hdr hrc hown2 hlt4 hND c0 c1 c2 c3 c4 c5 c6 HST HC3 HFL
 obtain⟨c0,c1,c2,c3,c4,c5,c6⟩:=HC4.out
 have HCF:=zh (config_any gT (.slice At nt ct) xs I1 EX (.slice Al nl cl) (.slice Am nm cm) (.slice Ad nd cd) (.slice Av nv cv) (.slice Ap np cp) (.slice Ao no co) w4 (Bl w.heap.size) HT4.out (HX1.out.keep (fun b hb=>HH4.out.block b (HRT.out b hb).1 (fun e=>by simp at e;exact(HRT.out b hb).2 e))) (fun b hb=>⟨Nat.lt_of_lt_of_le (HRT.out b hb).1 HH4.out.size,(HRT.out b hb).2⟩) (by have:=HI1.out;omega) ⟨_,_,_,rfl⟩ ⟨_,_,_,rfl⟩ ⟨_,_,_,rfl⟩ ⟨_,_,_,rfl⟩ ⟨_,_,_,rfl⟩ ⟨_,_,_,rfl⟩)
 go_wp2_with fail
 refine HCF.out.mono ?_
 rintro e w5 ⟨a1,a2,a3,a4,a5,a6,rfl,ha1,ha2,ha3,ha4,ha5,ha6,hT5,hg5⟩
 clear c0 c1 c2 c3 c4 c5 c6 HCF HC4
 have hh5:HotBy [some gT] w4 w5:=HotBy.grown hg5 (.inl (by simp))
 have HA:=zh (show sixB a1 a2 a3 a4 a5 a6=true from by unfold sixB;simp only[Bool.and_eq_true,decide_eq_true_eq];omega)
 have HH5:=zh hh5
 clear ha1 ha2 ha3 ha4 ha5 ha6 hT5 hg5 hh5
 go_upto_region 7 with fail
 obtain⟨W6,hW6⟩:=zx (w5.alloc (.cells #[.int .i64 EX,.slice Al nl cl,.slice Am nm cm,.slice Ad nd cd,.slice Av nv cv,.slice Ap np cp,.slice Ao no co,.slice none 0 0,.int .i64 a1,.int .i64 a2,.int .i64 a3,.int .i64 a4,.int .i64 a5,.int .i64 a6] 41))
 obtain⟨gG,hgG⟩:=zx w5.heap.size
 rw[←hW6,←hgG]
 have hh6:HotBy [some gT] w4 W6:=HH5.out.trans (by rw[hW6];exact HotBy.alloc _ _ _)
 have hk6:W6.heap[gG]?=some (.cells #[.int .i64 EX,.slice Al nl cl,.slice Am nm cm,.slice Ad nd cd,.slice Av nv cv,.slice Ap np cp,.slice Ao no co,.slice none 0 0,.int .i64 a1,.int .i64 a2,.int .i64 a3,.int .i64 a4,.int .i64 a5,.int .i64 a6] 41 (0,0)):=by rw[hW6,hgG];exact heap_alloc_new _ _
 have HF6:=zh (show FleetS W6 (Bl W6.heap.size) (.slice Al nl cl) (.slice Am nm cm) (.slice Ad nd cd) (.slice Av nv cv) (.slice Ap np cp) (.slice Ao no co) F from(HF4.out.keep (fun b hb=>hh6.block b (Nat.lt_of_lt_of_le hb.1 (Nat.le_trans HB3.out.size HHF.out.size)) (fun e=>by simp at e;exact hb.2 e))).mono (fun b hb=>Nat.lt_of_lt_of_le hb.1 (Nat.le_trans (Nat.le_trans HB3.out.size HHF.out.size) hh6.size)))
 have HD6:=zh (HDR.out.1.hot hh6 ⟨_,_,_,HT4.out⟩ HRT4.out)
 have hs6:=(hh6.block gS HGS.out.2.1 (fun e=>by simp at e;exact HGS.out.2.2 e)).trans HSK.out
 have HK6:=zh (show ∀w',Below W6.heap.size W6 w'→w'.heap[gG]?=some (.cells #[.int .i64 EX,.slice Al nl cl,.slice Am nm cm,.slice Ad nd cd,.slice Av nv cv,.slice Ap np cp,.slice Ao no co,.slice none 0 0,.int .i64 a1,.int .i64 a2,.int .i64 a3,.int .i64 a4,.int .i64 a5,.int .i64 a6] 41 (0,0)) from fun w' hb=>(hb.block gG (Array.getElem?_eq_some_iff.1 hk6).1).trans hk6)
 have HS6:=zh (show ∀w',Below W6.heap.size W6 w'→w'.cell? ⟨gS,0,none⟩=some (.slice (some ⟨gR,0,none⟩) ND rc)∧w'.cell? ⟨gS,1,none⟩=some (.pointer (some ⟨gL,0,none⟩)) from fun w' hb=>by
  have k:=(hb.block gS (Array.getElem?_eq_some_iff.1 hs6).1).trans hs6
  constructor <;> (rw[cell_of_row _ _ _ _ _ _ k];rfl))
 have HL6:=zh (show gS<W6.heap.size∧gG<W6.heap.size from⟨(Array.getElem?_eq_some_iff.1 hs6).1,(Array.getElem?_eq_some_iff.1 hk6).1⟩)
 have HHA:=zh (HH4.out.trans hh6)
 have HEND:=zh (show Below w.heap.size w W6 from by
  have h1:=HHA.out
  have hz:=HZ1.out
  exact HB1.out.trans ⟨h1.os,h1.tape,h1.output,h1.size,fun b hb=>h1.block b (by omega) (fun e=>by simp at e;omega)⟩)
 clear hW6 hgG hh6 hk6 hs6 HSK HT4 HF4 HDR HH5
 have HVF:=zh (show ∀w',Below W6.heap.size W6 w'→∀p1 p2 p3 p4 p5 p6:Int,Calls Tryz.prog 7 #[.agg #[.int .i64 EX,.slice Al nl cl,.slice Am nm cm,.slice Ad nd cd,.slice Av nv cv,.slice Ap np cp,.slice Ao no co,.slice none 0 0,.int .i64 p1,.int .i64 p2,.int .i64 p3,.int .i64 p4,.int .i64 p5,.int .i64 p6],.pointer (some ⟨gS,0,none⟩)] w' fun e w''=>e=.returned (.bool (sixB p1 p2 p3 p4 p5 p6))∧Below w'.heap.size w' w'' from fun w' hb p1 p2 p3 p4 p5 p6=>by
  have hs:=HS6.out w' hb
  have hrc:=HN.out
  rw[HN.out] at hs
  rw[HEX.out]
  exact valid_full 2 (by omega) p1 p2 p3 p4 p5 p6 _ _ _ _ _ _ F gS gR rc ⟨gL,0,none⟩ cs w' (HF6.out.below hb) HOK.out (HD6.out.below hb) (by rw[←hrc];exact HRC.out) hs.1 hs.2 (Nat.lt_of_lt_of_le HL6.out.1 hb.size))
 have HR6:=zh (Below.refl W6.heap.size W6)
 obtain⟨d0,d1,d2,d3,d4,d5,d6,d7,d8,d9,d10,d11,d12,d13⟩:=cells14 (HK6.out W6 HR6.out)
 go_wp2_with fail
 refine(HVF.out W6 HR6.out a1 a2 a3 a4 a5 a6).mono ?_
 rintro e w7 ⟨rfl,hb7⟩
 rw[HA.out]
 have HB7:=zh hb7
 clear hb7 d0 d1 d2 d3 d4 d5 d6 d7 d8 d9 d10 d11 d12 d13
 obtain⟨d0,d1,d2,d3,d4,d5,d6,d7,d8,d9,d10,d11,d12,d13⟩:=cells14 (HK6.out w7 HB7.out)
 go_upto_region 10 with fail
 clear d0 d1 d2 d3 d4 d5 d6 d7 d8 d9 d10 d11 d12 d13
 obtain⟨W8,hW8⟩:=zx (w7.alloc (.cells #[.int .i64 EX,.slice Al nl cl,.slice Am nm cm,.slice Ad nd cd,.slice Av nv cv,.slice Ap np cp,.slice Ao no co,.slice none 0 0,.int .i64 x1,.int .i64 x2,.int .i64 x3,.int .i64 x4,.int .i64 x5,.int .i64 x6] 41))
 obtain⟨gX,hgX⟩:=zx w7.heap.size
 rw[←hW8,←hgX]
 have hb8:Below w7.heap.size w7 W8:=by rw[hW8];exact(Below.refl _ _).alloc (Nat.le_refl _) _
 have hk8:W8.heap[gX]?=some (.cells #[.int .i64 EX,.slice Al nl cl,.slice Am nm cm,.slice Ad nd cd,.slice Av nv cv,.slice Ap np cp,.slice Ao no co,.slice none 0 0,.int .i64 x1,.int .i64 x2,.int .i64 x3,.int .i64 x4,.int .i64 x5,.int .i64 x6] 41 (0,0)):=by rw[hW8,hgX];exact heap_alloc_new _ _
 have HB8:=zh (HB7.out.trans (hb8.mono HB7.out.size))
 have HK8:=zh (show ∀w',Below W8.heap.size W8 w'→w'.heap[gX]?=some (.cells #[.int .i64 EX,.slice Al nl cl,.slice Am nm cm,.slice Ad nd cd,.slice Av nv cv,.slice Ap np cp,.slice Ao no co,.slice none 0 0,.int .i64 x1,.int .i64 x2,.int .i64 x3,.int .i64 x4,.int .i64 x5,.int .i64 x6] 41 (0,0)) from fun w' hb=>(hb.block gX (Array.getElem?_eq_some_iff.1 hk8).1).trans hk8)
 have HT8:=zh (show ∀w',Below W8.heap.size W8 w'→Below W6.heap.size W6 w' from fun w' hb=>HB8.out.trans (hb.mono HB8.out.size))
 clear hW8 hgX hb8 hk8
 refine wp_region_lit ?_
 refine wpList_plain rfl (fun K hK=>?_)
 go_simp
 refine hK _ _ ?_
 clear hK
 (try simp only[Act.put,z1,z2,z3])
 refine wpList_plain rfl (fun K hK=>?_)
 go_simp
 refine hK _ _ ?_
 clear hK
 (try simp only[Act.put,z1,z2,z3])
 refine wpList_plain rfl (fun K hK=>?_)
 go_simp
 refine hK _ _ ?_
 clear hK
 (try simp only[Act.put,z1,z2,z3])
 refine wpList_gd (decide (0≤x1)) (.int .i64 x1) 2 62 rfl rfl (by rfl) (fun hc K hKK=>by clear hc;(try simp only[Act.put,z1,z2,z3] at hKK);go_simp;exact hKK) (fun u0 hu0=>?_)
 (try simp only[Act.put,z1,z2,z3])
 refine wpList_gd (decide (0≤x1)) (.bool (decide (x1≤20))) 2 62 rfl rfl (by rfl) (fun hc K hKK=>by have:=hu0 hc;subst this;clear hc;(try simp only[Act.put,z1,z2,z3] at hKK);go_simp;exact hKK) (fun v0 hv0=>?_)
 (try simp only[Act.put,z1,z2,z3])
 refine wpList_pk (decide (0≤x1)) (decide (x1≤20)) v0 (.tmp 62) (.tmp 64) rfl rfl (by rfl) (by rfl) hv0 ?_
 (try simp only[Act.put,z1,z2,z3])
 refine wpList_plain rfl (fun K hK=>?_)
 go_simp
 refine hK _ _ ?_
 clear hK
 (try simp only[Act.put,z1,z2,z3])
 refine wpList_gd (decide (0≤x1)&&decide (x1≤20)) (.int .i64 x2) 6 66 rfl rfl (by rfl) (fun hc K hKK=>by clear hc;(try simp only[Act.put,z1,z2,z3] at hKK);go_simp;exact hKK) (fun u1 hu1=>?_)
 (try simp only[Act.put,z1,z2,z3])
 refine wpList_gd (decide (0≤x1)&&decide (x1≤20)) (.bool (decide (1≤x2))) 6 66 rfl rfl (by rfl) (fun hc K hKK=>by have:=hu1 hc;subst this;clear hc;(try simp only[Act.put,z1,z2,z3] at hKK);go_simp;exact hKK) (fun v1 hv1=>?_)
 (try simp only[Act.put,z1,z2,z3])
 refine wpList_pk (decide (0≤x1)&&decide (x1≤20)) (decide (1≤x2)) v1 (.tmp 66) (.tmp 68) rfl rfl (by rfl) (by rfl) hv1 ?_
 (try simp only[Act.put,z1,z2,z3])
 refine wpList_plain rfl (fun K hK=>?_)
 go_simp
 refine hK _ _ ?_
 clear hK
 (try simp only[Act.put,z1,z2,z3])
 refine wpList_gd (decide (0≤x1)&&decide (x1≤20)&&decide (1≤x2)) (.int .i64 x2) 10 70 rfl rfl (by rfl) (fun hc K hKK=>by clear hc;(try simp only[Act.put,z1,z2,z3] at hKK);go_simp;exact hKK) (fun u2 hu2=>?_)
 (try simp only[Act.put,z1,z2,z3])
 refine wpList_gd (decide (0≤x1)&&decide (x1≤20)&&decide (1≤x2)) (.bool (decide (x2≤20))) 10 70 rfl rfl (by rfl) (fun hc K hKK=>by have:=hu2 hc;subst this;clear hc;(try simp only[Act.put,z1,z2,z3] at hKK);go_simp;exact hKK) (fun v2 hv2=>?_)
 (try simp only[Act.put,z1,z2,z3])
 refine wpList_pk (decide (0≤x1)&&decide (x1≤20)&&decide (1≤x2)) (decide (x2≤20)) v2 (.tmp 70) (.tmp 72) rfl rfl (by rfl) (by rfl) hv2 ?_
 (try simp only[Act.put,z1,z2,z3])
 refine wpList_plain rfl (fun K hK=>?_)
 go_simp
 refine hK _ _ ?_
 clear hK
 (try simp only[Act.put,z1,z2,z3])
 refine wpList_gd (decide (0≤x1)&&decide (x1≤20)&&decide (1≤x2)&&decide (x2≤20)) (.int .i64 x3) 14 74 rfl rfl (by rfl) (fun hc K hKK=>by clear hc;(try simp only[Act.put,z1,z2,z3] at hKK);go_simp;exact hKK) (fun u3 hu3=>?_)
 (try simp only[Act.put,z1,z2,z3])
 refine wpList_gd (decide (0≤x1)&&decide (x1≤20)&&decide (1≤x2)&&decide (x2≤20)) (.bool (decide (1≤x3))) 14 74 rfl rfl (by rfl) (fun hc K hKK=>by have:=hu3 hc;subst this;clear hc;(try simp only[Act.put,z1,z2,z3] at hKK);go_simp;exact hKK) (fun v3 hv3=>?_)
 (try simp only[Act.put,z1,z2,z3])
 refine wpList_pk (decide (0≤x1)&&decide (x1≤20)&&decide (1≤x2)&&decide (x2≤20)) (decide (1≤x3)) v3 (.tmp 74) (.tmp 76) rfl rfl (by rfl) (by rfl) hv3 ?_
 (try simp only[Act.put,z1,z2,z3])
 refine wpList_plain rfl (fun K hK=>?_)
 go_simp
 refine hK _ _ ?_
 clear hK
 (try simp only[Act.put,z1,z2,z3])
 refine wpList_gd (decide (0≤x1)&&decide (x1≤20)&&decide (1≤x2)&&decide (x2≤20)&&decide (1≤x3)) (.int .i64 x3) 18 78 rfl rfl (by rfl) (fun hc K hKK=>by clear hc;(try simp only[Act.put,z1,z2,z3] at hKK);go_simp;exact hKK) (fun u4 hu4=>?_)
 (try simp only[Act.put,z1,z2,z3])
 refine wpList_gd (decide (0≤x1)&&decide (x1≤20)&&decide (1≤x2)&&decide (x2≤20)&&decide (1≤x3)) (.bool (decide (x3≤48))) 18 78 rfl rfl (by rfl) (fun hc K hKK=>by have:=hu4 hc;subst this;clear hc;(try simp only[Act.put,z1,z2,z3] at hKK);go_simp;exact hKK) (fun v4 hv4=>?_)
 (try simp only[Act.put,z1,z2,z3])
 refine wpList_pk (decide (0≤x1)&&decide (x1≤20)&&decide (1≤x2)&&decide (x2≤20)&&decide (1≤x3)) (decide (x3≤48)) v4 (.tmp 78) (.tmp 80) rfl rfl (by rfl) (by rfl) hv4 ?_
 (try simp only[Act.put,z1,z2,z3])
 refine wpList_plain rfl (fun K hK=>?_)
 go_simp
 refine hK _ _ ?_
 clear hK
 (try simp only[Act.put,z1,z2,z3])
 refine wpList_gd (decide (0≤x1)&&decide (x1≤20)&&decide (1≤x2)&&decide (x2≤20)&&decide (1≤x3)&&decide (x3≤48)) (.int .i64 x4) 22 82 rfl rfl (by rfl) (fun hc K hKK=>by clear hc;(try simp only[Act.put,z1,z2,z3] at hKK);go_simp;exact hKK) (fun u5 hu5=>?_)
 (try simp only[Act.put,z1,z2,z3])
 refine wpList_gd (decide (0≤x1)&&decide (x1≤20)&&decide (1≤x2)&&decide (x2≤20)&&decide (1≤x3)&&decide (x3≤48)) (.bool (decide (0≤x4))) 22 82 rfl rfl (by rfl) (fun hc K hKK=>by have:=hu5 hc;subst this;clear hc;(try simp only[Act.put,z1,z2,z3] at hKK);go_simp;exact hKK) (fun v5 hv5=>?_)
 (try simp only[Act.put,z1,z2,z3])
 refine wpList_pk (decide (0≤x1)&&decide (x1≤20)&&decide (1≤x2)&&decide (x2≤20)&&decide (1≤x3)&&decide (x3≤48)) (decide (0≤x4)) v5 (.tmp 82) (.tmp 84) rfl rfl (by rfl) (by rfl) hv5 ?_
 (try simp only[Act.put,z1,z2,z3])
 refine wpList_plain rfl (fun K hK=>?_)
 go_simp
 refine hK _ _ ?_
 clear hK
 (try simp only[Act.put,z1,z2,z3])
 refine wpList_gd (decide (0≤x1)&&decide (x1≤20)&&decide (1≤x2)&&decide (x2≤20)&&decide (1≤x3)&&decide (x3≤48)&&decide (0≤x4)) (.int .i64 x4) 26 86 rfl rfl (by rfl) (fun hc K hKK=>by clear hc;(try simp only[Act.put,z1,z2,z3] at hKK);go_simp;exact hKK) (fun u6 hu6=>?_)
 (try simp only[Act.put,z1,z2,z3])
 refine wpList_gd (decide (0≤x1)&&decide (x1≤20)&&decide (1≤x2)&&decide (x2≤20)&&decide (1≤x3)&&decide (x3≤48)&&decide (0≤x4)) (.bool (decide (x4≤4))) 26 86 rfl rfl (by rfl) (fun hc K hKK=>by have:=hu6 hc;subst this;clear hc;(try simp only[Act.put,z1,z2,z3] at hKK);go_simp;exact hKK) (fun v6 hv6=>?_)
 (try simp only[Act.put,z1,z2,z3])
 refine wpList_pk (decide (0≤x1)&&decide (x1≤20)&&decide (1≤x2)&&decide (x2≤20)&&decide (1≤x3)&&decide (x3≤48)&&decide (0≤x4)) (decide (x4≤4)) v6 (.tmp 86) (.tmp 88) rfl rfl (by rfl) (by rfl) hv6 ?_
 (try simp only[Act.put,z1,z2,z3])
 refine wpList_plain rfl (fun K hK=>?_)
 go_simp
 refine hK _ _ ?_
 clear hK
 (try simp only[Act.put,z1,z2,z3])
 refine wpList_gd (decide (0≤x1)&&decide (x1≤20)&&decide (1≤x2)&&decide (x2≤20)&&decide (1≤x3)&&decide (x3≤48)&&decide (0≤x4)&&decide (x4≤4)) (.int .i64 x5) 30 90 rfl rfl (by rfl) (fun hc K hKK=>by clear hc;(try simp only[Act.put,z1,z2,z3] at hKK);go_simp;exact hKK) (fun u7 hu7=>?_)
 (try simp only[Act.put,z1,z2,z3])
 refine wpList_gd (decide (0≤x1)&&decide (x1≤20)&&decide (1≤x2)&&decide (x2≤20)&&decide (1≤x3)&&decide (x3≤48)&&decide (0≤x4)&&decide (x4≤4)) (.bool (decide (1≤x5))) 30 90 rfl rfl (by rfl) (fun hc K hKK=>by have:=hu7 hc;subst this;clear hc;(try simp only[Act.put,z1,z2,z3] at hKK);go_simp;exact hKK) (fun v7 hv7=>?_)
 (try simp only[Act.put,z1,z2,z3])
 refine wpList_pk (decide (0≤x1)&&decide (x1≤20)&&decide (1≤x2)&&decide (x2≤20)&&decide (1≤x3)&&decide (x3≤48)&&decide (0≤x4)&&decide (x4≤4)) (decide (1≤x5)) v7 (.tmp 90) (.tmp 92) rfl rfl (by rfl) (by rfl) hv7 ?_
 (try simp only[Act.put,z1,z2,z3])
 refine wpList_plain rfl (fun K hK=>?_)
 go_simp
 refine hK _ _ ?_
 clear hK
 (try simp only[Act.put,z1,z2,z3])
 refine wpList_gd (decide (0≤x1)&&decide (x1≤20)&&decide (1≤x2)&&decide (x2≤20)&&decide (1≤x3)&&decide (x3≤48)&&decide (0≤x4)&&decide (x4≤4)&&decide (1≤x5)) (.int .i64 x5) 34 94 rfl rfl (by rfl) (fun hc K hKK=>by clear hc;(try simp only[Act.put,z1,z2,z3] at hKK);go_simp;exact hKK) (fun u8 hu8=>?_)
 (try simp only[Act.put,z1,z2,z3])
 refine wpList_gd (decide (0≤x1)&&decide (x1≤20)&&decide (1≤x2)&&decide (x2≤20)&&decide (1≤x3)&&decide (x3≤48)&&decide (0≤x4)&&decide (x4≤4)&&decide (1≤x5)) (.bool (decide (x5≤20))) 34 94 rfl rfl (by rfl) (fun hc K hKK=>by have:=hu8 hc;subst this;clear hc;(try simp only[Act.put,z1,z2,z3] at hKK);go_simp;exact hKK) (fun v8 hv8=>?_)
 (try simp only[Act.put,z1,z2,z3])
 refine wpList_pk (decide (0≤x1)&&decide (x1≤20)&&decide (1≤x2)&&decide (x2≤20)&&decide (1≤x3)&&decide (x3≤48)&&decide (0≤x4)&&decide (x4≤4)&&decide (1≤x5)) (decide (x5≤20)) v8 (.tmp 94) (.tmp 96) rfl rfl (by rfl) (by rfl) hv8 ?_
 (try simp only[Act.put,z1,z2,z3])
 refine wpList_plain rfl (fun K hK=>?_)
 go_simp
 refine hK _ _ ?_
 clear hK
 (try simp only[Act.put,z1,z2,z3])
 refine wpList_gd (decide (0≤x1)&&decide (x1≤20)&&decide (1≤x2)&&decide (x2≤20)&&decide (1≤x3)&&decide (x3≤48)&&decide (0≤x4)&&decide (x4≤4)&&decide (1≤x5)&&decide (x5≤20)) (.int .i64 x6) 38 98 rfl rfl (by rfl) (fun hc K hKK=>by clear hc;(try simp only[Act.put,z1,z2,z3] at hKK);go_simp;exact hKK) (fun u9 hu9=>?_)
 (try simp only[Act.put,z1,z2,z3])
 refine wpList_gd (decide (0≤x1)&&decide (x1≤20)&&decide (1≤x2)&&decide (x2≤20)&&decide (1≤x3)&&decide (x3≤48)&&decide (0≤x4)&&decide (x4≤4)&&decide (1≤x5)&&decide (x5≤20)) (.bool (decide (0≤x6))) 38 98 rfl rfl (by rfl) (fun hc K hKK=>by have:=hu9 hc;subst this;clear hc;(try simp only[Act.put,z1,z2,z3] at hKK);go_simp;exact hKK) (fun v9 hv9=>?_)
 (try simp only[Act.put,z1,z2,z3])
 refine wpList_pk (decide (0≤x1)&&decide (x1≤20)&&decide (1≤x2)&&decide (x2≤20)&&decide (1≤x3)&&decide (x3≤48)&&decide (0≤x4)&&decide (x4≤4)&&decide (1≤x5)&&decide (x5≤20)) (decide (0≤x6)) v9 (.tmp 98) (.tmp 100) rfl rfl (by rfl) (by rfl) hv9 ?_
 (try simp only[Act.put,z1,z2,z3])
 refine wpList_plain rfl (fun K hK=>?_)
 go_simp
 refine hK _ _ ?_
 clear hK
 (try simp only[Act.put,z1,z2,z3])
 refine wpList_gd (decide (0≤x1)&&decide (x1≤20)&&decide (1≤x2)&&decide (x2≤20)&&decide (1≤x3)&&decide (x3≤48)&&decide (0≤x4)&&decide (x4≤4)&&decide (1≤x5)&&decide (x5≤20)&&decide (0≤x6)) (.int .i64 x6) 42 102 rfl rfl (by rfl) (fun hc K hKK=>by clear hc;(try simp only[Act.put,z1,z2,z3] at hKK);go_simp;exact hKK) (fun u10 hu10=>?_)
 (try simp only[Act.put,z1,z2,z3])
 refine wpList_gd (decide (0≤x1)&&decide (x1≤20)&&decide (1≤x2)&&decide (x2≤20)&&decide (1≤x3)&&decide (x3≤48)&&decide (0≤x4)&&decide (x4≤4)&&decide (1≤x5)&&decide (x5≤20)&&decide (0≤x6)) (.bool (decide (x6≤20))) 42 102 rfl rfl (by rfl) (fun hc K hKK=>by have:=hu10 hc;subst this;clear hc;(try simp only[Act.put,z1,z2,z3] at hKK);go_simp;exact hKK) (fun v10 hv10=>?_)
 (try simp only[Act.put,z1,z2,z3])
 refine wpList_pk (decide (0≤x1)&&decide (x1≤20)&&decide (1≤x2)&&decide (x2≤20)&&decide (1≤x3)&&decide (x3≤48)&&decide (0≤x4)&&decide (x4≤4)&&decide (1≤x5)&&decide (x5≤20)&&decide (0≤x6)) (decide (x6≤20)) v10 (.tmp 102) (.tmp 104) rfl rfl (by rfl) (by rfl) hv10 ?_
 (try simp only[Act.put,z1,z2,z3])
 rw[show(decide (0≤x1)&&decide (x1≤20)&&decide (1≤x2)&&decide (x2≤20)&&decide (1≤x3)&&decide (x3≤48)&&decide (0≤x4)&&decide (x4≤4)&&decide (1≤x5)&&decide (x5≤20)&&decide (0≤x6)&&decide (x6≤20))=sixB x1 x2 x3 x4 x5 x6 from rfl]
 clear hu0 hv0 hu1 hv1 hu2 hv2 hu3 hv3 hu4 hv4 hu5 hv5 hu6 hv6 hu7 hv7 hu8 hv8 hu9 hv9 hu10 hv10
 refine wpList_plain rfl (fun K hK=>?_)
 go_simp
 refine hK _ _ ?_
 clear hK
 (try simp only[Act.put,z1,z2,z3])
 go_upto_region 11 with fail
 have HR8:=zh (show Below W8.heap.size W8 W8.drew from(Below.refl _ _).drew)
 have HN9:=zh (show 1≤ND∧ND≤9 by have:=HOK.out.dve1;have:=HOK.out.dveN;have:=HN.out;omega)
 obtain⟨q,hq1,hq2⟩:∃a:Nat,within xd (ND:Int)=(a:Int)∧(a:Int)<(ND:Int):=by
  have hr:=within_range xd (ND:Int) (by have:=HN9.out;omega)
  exact⟨(within xd (ND:Int)).toNat,by omega,by omega⟩
 have HQ:=zh hq1
 have HCL:=zh (show(cs.drop 1).length=ND - 1 from by rw[List.length_drop,HD6.out.len,HN.out];unfold clms;rw[List.length_map])
 have iq1:q<ND:=by omega
 have HQL:=zh (show q<F.dves.length by rw[←HN.out];exact iq1)
 have iq2:q≤rc:=by have:=HRC.out;omega
 have iq3:(q:Int)≤(rc:Int):=by omega
 have in1:1≤ND:=HN9.out.1
 have in2:ND≤rc:=HRC.out
 have in3:(1:Int)≤(ND:Int):=by omega
 have in4:(ND:Int)≤(rc:Int):=by omega
 clear hq1 hq2
 refine region_tail (S:=(fun w'=>w'.cell? ⟨gS,0,none⟩=some (.slice (some ⟨gR,0,none⟩) ND rc)∧w'.cell? ⟨gS,1,none⟩=some (.pointer (some ⟨gL,0,none⟩)))) [18] (by kernel_rfl) (HS6.out _ (HT8.out _ HR8.out)) (fun hHeld=>?_)
 refine tk 0 106 ?_
 refine tk 1 107 ?_
 refine tk 2 108 ?_
 refine tk 3 109 ?_
 refine tk 4 110 ?_
 refine tk 5 111 ?_
 refine tk 6 112 ?_
 refine tk 7 113 ?_
 refine tk 8 114 ?_
 refine tk 9 115 ?_
 refine tk 12 118 ?_
 refine tk 13 119 ?_
 refine tk 14 120 ?_
 refine tk 15 121 ?_
 refine readyT (rs:=[10]) (by kernel_rfl) (by simp) ?_
 refine AllReadyT.cons rfl (fun K hK=>?_) ?_
 ·go_simp
  (go_at_call 8;refine(within_any xd (ND:Int) _ HD.out (by have:=HN9.out;unfold I64;omega)).mono ?_;rintro e w9 ⟨rfl,rfl⟩;rw[HQ.out])
  go_wp2_with fail
  refine hK.out _ _ ?_ (fun hHeld=>?_)
  ·(first|exact HS6.out _ (HT8.out _ HR8.out)|exact HS6.out _ (HT8.out _ ((Below.refl _ _).alloc (Nat.le_refl _) _).drew))
  clear hK K
  (try simp only[Act.put,z1,z2,z3])
  refine tk 11 117 ?_
  refine tk 16 122 ?_
  refine readyT (rs:=[17]) (by kernel_rfl) (by simp) ?_
  refine AllReadyT.cons rfl (fun K hK=>?_) ?_
  ·go_simp
   refine hK.out _ _ ?_ (fun hHeld=>?_)
   ·(first|exact HS6.out _ (HT8.out _ HR8.out)|exact HS6.out _ (HT8.out _ ((Below.refl _ _).alloc (Nat.le_refl _) _).drew))
   clear hK K
   (try simp only[Act.put,z1,z2,z3])
   refine readyT (rs:=[18]) (by kernel_rfl) (by simp) ?_
   refine AllReadyT.consT rfl rfl (fun K hK=>?_) ?_
   ·rw[if_pos (by rfl)]
    go_simp
    refine hK.out _ _ ?_
    clear hK K
    (try simp only[Act.put,z1,z2,z3])
    refine doneT (by kernel_rfl) ?_ _
    clear hHeld
    obtain⟨W9,hW9⟩:=zx ((W8.alloc (.cells #[.slice (some ⟨gR,0,none⟩) q rc,.pointer (some ⟨gL,0,none⟩),.int .i64 (-1)] 47)).drew)
    obtain⟨g1,hg1⟩:=zx W8.heap.size
    rw[←hW9,←hg1]
    have hb9:Below W8.heap.size W8 W9:=by rw[hW9];exact((Below.refl _ _).alloc (Nat.le_refl _) _).drew
    have hk9:W9.heap[g1]?=some (.cells #[.slice (some ⟨gR,0,none⟩) q rc,.pointer (some ⟨gL,0,none⟩),.int .i64 (-1)] 47 (0,0)):=by rw[hW9,hg1];exact heap_alloc_new W8 _
    have HK9:=zh (show ∀w',Below W9.heap.size W9 w'→w'.heap[g1]?=some (.cells #[.slice (some ⟨gR,0,none⟩) q rc,.pointer (some ⟨gL,0,none⟩),.int .i64 (-1)] 47 (0,0)) from fun w' hb=>(hb.block g1 (Array.getElem?_eq_some_iff.1 hk9).1).trans hk9)
    have HL9:=zh (Array.getElem?_eq_some_iff.1 hk9).1
    have HU9:=zh (show ∀w',Below W9.heap.size W9 w'→Below W8.heap.size W8 w' from fun w' hb=>hb9.trans (hb.mono hb9.size))
    have HT9:=zh (show ∀w',Below W9.heap.size W9 w'→Below W6.heap.size W6 w' from fun w' hb=>HT8.out _ (HU9.out _ hb))
    have HR9:=zh (show Below W9.heap.size W9 W9.drew from(Below.refl _ _).drew)
    obtain⟨AD,hAD,hCS⟩:∃AD:Addr,(if rc=1 then some (⟨gR,0,none⟩:Addr) else some ⟨gR,1,none⟩)=some AD∧∀w',Below W6.heap.size W6 w'→∀j u,(cs.drop 1)[j]?=some u→w'.cell? (AD.add j)=some u:=by
     by_cases hr1:rc=1
     ·refine⟨⟨gR,0,none⟩,by rw[if_pos hr1],fun w' hb j u hu=>?_⟩
      have h1:=(List.getElem?_eq_some_iff.1 hu).1
      rw[HCL.out] at h1
      omega
     ·refine⟨⟨gR,1,none⟩,by rw[if_neg hr1],fun w' hb j u hu=>?_⟩
      rw[List.getElem?_drop] at hu
      rw[Addr.add_mid]
      exact(HD6.out.below hb).cells _ _ hu
    have HAD:=zh hAD
    have HCS:=zh hCS
    clear hW9 hg1 hb9 hk9 hAD hCS iq1 iq2 iq3
    go_upto_region 12 with fail
    refine region_tail (S:=(fun w'=>w'.cell? ⟨gS,0,none⟩=some (.slice (some ⟨gR,0,none⟩) ND rc)∧w'.cell? ⟨gS,1,none⟩=some (.pointer (some ⟨gL,0,none⟩)))) [19] (by kernel_rfl) (HS6.out _ (HT9.out _ HR9.out)) (fun hHeld=>?_)
    refine tk 0 124 ?_
    refine tk 1 125 ?_
    refine tk 2 126 ?_
    refine tk 3 127 ?_
    refine tk 4 128 ?_
    refine tk 5 129 ?_
    refine tk 6 130 ?_
    refine tk 7 131 ?_
    refine tk 8 132 ?_
    refine tk 9 133 ?_
    refine tk 13 137 ?_
    refine tk 14 138 ?_
    refine tk 15 139 ?_
    refine tk 16 140 ?_
    refine readyT (rs:=[10,11]) (by kernel_rfl) (by simp) ?_
    refine AllReadyT.cons rfl (fun K hK=>?_) ?_
    ·rw[if_pos (by rfl)]
     obtain⟨v1,wA,hr1,hA1,hbA⟩:=run_first W9.drew 44 gR 0 (rc - 1) ND (cs.drop 1) HN9.out.1 HN9.out.2 HCL.out AD (HCS.out _ (HT9.out _ HR9.out))
     have hsz:W9.heap.size≤(W9.drew).heap.size:=HR9.out.size
     have HBA:=zh (show Below W9.heap.size W9 wA from HR9.out.trans (hbA.mono hsz))
     have HA1:=zh (show App1 wA W9.heap.size gR 0 ND v1 (cs.drop 1) from hA1.base hsz)
     refine wp_app (.tmp 128) (.tmp 133) rfl _ _ v1 wA (by rfl) (by exact congrArg (fun p=>Value.slice p (ND - 1) (rc - 1)) HAD.out) hr1 ?_
     clear hr1 hA1 hbA hsz
     refine hK.out _ _ ?_ (fun hHeld=>?_)
     ·(first|exact HS6.out _ (HT9.out _ (HB2.out.alloc HB2.out.size _))|exact HS6.out _ (HT9.out _ HB2.out)|exact HS6.out _ (HT9.out _ (HBA.out.alloc HBA.out.size _))|exact HS6.out _ (HT9.out _ HBA.out)|exact HS6.out _ (HT9.out _ ((Below.refl _ _).alloc (Nat.le_refl _) _).drew))
     clear hK K
     (try simp only[Act.put,z1,z2,z3])
     refine readyT (rs:=[11]) (by kernel_rfl) (by simp) ?_
     refine AllReadyT.cons rfl (fun K hK=>?_) ?_
     ·go_simp
      refine hK.out _ _ ?_ (fun hHeld=>?_)
      ·(first|exact HS6.out _ (HT9.out _ (HB2.out.alloc HB2.out.size _))|exact HS6.out _ (HT9.out _ HB2.out)|exact HS6.out _ (HT9.out _ (HBA.out.alloc HBA.out.size _))|exact HS6.out _ (HT9.out _ HBA.out)|exact HS6.out _ (HT9.out _ ((Below.refl _ _).alloc (Nat.le_refl _) _).drew))
      clear hK K
      (try simp only[Act.put,z1,z2,z3])
      refine readyT (rs:=[12]) (by kernel_rfl) (by simp) ?_
      refine AllReadyT.cons rfl (fun K hK=>?_) ?_
      ·rw[if_pos (by rfl)]
       obtain⟨v2,wB,hr2,ho2,hb2⟩:=run_second (wA.alloc (.cells #[.pointer none] 76)) 44 W9.heap.size gR 0 ND wA.heap.size v1 (cs.drop 1) (HA1.out.below ((Below.refl _ _).alloc (Nat.le_refl _) _)) (Nat.le_trans HBA.out.size (by simp)) HN9.out.2 (by simp)
       obtain⟨A2,c2,hv2⟩:=own_formD ho2
       subst hv2
       have HB2:=zh (show Below W9.heap.size W9 wB from(HBA.out.alloc HBA.out.size _).trans hb2)
       have HO2:=zh ho2
       refine wp_app (.tmp 134) (.tmp 135) rfl _ _ (.slice A2 ND c2) wB (by rfl) (by rfl) hr2 ?_
       clear hr2 ho2 hb2
       refine hK.out _ _ ?_ (fun hHeld=>?_)
       ·(first|exact HS6.out _ (HT9.out _ (HB2.out.alloc HB2.out.size _))|exact HS6.out _ (HT9.out _ HB2.out)|exact HS6.out _ (HT9.out _ (HBA.out.alloc HBA.out.size _))|exact HS6.out _ (HT9.out _ HBA.out)|exact HS6.out _ (HT9.out _ ((Below.refl _ _).alloc (Nat.le_refl _) _).drew))
       clear hK K
       (try simp only[Act.put,z1,z2,z3])
       refine tk 17 141 ?_
       refine readyT (rs:=[18]) (by kernel_rfl) (by simp) ?_
       refine AllReadyT.cons rfl (fun K hK=>?_) ?_
       ·go_simp
        refine hK.out _ _ ?_ (fun hHeld=>?_)
        ·(first|exact HS6.out _ (HT9.out _ (HB2.out.alloc HB2.out.size _))|exact HS6.out _ (HT9.out _ HB2.out)|exact HS6.out _ (HT9.out _ (HBA.out.alloc HBA.out.size _))|exact HS6.out _ (HT9.out _ HBA.out)|exact HS6.out _ (HT9.out _ ((Below.refl _ _).alloc (Nat.le_refl _) _).drew))
        clear hK K
        (try simp only[Act.put,z1,z2,z3])
        refine readyT (rs:=[19]) (by kernel_rfl) (by simp) ?_
        refine AllReadyT.consT rfl rfl (fun K hK=>?_) ?_
        ·go_simp
         refine hK.out _ _ ?_
         clear hK K
         (try simp only[Act.put,z1,z2,z3])
         refine doneT (by kernel_rfl) ?_ _
         clear hHeld
         rw[HAD.out]
         obtain⟨W10,hW10⟩:=zx (wB.alloc (.cells #[.slice A2 ND c2,.pointer (some ⟨gL,0,none⟩),.int .i64 (-1)] 47))
         obtain⟨g2,hg2⟩:=zx wB.heap.size
         rw[←hW10,←hg2]
         have hb10:Below W9.heap.size W9 W10:=by rw[hW10];exact HB2.out.alloc HB2.out.size _
         have hk10:W10.heap[g2]?=some (.cells #[.slice A2 ND c2,.pointer (some ⟨gL,0,none⟩),.int .i64 (-1)] 47 (0,0)):=by rw[hW10,hg2];exact heap_alloc_new wB _
         have HK10:=zh (show ∀w',Below W10.heap.size W10 w'→w'.heap[g2]?=some (.cells #[.slice A2 ND c2,.pointer (some ⟨gL,0,none⟩),.int .i64 (-1)] 47 (0,0)) from fun w' hb=>(hb.block g2 (Array.getElem?_eq_some_iff.1 hk10).1).trans hk10)
         have HL10:=zh (Array.getElem?_eq_some_iff.1 hk10).1
         have HU10:=zh (show ∀w',Below W10.heap.size W10 w'→Below W9.heap.size W9 w' from fun w' hb=>hb10.trans (hb.mono hb10.size))
         have HO10:=zh (show ∀w',Below W10.heap.size W10 w'→w'.ownsRow W9.heap.size 76 1 (.slice A2 ND c2) ND (cs.drop 1++[.pointer none]) from fun w' hb=>own_below (by rw[hW10];exact HO2.out.alloc _) hb)
         obtain⟨k0,k1⟩:=HS6.out W10 (HT9.out _ hb10)
         clear hW10 hg2 hb10 hk10 in1 in2 in3 in4
         go_upto_region 14 with fail
         clear k0 k1
         obtain⟨W11,hW11⟩:=zx (W10.alloc (.cells #[.slice (some ⟨gR,0,none⟩) ND rc,.pointer none,.int .i64 (-1)] 47))
         obtain⟨g3,hg3⟩:=zx W10.heap.size
         rw[←hW11,←hg3]
         have hb11:Below W10.heap.size W10 W11:=by rw[hW11];exact(Below.refl _ _).alloc (Nat.le_refl _) _
         have hk11:W11.heap[g3]?=some (.cells #[.slice (some ⟨gR,0,none⟩) ND rc,.pointer none,.int .i64 (-1)] 47 (0,0)):=by rw[hW11,hg3];exact heap_alloc_new W10 _
         have HK11:=zh (show ∀w',Below W11.heap.size W11 w'→w'.heap[g3]?=some (.cells #[.slice (some ⟨gR,0,none⟩) ND rc,.pointer none,.int .i64 (-1)] 47 (0,0)) from fun w' hb=>(hb.block g3 (Array.getElem?_eq_some_iff.1 hk11).1).trans hk11)
         have HL11:=zh (Array.getElem?_eq_some_iff.1 hk11).1
         have HU11:=zh (show ∀w',Below W11.heap.size W11 w'→Below W10.heap.size W10 w' from fun w' hb=>hb11.trans (hb.mono hb11.size))
         have HT11:=zh (show ∀w',Below W11.heap.size W11 w'→Below W6.heap.size W6 w' from fun w' hb=>HT9.out _ (HU10.out _ (HU11.out _ hb)))
         clear hW11 hg3 hb11 hk11
         have HFV:=zh (show ∀w',Below W6.heap.size W6 w'→Calls Tryz.prog 16 #[.agg #[.int .i64 EX,.slice Al nl cl,.slice Am nm cm,.slice Ad nd cd,.slice Av nv cv,.slice Ap np cp,.slice Ao no co]] w' fun e w''=>e=.returned (.int .i64 0)∧Below w'.heap.size w' w'' from fun w' hb=>by
          rw[HEX.out]
          exact fvalidate_any 2 (by omega) _ _ _ _ _ _ F w' (HF6.out.below hb) HOK.out)
         have HR11:=zh (Below.refl W11.heap.size W11)
         go_wp2_with fail
         refine(awake40_any _).mono ?_
         rintro e w12 ⟨rfl,hb⟩
         have HB12:=zh (HR11.out.trans hb)
         clear hb
         obtain⟨d0,d1,d2,d3,d4,d5,d6,d7,d8,d9,d10,d11,d12,d13⟩:=cells14 (HK8.out w12 (HU9.out _ (HU10.out _ (HU11.out _ HB12.out))))
         go_wp2_with fail
         clear d0 d1 d2 d3 d4 d5 d6 d7 d8 d9 d10 d11 d12 d13
         refine(HVF.out w12 (HT11.out _ HB12.out) x1 x2 x3 x4 x5 x6).mono ?_
         rintro e w13 ⟨rfl,hb⟩
         have HB13:=zh (HB12.out.trans (hb.mono HB12.out.size))
         clear hb
         obtain⟨d0,d1,d2,d3,d4,d5,d6,d7,d8,d9,d10,d11,d12,d13⟩:=cells14 (HK6.out w13 (HT11.out _ HB13.out))
         go_wp2_with fail
         clear d0 d1 d2 d3 d4 d5 d6 d7 d8 d9 d10 d11 d12 d13
         refine(valid_nil EX a1 a2 a3 a4 a5 a6 Al Am Ad Av Ap Ao none nl nm nd nv np no 0 cl cm cd cv cp co 0 w13 (fun w' hb=>HFV.out w' ((HT11.out _ HB13.out).trans (hb.mono (HT11.out _ HB13.out).size)))).mono ?_
         rintro e w14 ⟨rfl,hb⟩
         have HB14:=zh (HB13.out.trans (hb.mono HB13.out.size))
         clear hb
         obtain⟨d0,d1,d2,d3,d4,d5,d6,d7,d8,d9,d10,d11,d12,d13⟩:=cells14 (HK6.out w14 (HT11.out _ HB14.out))
         go_wp2_with fail
         clear d0 d1 d2 d3 d4 d5 d6 d7 d8 d9 d10 d11 d12 d13
         have hq9:=HK9.out w14 (HU10.out _ (HU11.out _ HB14.out))
         refine(valid_less EX a1 a2 a3 a4 a5 a6 Al Am Ad Av Ap Ao none nl nm nd nv np no 0 cl cm cd cv cp co 0 g1 (some ⟨gR,0,none⟩) q rc ⟨gL,0,none⟩ w14 (by rw[cell_of_row _ _ _ _ _ _ hq9];rfl) (by rw[cell_of_row _ _ _ _ _ _ hq9];rfl) (Array.getElem?_eq_some_iff.1 hq9).1 (by rw[HNV.out];have:=HQL.out;omega) (fun w' hb=>HFV.out w' ((HT11.out _ HB14.out).trans (hb.mono (HT11.out _ HB14.out).size)))).mono ?_
         clear hq9
         rintro e w15 ⟨rfl,hb⟩
         have HB15:=zh (HB14.out.trans (hb.mono HB14.out.size))
         clear hb
         obtain⟨d0,d1,d2,d3,d4,d5,d6,d7,d8,d9,d10,d11,d12,d13⟩:=cells14 (HK6.out w15 (HT11.out _ HB15.out))
         go_wp2_with fail
         clear d0 d1 d2 d3 d4 d5 d6 d7 d8 d9 d10 d11 d12 d13
         have hq9:=HK10.out w15 (HU11.out _ HB15.out)
         have hvh:=valid_hole 2 (by omega) a1 a2 a3 a4 a5 a6 _ _ _ _ _ _ (.slice A2 ND c2) F g2 gR W9.heap.size ⟨gL,0,none⟩ cs w15 (HF6.out.below (HT11.out _ HB15.out)) HOK.out (HD6.out.below (HT11.out _ HB15.out)) (by rw[←HN.out];exact HO10.out _ (HU11.out _ HB15.out)) (by rw[cell_of_row _ _ _ _ _ _ hq9];rfl) (by rw[cell_of_row _ _ _ _ _ _ hq9];rfl) (Array.getElem?_eq_some_iff.1 hq9).1
         rw[←HEX.out] at hvh
         refine hvh.mono ?_
         clear hq9 hvh
         rintro e w16 ⟨rfl,hb⟩
         have HB16:=zh (HB15.out.trans (hb.mono HB15.out.size))
         clear hb
         obtain⟨d0,d1,d2,d3,d4,d5,d6,d7,d8,d9,d10,d11,d12,d13⟩:=cells14 (HK6.out w16 (HT11.out _ HB16.out))
         go_wp2_with fail
         clear d0 d1 d2 d3 d4 d5 d6 d7 d8 d9 d10 d11 d12 d13
         have hq9:=HK11.out w16 HB16.out
         refine(valid_bare EX a1 a2 a3 a4 a5 a6 Al Am Ad Av Ap Ao none nl nm nd nv np no 0 cl cm cd cv cp co 0 g3 (some ⟨gR,0,none⟩) ND rc w16 (by rw[cell_of_row _ _ _ _ _ _ hq9];rfl) (by rw[cell_of_row _ _ _ _ _ _ hq9];rfl) (Array.getElem?_eq_some_iff.1 hq9).1 (fun w' hb=>HFV.out w' ((HT11.out _ HB16.out).trans (hb.mono (HT11.out _ HB16.out).size)))).mono ?_
         clear hq9
         rintro e w17 ⟨rfl,hb⟩
         have HB17:=zh (HB16.out.trans (hb.mono HB16.out.size))
         clear hb
         go_wp2_with fail
         refine(valid_err 0 0 0 0 0 0 0 none none none none none none none 0 0 0 0 0 0 0 0 0 0 0 0 0 0 (some ⟨gS,0,none⟩) w17 (fun w'' _=>fvalidate_empty w'')).mono ?_
         rintro e w18 ⟨rfl,hb⟩
         have HB18:=zh (HB17.out.trans (hb.mono HB17.out.size))
         clear hb
         go_wp2_with fail
         go_ret
         exact⟨rfl,HEND.out.trans ((HT11.out _ HB18.out).mono HEND.out.size)⟩
        exact AllReadyT.nil
       exact AllReadyT.nil
      exact AllReadyT.nil
     exact AllReadyT.nil
    refine AllReadyT.cons rfl (fun K hK=>?_) ?_
    ·go_simp
     refine hK.out _ _ ?_ (fun hHeld=>?_)
     ·(first|exact HS6.out _ (HT9.out _ (HB2.out.alloc HB2.out.size _))|exact HS6.out _ (HT9.out _ HB2.out)|exact HS6.out _ (HT9.out _ (HBA.out.alloc HBA.out.size _))|exact HS6.out _ (HT9.out _ HBA.out)|exact HS6.out _ (HT9.out _ ((Below.refl _ _).alloc (Nat.le_refl _) _).drew))
     clear hK K
     (try simp only[Act.put,z1,z2,z3])
     refine readyT (rs:=[10]) (by kernel_rfl) (by simp) ?_
     refine AllReadyT.cons rfl (fun K hK=>?_) ?_
     ·rw[if_pos (by rfl)]
      obtain⟨v1,wA,hr1,hA1,hbA⟩:=run_first ((W9.alloc (.cells #[.pointer none] 76)).drew) 44 gR 0 (rc - 1) ND (cs.drop 1) HN9.out.1 HN9.out.2 HCL.out AD (HCS.out _ (HT9.out _ (((Below.refl W9.heap.size W9).alloc (Nat.le_refl _) (.cells #[.pointer none] 76)).drew)))
      have hsz:W9.heap.size≤(((W9.alloc (.cells #[.pointer none] 76)).drew)).heap.size:=(((Below.refl W9.heap.size W9).alloc (Nat.le_refl _) (.cells #[.pointer none] 76)).drew).size
      have HBA:=zh (show Below W9.heap.size W9 wA from(((Below.refl W9.heap.size W9).alloc (Nat.le_refl _) (.cells #[.pointer none] 76)).drew).trans (hbA.mono hsz))
      have HA1:=zh (show App1 wA W9.heap.size gR 0 ND v1 (cs.drop 1) from hA1.base hsz)
      have HNIL:=zh (show wA.cell? ⟨W9.heap.size,0,none⟩=some (.pointer none) from(hbA.cell (p:=⟨W9.heap.size,0,none⟩) (show W9.heap.size<(((W9.alloc (.cells #[.pointer none] 76)).drew)).heap.size by simp)).trans (by simp))
      refine wp_app (.tmp 128) (.tmp 133) rfl _ _ v1 wA (by rfl) (by exact congrArg (fun p=>Value.slice p (ND - 1) (rc - 1)) HAD.out) hr1 ?_
      clear hr1 hA1 hbA hsz
      refine hK.out _ _ ?_ (fun hHeld=>?_)
      ·(first|exact HS6.out _ (HT9.out _ (HB2.out.alloc HB2.out.size _))|exact HS6.out _ (HT9.out _ HB2.out)|exact HS6.out _ (HT9.out _ (HBA.out.alloc HBA.out.size _))|exact HS6.out _ (HT9.out _ HBA.out)|exact HS6.out _ (HT9.out _ ((Below.refl _ _).alloc (Nat.le_refl _) _).drew))
      clear hK K
      (try simp only[Act.put,z1,z2,z3])
      refine readyT (rs:=[12]) (by kernel_rfl) (by simp) ?_
      refine AllReadyT.cons rfl (fun K hK=>?_) ?_
      ·rw[if_pos (by rfl)]
       obtain⟨v2,wB,hr2,ho2,hb2⟩:=run_second wA 44 W9.heap.size gR 0 ND W9.heap.size v1 (cs.drop 1) HA1.out HBA.out.size HN9.out.2 HNIL.out
       obtain⟨A2,c2,hv2⟩:=own_formD ho2
       subst hv2
       have HB2:=zh (show Below W9.heap.size W9 wB from HBA.out.trans hb2)
       have HO2:=zh ho2
       refine wp_app (.tmp 134) (.tmp 135) rfl _ _ (.slice A2 ND c2) wB (by rfl) (by rfl) hr2 ?_
       clear hr2 ho2 hb2
       refine hK.out _ _ ?_ (fun hHeld=>?_)
       ·(first|exact HS6.out _ (HT9.out _ (HB2.out.alloc HB2.out.size _))|exact HS6.out _ (HT9.out _ HB2.out)|exact HS6.out _ (HT9.out _ (HBA.out.alloc HBA.out.size _))|exact HS6.out _ (HT9.out _ HBA.out)|exact HS6.out _ (HT9.out _ ((Below.refl _ _).alloc (Nat.le_refl _) _).drew))
       clear hK K
       (try simp only[Act.put,z1,z2,z3])
       refine tk 17 141 ?_
       refine readyT (rs:=[18]) (by kernel_rfl) (by simp) ?_
       refine AllReadyT.cons rfl (fun K hK=>?_) ?_
       ·go_simp
        refine hK.out _ _ ?_ (fun hHeld=>?_)
        ·(first|exact HS6.out _ (HT9.out _ (HB2.out.alloc HB2.out.size _))|exact HS6.out _ (HT9.out _ HB2.out)|exact HS6.out _ (HT9.out _ (HBA.out.alloc HBA.out.size _))|exact HS6.out _ (HT9.out _ HBA.out)|exact HS6.out _ (HT9.out _ ((Below.refl _ _).alloc (Nat.le_refl _) _).drew))
        clear hK K
        (try simp only[Act.put,z1,z2,z3])
        refine readyT (rs:=[19]) (by kernel_rfl) (by simp) ?_
        refine AllReadyT.consT rfl rfl (fun K hK=>?_) ?_
        ·go_simp
         refine hK.out _ _ ?_
         clear hK K
         (try simp only[Act.put,z1,z2,z3])
         refine doneT (by kernel_rfl) ?_ _
         clear hHeld
         rw[HAD.out]
         obtain⟨W10,hW10⟩:=zx (wB.alloc (.cells #[.slice A2 ND c2,.pointer (some ⟨gL,0,none⟩),.int .i64 (-1)] 47))
         obtain⟨g2,hg2⟩:=zx wB.heap.size
         rw[←hW10,←hg2]
         have hb10:Below W9.heap.size W9 W10:=by rw[hW10];exact HB2.out.alloc HB2.out.size _
         have hk10:W10.heap[g2]?=some (.cells #[.slice A2 ND c2,.pointer (some ⟨gL,0,none⟩),.int .i64 (-1)] 47 (0,0)):=by rw[hW10,hg2];exact heap_alloc_new wB _
         have HK10:=zh (show ∀w',Below W10.heap.size W10 w'→w'.heap[g2]?=some (.cells #[.slice A2 ND c2,.pointer (some ⟨gL,0,none⟩),.int .i64 (-1)] 47 (0,0)) from fun w' hb=>(hb.block g2 (Array.getElem?_eq_some_iff.1 hk10).1).trans hk10)
         have HL10:=zh (Array.getElem?_eq_some_iff.1 hk10).1
         have HU10:=zh (show ∀w',Below W10.heap.size W10 w'→Below W9.heap.size W9 w' from fun w' hb=>hb10.trans (hb.mono hb10.size))
         have HO10:=zh (show ∀w',Below W10.heap.size W10 w'→w'.ownsRow W9.heap.size 76 1 (.slice A2 ND c2) ND (cs.drop 1++[.pointer none]) from fun w' hb=>own_below (by rw[hW10];exact HO2.out.alloc _) hb)
         obtain⟨k0,k1⟩:=HS6.out W10 (HT9.out _ hb10)
         clear hW10 hg2 hb10 hk10 in1 in2 in3 in4
         go_upto_region 14 with fail
         clear k0 k1
         obtain⟨W11,hW11⟩:=zx (W10.alloc (.cells #[.slice (some ⟨gR,0,none⟩) ND rc,.pointer none,.int .i64 (-1)] 47))
         obtain⟨g3,hg3⟩:=zx W10.heap.size
         rw[←hW11,←hg3]
         have hb11:Below W10.heap.size W10 W11:=by rw[hW11];exact(Below.refl _ _).alloc (Nat.le_refl _) _
         have hk11:W11.heap[g3]?=some (.cells #[.slice (some ⟨gR,0,none⟩) ND rc,.pointer none,.int .i64 (-1)] 47 (0,0)):=by rw[hW11,hg3];exact heap_alloc_new W10 _
         have HK11:=zh (show ∀w',Below W11.heap.size W11 w'→w'.heap[g3]?=some (.cells #[.slice (some ⟨gR,0,none⟩) ND rc,.pointer none,.int .i64 (-1)] 47 (0,0)) from fun w' hb=>(hb.block g3 (Array.getElem?_eq_some_iff.1 hk11).1).trans hk11)
         have HL11:=zh (Array.getElem?_eq_some_iff.1 hk11).1
         have HU11:=zh (show ∀w',Below W11.heap.size W11 w'→Below W10.heap.size W10 w' from fun w' hb=>hb11.trans (hb.mono hb11.size))
         have HT11:=zh (show ∀w',Below W11.heap.size W11 w'→Below W6.heap.size W6 w' from fun w' hb=>HT9.out _ (HU10.out _ (HU11.out _ hb)))
         clear hW11 hg3 hb11 hk11
         have HFV:=zh (show ∀w',Below W6.heap.size W6 w'→Calls Tryz.prog 16 #[.agg #[.int .i64 EX,.slice Al nl cl,.slice Am nm cm,.slice Ad nd cd,.slice Av nv cv,.slice Ap np cp,.slice Ao no co]] w' fun e w''=>e=.returned (.int .i64 0)∧Below w'.heap.size w' w'' from fun w' hb=>by
          rw[HEX.out]
          exact fvalidate_any 2 (by omega) _ _ _ _ _ _ F w' (HF6.out.below hb) HOK.out)
         have HR11:=zh (Below.refl W11.heap.size W11)
         go_wp2_with fail
         refine(awake40_any _).mono ?_
         rintro e w12 ⟨rfl,hb⟩
         have HB12:=zh (HR11.out.trans hb)
         clear hb
         obtain⟨d0,d1,d2,d3,d4,d5,d6,d7,d8,d9,d10,d11,d12,d13⟩:=cells14 (HK8.out w12 (HU9.out _ (HU10.out _ (HU11.out _ HB12.out))))
         go_wp2_with fail
         clear d0 d1 d2 d3 d4 d5 d6 d7 d8 d9 d10 d11 d12 d13
         refine(HVF.out w12 (HT11.out _ HB12.out) x1 x2 x3 x4 x5 x6).mono ?_
         rintro e w13 ⟨rfl,hb⟩
         have HB13:=zh (HB12.out.trans (hb.mono HB12.out.size))
         clear hb
         obtain⟨d0,d1,d2,d3,d4,d5,d6,d7,d8,d9,d10,d11,d12,d13⟩:=cells14 (HK6.out w13 (HT11.out _ HB13.out))
         go_wp2_with fail
         clear d0 d1 d2 d3 d4 d5 d6 d7 d8 d9 d10 d11 d12 d13
         refine(valid_nil EX a1 a2 a3 a4 a5 a6 Al Am Ad Av Ap Ao none nl nm nd nv np no 0 cl cm cd cv cp co 0 w13 (fun w' hb=>HFV.out w' ((HT11.out _ HB13.out).trans (hb.mono (HT11.out _ HB13.out).size)))).mono ?_
         rintro e w14 ⟨rfl,hb⟩
         have HB14:=zh (HB13.out.trans (hb.mono HB13.out.size))
         clear hb
         obtain⟨d0,d1,d2,d3,d4,d5,d6,d7,d8,d9,d10,d11,d12,d13⟩:=cells14 (HK6.out w14 (HT11.out _ HB14.out))
         go_wp2_with fail
         clear d0 d1 d2 d3 d4 d5 d6 d7 d8 d9 d10 d11 d12 d13
         have hq9:=HK9.out w14 (HU10.out _ (HU11.out _ HB14.out))
         refine(valid_less EX a1 a2 a3 a4 a5 a6 Al Am Ad Av Ap Ao none nl nm nd nv np no 0 cl cm cd cv cp co 0 g1 (some ⟨gR,0,none⟩) q rc ⟨gL,0,none⟩ w14 (by rw[cell_of_row _ _ _ _ _ _ hq9];rfl) (by rw[cell_of_row _ _ _ _ _ _ hq9];rfl) (Array.getElem?_eq_some_iff.1 hq9).1 (by rw[HNV.out];have:=HQL.out;omega) (fun w' hb=>HFV.out w' ((HT11.out _ HB14.out).trans (hb.mono (HT11.out _ HB14.out).size)))).mono ?_
         clear hq9
         rintro e w15 ⟨rfl,hb⟩
         have HB15:=zh (HB14.out.trans (hb.mono HB14.out.size))
         clear hb
         obtain⟨d0,d1,d2,d3,d4,d5,d6,d7,d8,d9,d10,d11,d12,d13⟩:=cells14 (HK6.out w15 (HT11.out _ HB15.out))
         go_wp2_with fail
         clear d0 d1 d2 d3 d4 d5 d6 d7 d8 d9 d10 d11 d12 d13
         have hq9:=HK10.out w15 (HU11.out _ HB15.out)
         have hvh:=valid_hole 2 (by omega) a1 a2 a3 a4 a5 a6 _ _ _ _ _ _ (.slice A2 ND c2) F g2 gR W9.heap.size ⟨gL,0,none⟩ cs w15 (HF6.out.below (HT11.out _ HB15.out)) HOK.out (HD6.out.below (HT11.out _ HB15.out)) (by rw[←HN.out];exact HO10.out _ (HU11.out _ HB15.out)) (by rw[cell_of_row _ _ _ _ _ _ hq9];rfl) (by rw[cell_of_row _ _ _ _ _ _ hq9];rfl) (Array.getElem?_eq_some_iff.1 hq9).1
         rw[←HEX.out] at hvh
         refine hvh.mono ?_
         clear hq9 hvh
         rintro e w16 ⟨rfl,hb⟩
         have HB16:=zh (HB15.out.trans (hb.mono HB15.out.size))
         clear hb
         obtain⟨d0,d1,d2,d3,d4,d5,d6,d7,d8,d9,d10,d11,d12,d13⟩:=cells14 (HK6.out w16 (HT11.out _ HB16.out))
         go_wp2_with fail
         clear d0 d1 d2 d3 d4 d5 d6 d7 d8 d9 d10 d11 d12 d13
         have hq9:=HK11.out w16 HB16.out
         refine(valid_bare EX a1 a2 a3 a4 a5 a6 Al Am Ad Av Ap Ao none nl nm nd nv np no 0 cl cm cd cv cp co 0 g3 (some ⟨gR,0,none⟩) ND rc w16 (by rw[cell_of_row _ _ _ _ _ _ hq9];rfl) (by rw[cell_of_row _ _ _ _ _ _ hq9];rfl) (Array.getElem?_eq_some_iff.1 hq9).1 (fun w' hb=>HFV.out w' ((HT11.out _ HB16.out).trans (hb.mono (HT11.out _ HB16.out).size)))).mono ?_
         clear hq9
         rintro e w17 ⟨rfl,hb⟩
         have HB17:=zh (HB16.out.trans (hb.mono HB16.out.size))
         clear hb
         go_wp2_with fail
         refine(valid_err 0 0 0 0 0 0 0 none none none none none none none 0 0 0 0 0 0 0 0 0 0 0 0 0 0 (some ⟨gS,0,none⟩) w17 (fun w'' _=>fvalidate_empty w'')).mono ?_
         rintro e w18 ⟨rfl,hb⟩
         have HB18:=zh (HB17.out.trans (hb.mono HB17.out.size))
         clear hb
         go_wp2_with fail
         go_ret
         exact⟨rfl,HEND.out.trans ((HT11.out _ HB18.out).mono HEND.out.size)⟩
        exact AllReadyT.nil
       exact AllReadyT.nil
      exact AllReadyT.nil
     exact AllReadyT.nil
    exact AllReadyT.nil
   exact AllReadyT.nil
  exact AllReadyT.nil
 exact AllReadyT.nil
end Go.Proofs.YtmacgpnlcdapfaaGreat
