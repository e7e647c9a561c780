/- drydockref38.Raise where the code is none: walked. -/
import Derived.Test.YtgfaieppacabjaaGreatMw01
import Derived.Test.YtgfaieppacabjaaGreatMw02
import Derived.Test.YtgfaieppacabjaaGreatMw03
import Derived.Test.YtgfaieppacabjaaGreatMw04
import Derived.Test.YtgfaieppacabjaaGreatMw05
import Derived.Test.YtgfaieppacabjaaGreatMw06
import Derived.Test.YtgfaieppacabjaaGreatMw07
import Derived.Test.YtgfaieppacabjaaGreatMw08
import Derived.Test.YtgfaieppacabjaaGreatMw09
import Derived.Test.YtgfaieppacabjaaGreatMw10
import Derived.Test.YtgfaieppacabjaaGreatMw11
import Derived.Test.YtgfaieppacabjaaGreatMw12
import Derived.Test.YtgfaieppacabjaaGreatMw13
import Derived.Test.YtgfaieppacabjaaGreatMw14
import Derived.Test.YtgfaieppacabjaaGreatMw15
import Derived.Test.YtgfaieppacabjaaGreatMw16
import Derived.Test.YtgfaieppacabjaaGreatMw17
import Derived.Test.YtgfaieppacabjaaGreatMw18
import Derived.Test.YtgfaieppacabjaaGreatMw19
import Derived.Test.YtgfaieppacabjaaGreatMw20
import Derived.Test.YtgfaieppacabjaaGreatMw21
import Derived.Test.YtgfaieppacabjaaGreatMw22
import Derived.BigQuiet
import Derived.Deep.QuietTactic
import Derived.Deep.MidRow
import Derived.Test.YtgfaieppacabjaaGreatMx02
import Derived.Test.YtgfaieppacabjaaGreatMx01
set_option linter.unusedSectionVars false
set_option maxRecDepth 100000
set_option maxHeartbeats 12800000
namespace Go.Proofs.YtgfaieppacabjaaGreat
open Go.RowKit
set_option linter.unusedVariables false
set_option linter.unusedSimpArgs false
theorem cmp02_any(xn xd yn yd:Value) (a b c d:Nat) (w:World) (hxn:LS w (Bl w.heap.size) xn (natL a)) (hxd:LS w (Bl w.heap.size) xd (natL b)) (hyn:LS w (Bl w.heap.size) yn (natL c)) (hyd:LS w (Bl w.heap.size) yd (natL d)) (h0b:0<b) (h0d:0<d) (h1:a * d<4294967296) (h2:c * b<4294967296) :
  Calls Tryz.prog 36 #[.agg #[.bool false,xn,xd],.agg #[.bool false,yn,yd]] w fun e w'=>e=.returned (.tuple #[.int .i64 (cmpI (a * d) (c * b)),.int .i64 0])∧Below w.heap.size w w':=by
 have hV1:=fun(w':World) (hb:Below w.heap.size w w')=>rvalid_any false xn xd a b w' (hxn.below hb) (hxd.below hb) h0b
 have hV2:=fun(w':World) (hb:Below w.heap.size w w')=>rvalid_any false yn yd c d w' (hyn.below hb) (hyd.below hb) h0d
 have hS:=fun(w':World) (hb:Below w.heap.size w w')=>rorder_any xn xd yn yd a b c d w' (hxn.below hb) (hxd.below hb) (hyn.below hb) (hyd.below hb) h0b h0d h1 h2
 obtain⟨An,Nn,cn,rfl⟩:=hxn.frm
 obtain⟨Ad,Nd,cd,rfl⟩:=hxd.frm
 obtain⟨Bn,Mn,dn,rfl⟩:=hyn.frm
 obtain⟨Bd,Md,dd,rfl⟩:=hyd.frm
 obtain⟨r,hr⟩:=zx (cmpI (a * d) (c * b))
 rw[←hr] at hS ⊢
 obtain⟨W1,hW1⟩:=zx ((w.alloc (.cells #[.bool false,.slice An Nn cn,.slice Ad Nd cd] 26)).alloc (.cells #[.bool false,.slice Bn Mn dn,.slice Bd Md dd] 26))
 obtain⟨g1,hg1⟩:=zx w.heap.size
 obtain⟨g2,hg2⟩:=zx (w.heap.size+1)
 have hb1:Below w.heap.size w W1:=by rw[hW1];exact((Below.refl _ _).alloc (Nat.le_refl _) _).alloc (by simp) _
 have k1:W1.heap[g1]?=some (.cells #[.bool false,.slice An Nn cn,.slice Ad Nd cd] 26 (0,0)):=by rw[hW1,hg1];exact(Below.heap_alloc _ _ _ (by simp)).trans (heap_alloc_new _ _)
 have k2:W1.heap[g2]?=some (.cells #[.bool false,.slice Bn Mn dn,.slice Bd Md dd] 26 (0,0)):=by rw[hW1,hg2];exact heap_alloc_at _ _ _ (by simp)
 have l1:=(Array.getElem?_eq_some_iff.1 k1).1
 have l2:=(Array.getElem?_eq_some_iff.1 k2).1
 have HK:=zh (show ∀w',Below W1.heap.size W1 w'→(w'.heap[g1]?=some (.cells #[.bool false,.slice An Nn cn,.slice Ad Nd cd] 26 (0,0))∧w'.heap[g2]?=some (.cells #[.bool false,.slice Bn Mn dn,.slice Bd Md dd] 26 (0,0))∧Below w.heap.size w w') from fun w' hb=>⟨(hb.block g1 l1).trans k1,(hb.block g2 l2).trans k2,hb1.trans (hb.mono hb1.size)⟩)
 have HV1:=zh hV1
 have HV2:=zh hV2
 have HS:=zh hS
 have HW:=zh (And.intro hW1 (And.intro hg1 hg2))
 clear hxn hxd hyn hyd h1 h2 h0b h0d hV1 hV2 hS hb1 hW1 hg1 hg2 k1 k2 l1 l2 hr
 go_enter Tryz.func36,Tryz.ntmps36
 go_upto_region 1 with fail
 rw[←HW.out.1,←HW.out.2.1,show g1+1=g2 by (have:=HW.out;omega)]
 obtain⟨c0,c1,c2⟩:=cells3v (HK.out W1 (Below.refl _ _)).1
 go_wp2_with fail
 refine(HV1.out W1 (HK.out W1 (Below.refl _ _)).2.2).mono ?_
 rintro e w2 ⟨rfl,hb2⟩
 have HB2:=zh hb2
 clear hb2 c0 c1 c2
 obtain⟨c0,c1,c2⟩:=cells3v (HK.out w2 HB2.out).2.1
 go_wp2_with fail
 refine(HV2.out w2 (HK.out w2 HB2.out).2.2).mono ?_
 rintro e w3 ⟨rfl,hb3⟩
 have HB3:=zh (HB2.out.trans (hb3.mono HB2.out.size))
 clear hb3 c0 c1 c2
 obtain⟨c0,c1,c2⟩:=cells3v (HK.out w3 HB3.out).1
 obtain⟨d0,d1,d2⟩:=cells3v (HK.out w3 HB3.out).2.1
 go_wp2_with fail
 refine(HS.out w3 (HK.out w3 HB3.out).2.2).mono ?_
 rintro e w4 ⟨rfl,hb4⟩
 have HB4:=zh (HB3.out.trans (hb4.mono HB3.out.size))
 clear hb4 c0 c1 c2 d0 d1 d2
 go_wp2_with fail
 exact bodyPost_ret (v:=.tuple #[.int .i64 r,.int .i64 0]) (by simp[results,Tryz.results36]) rfl ⟨rfl,(HK.out w4 HB4.out).2.2⟩
theorem below38_any(A:Option Addr) (c:Nat) (w:World):Calls Tryz.prog 84 #[.slice A 1 c] w fun e w'=>e=.returned (.bool true)∧w=w':=by
 go_enter Tryz.func84,Tryz.ntmps84
 go_wp2_with fail
 go_ret
 exact⟨rfl,rfl⟩
theorem code38_no(k m:Int) (w:World) (h1:1≤k) (h2:k≤6) (h3:0≤m) (h4:4<m) :
  Calls Tryz.prog 37 #[.int .i64 k,.int .i64 m] w fun e w'=>e=.returned (.bool false)∧w=w':=by
 have q1:decide (1≤k)=true:=decide_eq_true h1
 have q2:decide (k≤6)=true:=decide_eq_true h2
 have q3:decide (0≤m)=true:=decide_eq_true h3
 have q4:decide (m≤4)=false:=decide_eq_false (by omega)
 clear h1 h2 h3 h4
 go_enter Tryz.func37,Tryz.ntmps37
 go_wp2_with fail
 go_ret
 exact⟨rfl,rfl⟩
theorem target38_any(tn td:Value) (w:World) (htn:LS w (Bl w.heap.size) tn (natL 1)) (htd:LS w (Bl w.heap.size) td (natL 1000)) :
  Calls Tryz.prog 35 #[.agg #[.bool false,tn,td]] w fun e w'=>∃B1 k1 B2 k2,e=.returned (.tuple #[.agg #[.bool false,.slice B1 1 k1,.slice B2 1 k2],.bool true])∧LS w' (Bl w'.heap.size) (.slice B1 1 k1) (natL 1)∧LS w' (Bl w'.heap.size) (.slice B2 1 k2) (natL 1000)∧Below w.heap.size w w':=by
 have HRDC:=zh (fun(w':World) (hb:Below w.heap.size w w')=>rreduce_any tn td 1 1000 w' (htn.below hb) (htd.below hb) (by omega) (by decide))
 obtain⟨At,kt,rfl⟩:=ls_one htn (by omega)
 obtain⟨Au,ku,rfl⟩:=ls_one htd (by omega)
 obtain⟨W1,hW1⟩:=zx ((w.alloc (.cells #[.bool false,.slice At 1 kt,.slice Au 1 ku] 26)).alloc (.cells #[.bool false,.slice none 0 0,.slice none 0 0] 26))
 obtain⟨g0,hg0⟩:=zx w.heap.size
 obtain⟨g1,hg1⟩:=zx (w.heap.size+1)
 have hb1:Below w.heap.size w W1:=by rw[hW1];exact((Below.refl _ _).alloc (Nat.le_refl _) _).alloc (by simp) _
 have i0:W1.heap[g0]?=some (.cells #[.bool false,.slice At 1 kt,.slice Au 1 ku] 26 (0,0)):=by rw[hW1,hg0];exact(Below.heap_alloc _ _ _ (by simp)).trans (heap_alloc_new _ _)
 have i1:W1.heap[g1]?=some (.cells #[.bool false,.slice none 0 0,.slice none 0 0] 26 (0,0)):=by rw[hW1,hg1];exact heap_alloc_at _ _ _ (by simp)
 have l0:=(Array.getElem?_eq_some_iff.1 i0).1
 have l1:=(Array.getElem?_eq_some_iff.1 i1).1
 have HK:=zh (show ∀w',Below W1.heap.size W1 w'→(w'.heap[g0]?=some (.cells #[.bool false,.slice At 1 kt,.slice Au 1 ku] 26 (0,0))∧w'.heap[g1]?=some (.cells #[.bool false,.slice none 0 0,.slice none 0 0] 26 (0,0))∧Below w.heap.size w w') from fun w' hb=>⟨(hb.block g0 l0).trans i0,(hb.block g1 l1).trans i1,hb1.trans (hb.mono hb1.size)⟩)
 have HW:=zh (And.intro hW1 (And.intro hg0 hg1))
 have HG1:=zh (show w.heap.size≤g1 by omega)
 clear htn htd hb1 i0 i1 l0 l1 hW1 hg0 hg1
 go_enter Tryz.func35,Tryz.ntmps35
 go_upto_region 1 with fail
 rw[←HW.out.1,←HW.out.2.1,show g0+1=g1 by (have:=HW.out;omega)]
 obtain⟨c0,c1,c2⟩:=cells3v (HK.out W1 (Below.refl _ _)).1
 go_wp2_with fail
 refine(HRDC.out W1 (HK.out W1 (Below.refl _ _)).2.2).mono ?_
 rintro e w3 ⟨un,um,rfl,hun,hum,hb3⟩
 obtain⟨B1,k1,rfl⟩:=ls_one hun (by omega)
 obtain⟨B2,k2,rfl⟩:=ls_one hum (by omega)
 have HB3:=zh hb3
 have HUN:=zh (And.intro hun hum)
 clear hun hum hb3 c0 c1 c2
 go_upto_region 2 with fail
 obtain⟨W4,hW4⟩:=zx (w3.alloc (.cells #[.bool false,.slice B1 1 k1,.slice B2 1 k2] 26))
 obtain⟨g4,hg4⟩:=zx w3.heap.size
 rw[←hW4,←hg4]
 have h4k:W4.heap[g4]?=some (.cells #[.bool false,.slice B1 1 k1,.slice B2 1 k2] 26 (0,0)):=by rw[hg4];exact(new3 hW4).1
 have hb4:=(new3 hW4).2
 have g4l:g4<W4.heap.size:=(Array.getElem?_eq_some_iff.1 h4k).1
 have HB4:=zh (HB3.out.trans (hb4.mono HB3.out.size))
 have HU4:=zh (show ∀w',Below W4.heap.size W4 w'→w'.heap[g4]?=some (.cells #[.bool false,.slice B1 1 k1,.slice B2 1 k2] 26 (0,0))∧LS w' (Fr W1.heap.size w'.heap.size) (.slice B1 1 k1) (natL 1)∧LS w' (Fr W1.heap.size w'.heap.size) (.slice B2 1 k2) (natL 1000) from fun w' hb=>⟨(hb.block g4 g4l).trans h4k,HUN.out.1.bel (hb4.trans (hb.mono hb4.size)),HUN.out.2.bel (hb4.trans (hb.mono hb4.size))⟩)
 clear hW4 hg4 h4k hb4 g4l HUN HB3
 obtain⟨d0,d1,d2⟩:=cells3v (HU4.out W4 (Below.refl _ _)).1
 go_wp2_with fail
 refine(below38_any B1 k1 W4).mono ?_
 rintro e w' ⟨rfl,rfl⟩
 go_wp2_with fail
 refine(below38_any B2 k2 W4).mono ?_
 rintro e w' ⟨rfl,rfl⟩
 go_wp2_with fail
 refine(rfrac1_any 1 W4 (by omega)).mono ?_
 rintro e w5 ⟨on,od,rfl,hon,hod,hb5⟩
 obtain⟨B5,k5,rfl⟩:=ls_one hon (by omega)
 obtain⟨B6,k6,rfl⟩:=ls_one hod (by omega)
 have HB45:=zh hb5
 have HON:=zh (And.intro hon hod)
 clear hon hod hb5 d0 d1 d2
 go_upto_region 5 with fail
 obtain⟨W6,hW6⟩:=zx (w5.alloc (.cells #[.bool false,.slice B5 1 k5,.slice B6 1 k6] 26))
 obtain⟨g6,hg6⟩:=zx w5.heap.size
 rw[←hW6,←hg6]
 have h6k:W6.heap[g6]?=some (.cells #[.bool false,.slice B5 1 k5,.slice B6 1 k6] 26 (0,0)):=by rw[hg6];exact(new3 hW6).1
 have hb6:=(new3 hW6).2
 have h46:Below W4.heap.size W4 W6:=HB45.out.trans (hb6.mono HB45.out.size)
 have HB46:=zh h46
 have hl5:LS W6 (Bl W6.heap.size) (.slice B5 1 k5) (natL 1)∧LS W6 (Bl W6.heap.size) (.slice B6 1 k6) (natL 1):=⟨(HON.out.1.mono (R':=Bl w5.heap.size) (fun b hb=>hb.2)).below hb6,(HON.out.2.mono (R':=Bl w5.heap.size) (fun b hb=>hb.2)).below hb6⟩
 have HC:=zh (cmp02_any _ _ _ _ 1 1000 1 1 W6 ((HU4.out W6 h46).2.1.mono (fun b hb=>hb.2)) ((HU4.out W6 h46).2.2.mono (fun b hb=>hb.2)) hl5.1 hl5.2 (by omega) (by omega) (by omega) (by omega))
 obtain⟨d0,d1,d2⟩:=cells3v (HU4.out W6 h46).1
 obtain⟨c0,c1,c2⟩:=cells3v h6k
 clear hW6 hg6 h6k hb6 h46 hl5
 go_wp2_with fail
 refine HC.out.mono ?_
 rintro e w7 ⟨rfl,hb7⟩
 rw[show cmpI (1 * 1) (1 * 1000) = -1 from rfl]
 have HB7:=zh (HB46.out.trans (hb7.mono HB46.out.size))
 clear hb7 d0 d1 d2 c0 c1 c2 HC
 have HTH:=zh (show w7.there g1 0 3 from there_new (HK.out w7 (HB4.out.trans (HB7.out.mono HB4.out.size))).2.1 (Nat.le_refl 3))
 obtain⟨d0,d1,d2⟩:=cells3v (HU4.out w7 HB7.out).1
 go_upto_region 6 with fail
 refine wp_region_lit ?_
 refine wpList_plain rfl (fun K hK=>?_)
 go_simp
 refine hK _ _ ?_
 clear hK
 (try simp only[Act.put,z1,z2,z3])
 refine wpList_plain rfl (fun K hK=>?_)
 go_simp
 refine hK _ _ ?_
 clear hK
 (try simp only[Act.put,z1,z2,z3])
 refine wpList_plain rfl (fun K hK=>?_)
 go_simp
 refine hK _ _ ?_
 clear hK
 (try simp only[Act.put,z1,z2,z3])
 clear d0 d1 d2
 refine wpList_store_mid rfl 26 (.tmp 2) (.tmp 44) rfl g1 0 #[.bool false,.slice B1 1 k1,.slice B2 1 k2] (by rfl) (by rfl) HTH.out size_frac7 (by simp[Value.oneCell']) ?_
 (try simp only[Act.put,z1,z2,z3])
 have hgr:=World.rangeAt_setCells_same _ _ _ [.bool false,.slice B1 1 k1,.slice B2 1 k2] HTH.out
 have hb17:=(HK.out w7 (HB4.out.trans (HB7.out.mono HB4.out.size))).2.2
 have hbw:Below w.heap.size w (World.setCells w7 g1 0 [.bool false,.slice B1 1 k1,.slice B2 1 k2]):=below_setCellsV HG1.out _ _ _ hb17
 have hkp:∀b,b≠g1→(World.setCells w7 g1 0 [.bool false,.slice B1 1 k1,.slice B2 1 k2]).heap[b]?=w7.heap[b]?:=fun b hb=>setCells_other _ _ _ _ hb
 have hsz:=setCells_sizeK (g:=g1) [.bool false,.slice B1 1 k1,.slice B2 1 k2] 0 w7
 obtain⟨W8,hW8⟩:=zx (World.setCells w7 g1 0 [.bool false,.slice B1 1 k1,.slice B2 1 k2])
 rw[←hW8] at hgr hbw hkp hsz ⊢
 clear hW8
 have hgl:g1<W1.heap.size:=(Array.getElem?_eq_some_iff.1 (HK.out W1 (Below.refl _ _)).2.1).1
 have hkk:Kept (Fr W1.heap.size w7.heap.size) w7 W8:=fun b hb=>hkp b (by have:=hb.1;omega)
 have hl8:LS W8 (Bl W8.heap.size) (.slice B1 1 k1) (natL 1)∧LS W8 (Bl W8.heap.size) (.slice B2 1 k2) (natL 1000):=⟨((HU4.out w7 HB7.out).2.1.keep hkk).mono (fun b hb=>by unfold Bl;rw[hsz];exact hb.2),((HU4.out w7 HB7.out).2.2.keep hkk).mono (fun b hb=>by unfold Bl;rw[hsz];exact hb.2)⟩
 have HGR:=zh hgr
 have HBW:=zh hbw
 have HL8:=zh hl8
 clear hgr hbw hkp hsz hgl hkk hl8 hb17
 go_wp2_with fail
 have hld:=run_loadVar_mid (P:=Tryz.prog) W8 g1 0 26 _ _ HGR.out Tryz.underlying26 rfl size_frac7
 exact bodyPost_ret (v:=.tuple #[.agg #[.bool false,.slice B1 1 k1,.slice B2 1 k2],.bool true]) (by simp[results,Tryz.results35,asAddr,hld]) rfl ⟨_,_,_,_,rfl,HL8.out.1,HL8.out.2,HBW.out⟩
theorem rraise_no(N:Nat) (hN:N≤12) (vl vm vd vv vp vo tn td:Value) (F:FltM) (pi:Nat) (x:PolM) (m q:Int) (w:World) (hf:FleetS w (Bl w.heap.size) vl vm vd vv vp vo F) (hok:FleetOk N F) (hx:F.pols[pi]?=some x) (hm:x.m≤m) (hm6:m≤6) (hm4:4<m) (hq1:x.k≤q) (hq2:q≤x.k+m)
  (htn:LS w (Bl w.heap.size) tn (natL 1)) (htd:LS w (Bl w.heap.size) td (natL 1000)) :
  Calls Tryz.prog 12 #[.agg #[.int .i64 F.ext,vl,vm,vd,vv,vp,vo],.int .i64 (pi:Int),.int .i64 m,.int .i64 q,.agg #[.bool false,tn,td]] w fun e w'=>e=.returned (.tuple #[.agg #[.int .i64 0,.slice none 0 0,.slice none 0 0,.slice none 0 0,.slice none 0 0,.slice none 0 0,.slice none 0 0],.int .i64 5])∧Below w.heap.size w w':=by
 obtain⟨Al,nl,cl,rfl⟩:=hf.1.form3
 obtain⟨Am,nm,cm,rfl⟩:=hf.2.1.form3
 obtain⟨Ad,nd,cd,rfl⟩:=hf.2.2.1.form3
 obtain⟨Av,nv,cv,rfl⟩:=hf.2.2.2.1.form3
 obtain⟨Ap,cp,hvp,-⟩:=hf.2.2.2.2.1.form
 subst hvp
 obtain⟨Ao,no,co,rfl⟩:=hf.2.2.2.2.2.form3
 obtain⟨At,kt,rfl⟩:=ls_one htn (by omega)
 obtain⟨Au,ku,rfl⟩:=ls_one htd (by omega)
 have hpl:=(List.getElem?_eq_some_iff.1 hx).1
 obtain⟨pb,pof,cs,hAp,hRp,hcl,hc,hK⟩:=hf.2.2.2.2.1.at_ (k:=pi) hpl
 rw[(List.getElem?_eq_some_iff.1 hx).2] at hK
 subst hAp
 obtain⟨v1,v2,v3,v4,v5,v6,rfl,i1,i2,i3,i4,i5,i6⟩:=hK
 obtain⟨-,-,hw⟩:=hok.pols pi x hx
 obtain⟨hk1,hm0,hmx,-,-,-,-,-,-,-,hrep,htg,-⟩:=hw
 rw[htg] at hc i3 i4
 obtain⟨A1,N1,h1,rfl⟩:∃A n c,v1=.slice A n c:=by obtain⟨A,c,e,-⟩:=i1.1;exact⟨A,_,c,e⟩
 obtain⟨A2,N2,h2,rfl⟩:=i2.form3
 obtain⟨A3,N3,h3,rfl⟩:=i3.frm
 obtain⟨A4,N4,h4,rfl⟩:=i4.frm
 obtain⟨A5,N5,h5,rfl⟩:=i5.frm
 obtain⟨A6,N6,h6,rfl⟩:=i6.frm
 obtain⟨NP,hNP⟩:=zx F.pols.length
 obtain⟨EX,hEX⟩:=zx F.ext
 obtain⟨K0,hK0⟩:=zx x.k
 obtain⟨M0,hM0⟩:=zx x.m
 obtain⟨Q0,hQ0⟩:=zx x.q
 rw[←hK0,←hM0,←hQ0] at hc
 rw[←hK0] at hk1 hq1 hq2
 rw[←hM0] at hm hm0 hmx hrep
 have hrg:w.rangeAt pb (pof+pi * 17) [.string x.name,.int .i64 K0,.int .i64 M0,.int .i64 Q0,.int .i64 0,.int .i64 0,.int .i64 0,.int .i64 x.s3,.int .i64 x.s4,.slice A1 N1 h1,.slice A2 N2 h2,.bool false,.slice A3 N3 h3,.slice A4 N4 h4,.bool x.horizon.neg,.slice A5 N5 h5,.slice A6 N6 h6]:=fun i u hu=>hc i u hu
 obtain⟨W1,hW1⟩:=zx (((w.alloc (.cells #[.int .i64 EX,.slice Al nl cl,.slice Am nm cm,.slice Ad nd cd,.slice Av nv cv,.slice (some ⟨pb,pof,none⟩) NP cp,.slice Ao no co] 35)).alloc (.cells #[.bool false,.slice At 1 kt,.slice Au 1 ku] 26)).alloc (.cells #[.int .i64 0,.slice none 0 0,.slice none 0 0,.slice none 0 0,.slice none 0 0,.slice none 0 0,.slice none 0 0] 35))
 obtain⟨gF,hgF⟩:=zx w.heap.size
 obtain⟨gT,hgT⟩:=zx (w.heap.size+1)
 obtain⟨gR,hgR⟩:=zx (w.heap.size+2)
 have hb1:Below w.heap.size w W1:=by rw[hW1];exact(((Below.refl _ _).alloc (Nat.le_refl _) _).alloc (by simp) _).alloc (by simp;omega) _
 have hs1:W1.heap.size=w.heap.size+3:=by rw[hW1];simp
 have hfk:W1.heap[gF]?=some (.cells #[.int .i64 EX,.slice Al nl cl,.slice Am nm cm,.slice Ad nd cd,.slice Av nv cv,.slice (some ⟨pb,pof,none⟩) NP cp,.slice Ao no co] 35 (0,0)):=by
  rw[hW1,hgF]
  exact(Below.heap_alloc _ _ _ (by simp;omega)).trans ((Below.heap_alloc _ _ _ (by simp)).trans (heap_alloc_new _ _))
 have htk:W1.heap[gT]?=some (.cells #[.bool false,.slice At 1 kt,.slice Au 1 ku] 26 (0,0)):=by
  rw[hW1,hgT]
  exact(Below.heap_alloc _ _ _ (by simp)).trans (heap_alloc_at _ _ _ (by simp))
 have hrk:W1.heap[gR]?=some (.cells #[.int .i64 0,.slice none 0 0,.slice none 0 0,.slice none 0 0,.slice none 0 0,.slice none 0 0,.slice none 0 0] 35 (0,0)):=by rw[hW1,hgR];exact heap_alloc_at _ _ _ (by simp)
 have HOW:=fun(w':World) (hb:Below W1.heap.size W1 w')=>hb1.trans (hb.mono hb1.size)
 have HBK:=zh (show ∀w',Below W1.heap.size W1 w'→Below w.heap.size w w' from HOW)
 have HF7:=zh (show ∀w',Below W1.heap.size W1 w'→w'.heap[gF]?=some (.cells #[.int .i64 EX,.slice Al nl cl,.slice Am nm cm,.slice Ad nd cd,.slice Av nv cv,.slice (some ⟨pb,pof,none⟩) NP cp,.slice Ao no co] 35 (0,0)) from fun w' hb=>(hb.block gF (by omega)).trans hfk)
 have HT3:=zh (show ∀w',Below W1.heap.size W1 w'→w'.heap[gT]?=some (.cells #[.bool false,.slice At 1 kt,.slice Au 1 ku] 26 (0,0)) from fun w' hb=>(hb.block gT (by omega)).trans htk)
 have HR7:=zh (show ∀w',Below W1.heap.size W1 w'→w'.heap[gR]?=some (.cells #[.int .i64 0,.slice none 0 0,.slice none 0 0,.slice none 0 0,.slice none 0 0,.slice none 0 0,.slice none 0 0] 35 (0,0)) from fun w' hb=>(hb.block gR (by omega)).trans hrk)
 have HRG:=zh (show ∀w',Below W1.heap.size W1 w'→w'.rangeAt pb (pof+pi * 17) [.string x.name,.int .i64 K0,.int .i64 M0,.int .i64 Q0,.int .i64 0,.int .i64 0,.int .i64 0,.int .i64 x.s3,.int .i64 x.s4,.slice A1 N1 h1,.slice A2 N2 h2,.bool false,.slice A3 N3 h3,.slice A4 N4 h4,.bool x.horizon.neg,.slice A5 N5 h5,.slice A6 N6 h6] from fun w' hb=>range_same hrg ((HOW w' hb).block pb hRp))
 have HFS:=zh (show ∀w',Below W1.heap.size W1 w'→FleetS w' (Bl w'.heap.size) (.slice Al nl cl) (.slice Am nm cm) (.slice Ad nd cd) (.slice Av nv cv) (.slice (some ⟨pb,pof,none⟩) F.pols.length cp) (.slice Ao no co) F from fun w' hb=>hf.below (HOW w' hb))
 have HFZ:=zh (show ∀w',Below W1.heap.size W1 w'→FleetS w' (BlZ (fun b=>b=gF∨b=gR) w'.heap.size) (.slice Al nl cl) (.slice Am nm cm) (.slice Ad nd cd) (.slice Av nv cv) (.slice (some ⟨pb,pof,none⟩) F.pols.length cp) (.slice Ao no co) F from fun w' hb=>(hf.keep (fun b hb'=>(HOW w' hb).block b hb')).mono (fun b hb'=>⟨Nat.lt_of_lt_of_le hb' (HOW w' hb).size,fun e=>by unfold Bl at hb';omega⟩))
 have HTN:=zh (show ∀w',Below W1.heap.size W1 w'→LS w' (Bl w'.heap.size) (.slice At 1 kt) (natL 1)∧LS w' (Bl w'.heap.size) (.slice Au 1 ku) (natL 1000) from fun w' hb=>⟨htn.below (HOW w' hb),htd.below (HOW w' hb)⟩)
 have HPT:=zh (show ∀w',Below W1.heap.size W1 w'→LS w' (Bl w'.heap.size) (.slice A3 N3 h3) (natL 1)∧LS w' (Bl w'.heap.size) (.slice A4 N4 h4) (natL 1000) from fun w' hb=>⟨i3.below (HOW w' hb),i4.below (HOW w' hb)⟩)
 have hV:=fun(w':World) (hb:Below W1.heap.size W1 w')=>rvalidate_k N hN _ _ _ _ _ _ F w' (HFS.out w' hb) hok
 have HRDC:=zh (fun(w':World) (hb:Below W1.heap.size W1 w')=>target38_any _ _ w' (HTN.out w' hb).1 (HTN.out w' hb).2)
 rw[←hEX,←hNP] at hV
 have HV:=zh hV
 clear hV
 have HNP:=zh hNP
 have HEX:=zh hEX
 have HOK:=zh hok
 have HX:=zh hx
 have HREP:=zh hrep
 have HTG:=zh htg
 have HKM:=zh (show K0=x.k∧M0=x.m∧Q0=x.q∧(K0=1∨K0=2)∧0≤M0∧M0≤4∧M0≤m∧m≤6∧K0≤q∧q≤K0+m from⟨hK0,hM0,hQ0,hk1,hm0,hmx,hm,hm6,hq1,hq2⟩)
 have HPL:=zh (show pi<NP∧NP≤2∧N≤12 from⟨by omega,by have:=hok.polN;omega,hN⟩)
 have HM4:=zh hm4
 have HW1:=zh hW1
 have HG:=zh (show gF=w.heap.size∧gT=w.heap.size+1∧gR=w.heap.size+2∧W1.heap.size=w.heap.size+3 from⟨hgF,hgT,hgR,hs1⟩)
 rw[←hEX,←hNP]
 clear hf hok hx hm hm6 hm4 hq1 hq2 htn htd hpl hRp hcl hc i1 i2 i3 i4 i5 i6 hk1 hm0 hmx hrep htg hNP hEX hK0 hM0 hQ0 hrg hW1 hgF hgT hgR hb1 hs1 hfk htk hrk HOW hN
 have j1:decide ((pi:Int)<0)=false:=decide_eq_false (by omega)
 have j2:decide ((NP:Int)≤(pi:Int))=false:=decide_eq_false (by have:=HPL.out;omega)
 have j3:decide (m<M0)=false:=decide_eq_false (by have:=HKM.out;omega)
 have j4:decide (q<K0)=false:=decide_eq_false (by have:=HKM.out;omega)
 have j5:IntKind.i64.wrap (K0+m)=K0+m:=IntWalk.i64_in _ (by have:=HKM.out;omega)
 have j6:decide (K0+m<q)=false:=decide_eq_false (by have:=HKM.out;omega)
 have j7:(pi:Int)<(NP:Int):=by have:=HPL.out;omega
 go_enter Tryz.func12,Tryz.ntmps12
 go_upto_region 1 with fail
 rw[←HW1.out,←HG.out.1,show gF+1+1=gR by (have:=HG.out;omega),show gF+1=gT by (have:=HG.out;omega)]
 obtain⟨d0,d1,d2⟩:=cells3v (HT3.out W1 (Below.refl _ _))
 go_wp2_with fail
 refine(HRDC.out W1 (Below.refl _ _)).mono ?_
 rintro e w3 ⟨B1,k1,B2,k2,rfl,hun,hum,hb3⟩
 have HB3:=zh hb3
 have HUN:=zh (And.intro hun hum)
 clear hun hum hb3 d0 d1 d2 HRDC
 go_upto_region 2 with fail
 obtain⟨W4,hW4⟩:=zx (w3.alloc (.cells #[.bool false,.slice B1 1 k1,.slice B2 1 k2] 26))
 obtain⟨g4,hg4⟩:=zx w3.heap.size
 rw[←hW4,←hg4]
 have h4k:W4.heap[g4]?=some (.cells #[.bool false,.slice B1 1 k1,.slice B2 1 k2] 26 (0,0)):=by rw[hg4];exact(new3 hW4).1
 have hb4:=(new3 hW4).2
 have g4l:g4<W4.heap.size:=(Array.getElem?_eq_some_iff.1 h4k).1
 have HB4:=zh (HB3.out.trans (hb4.mono HB3.out.size))
 have HU4:=zh (show ∀w',Below W4.heap.size W4 w'→w'.heap[g4]?=some (.cells #[.bool false,.slice B1 1 k1,.slice B2 1 k2] 26 (0,0))∧LS w' (Bl w'.heap.size) (.slice B1 1 k1) (natL 1)∧LS w' (Bl w'.heap.size) (.slice B2 1 k2) (natL 1000)∧Below W1.heap.size W1 w' from fun w' hb=>⟨(hb.block g4 g4l).trans h4k,HUN.out.1.below (hb4.trans (hb.mono hb4.size)),HUN.out.2.below (hb4.trans (hb.mono hb4.size)),HB4.out.trans (hb.mono HB4.out.size)⟩)
 clear hW4 hg4 h4k hb4 g4l HUN HB3
 obtain⟨c0,c1,c2,c3,c4,c5,c6⟩:=cells7 (HF7.out W4 HB4.out)
 go_wp2_with fail
 refine(HV.out W4 HB4.out).mono ?_
 rintro e w11 ⟨rfl,hb11⟩
 have HB11:=zh hb11
 clear hb11 c0 c1 c2 c3 c4 c5 c6
 obtain⟨c0,c1,c2,c3,c4,c5,c6⟩:=cells7 (HF7.out w11 (HU4.out w11 HB11.out).2.2.2)
 go_upto_region 6 with fail
 refine wp_region_lit ?_
 refine wpList_plain rfl (fun K hK=>?_)
 go_simp
 refine hK _ _ ?_
 clear hK
 (try simp only[Act.put,z1,z2,z3])
 refine wpList_plain rfl (fun K hK=>?_)
 go_simp
 refine hK _ _ ?_
 clear hK
 (try simp only[Act.put,z1,z2,z3])
 refine wpList_plain rfl (fun K hK=>?_)
 go_simp
 refine hK _ _ ?_
 clear hK
 (try simp only[Act.put,z1,z2,z3])
 refine wpList_plain rfl (fun K hK=>?_)
 go_simp
 refine hK _ _ ?_
 clear hK
 (try simp only[Act.put,z1,z2,z3])
 refine wpList_load_mid rfl 55 (.tmp 44) rfl pb (pof+pi * 17) (by rfl) [.string x.name,.int .i64 K0,.int .i64 M0,.int .i64 Q0,.int .i64 0,.int .i64 0,.int .i64 0,.int .i64 x.s3,.int .i64 x.s4,.slice A1 N1 h1,.slice A2 N2 h2,.bool false,.slice A3 N3 h3,.slice A4 N4 h4,.bool x.horizon.neg,.slice A5 N5 h5,.slice A6 N6 h6] _ (HRG.out w11 (HU4.out w11 HB11.out).2.2.2) Tryz.underlying55 rfl size_polE ?_
 (try simp only[Act.put,z1,z2,z3])
 refine wpList_plain rfl (fun K hK=>?_)
 go_simp
 refine hK _ _ ?_
 clear hK
 (try simp only[Act.put,z1,z2,z3])
 obtain⟨W12,hW12⟩:=zx (w11.alloc (.cells #[.string ⟨#[]⟩,.int .i64 0,.int .i64 0,.int .i64 0,.int .i64 0,.int .i64 0,.int .i64 0,.int .i64 0,.int .i64 0,.slice none 0 0,.slice none 0 0,.bool false,.slice none 0 0,.slice none 0 0,.bool false,.slice none 0 0,.slice none 0 0] 55))
 obtain⟨gY,hgY⟩:=zx w11.heap.size
 rw[←hW12,←hgY]
 have hb12:Below w11.heap.size w11 W12:=by rw[hW12];exact(Below.refl _ _).alloc (Nat.le_refl _) _
 have hpk:W12.heap[gY]?=some (.cells #[.string ⟨#[]⟩,.int .i64 0,.int .i64 0,.int .i64 0,.int .i64 0,.int .i64 0,.int .i64 0,.int .i64 0,.int .i64 0,.slice none 0 0,.slice none 0 0,.bool false,.slice none 0 0,.slice none 0 0,.bool false,.slice none 0 0,.slice none 0 0] 55 (0,0)):=by rw[hW12,hgY];exact heap_alloc_new _ _
 have hth:W12.there gY 0 17:=there_new hpk (Nat.le_refl 17)
 refine wpList_store_mid rfl 55 (.tmp 14) (.tmp 45) rfl gY 0 #[.string x.name,.int .i64 K0,.int .i64 M0,.int .i64 Q0,.int .i64 0,.int .i64 0,.int .i64 0,.int .i64 x.s3,.int .i64 x.s4,.slice A1 N1 h1,.slice A2 N2 h2,.bool false,.slice A3 N3 h3,.slice A4 N4 h4,.bool x.horizon.neg,.slice A5 N5 h5,.slice A6 N6 h6] (by rfl) (by rfl) hth size_polE (by simp[Value.oneCell']) ?_
 (try simp only[Act.put,z1,z2,z3])
 have hr13:=World.rangeAt_setCells_same _ _ _ [.string x.name,.int .i64 K0,.int .i64 M0,.int .i64 Q0,.int .i64 0,.int .i64 0,.int .i64 0,.int .i64 x.s3,.int .i64 x.s4,.slice A1 N1 h1,.slice A2 N2 h2,.bool false,.slice A3 N3 h3,.slice A4 N4 h4,.bool x.horizon.neg,.slice A5 N5 h5,.slice A6 N6 h6] hth
 have hb13:Below w11.heap.size w11 (World.setCells W12 gY 0 [.string x.name,.int .i64 K0,.int .i64 M0,.int .i64 Q0,.int .i64 0,.int .i64 0,.int .i64 0,.int .i64 x.s3,.int .i64 x.s4,.slice A1 N1 h1,.slice A2 N2 h2,.bool false,.slice A3 N3 h3,.slice A4 N4 h4,.bool x.horizon.neg,.slice A5 N5 h5,.slice A6 N6 h6]):=below_setCellsV (by omega) _ _ _ hb12
 have hs13:=setCells_sizeK (g:=gY) [.string x.name,.int .i64 K0,.int .i64 M0,.int .i64 Q0,.int .i64 0,.int .i64 0,.int .i64 0,.int .i64 x.s3,.int .i64 x.s4,.slice A1 N1 h1,.slice A2 N2 h2,.bool false,.slice A3 N3 h3,.slice A4 N4 h4,.bool x.horizon.neg,.slice A5 N5 h5,.slice A6 N6 h6] 0 W12
 obtain⟨W13,hW13⟩:=zx (World.setCells W12 gY 0 [.string x.name,.int .i64 K0,.int .i64 M0,.int .i64 Q0,.int .i64 0,.int .i64 0,.int .i64 0,.int .i64 x.s3,.int .i64 x.s4,.slice A1 N1 h1,.slice A2 N2 h2,.bool false,.slice A3 N3 h3,.slice A4 N4 h4,.bool x.horizon.neg,.slice A5 N5 h5,.slice A6 N6 h6])
 rw[←hW13] at hr13 hb13 hs13 ⊢
 have hgl:gY<W13.heap.size:=by rw[hs13,hW12,hgY];simp
 have HB13:=zh (HB11.out.trans (hb13.mono HB11.out.size))
 have HR13:=zh (show ∀w',Below W13.heap.size W13 w'→w'.rangeAt gY 0 [.string x.name,.int .i64 K0,.int .i64 M0,.int .i64 Q0,.int .i64 0,.int .i64 0,.int .i64 0,.int .i64 x.s3,.int .i64 x.s4,.slice A1 N1 h1,.slice A2 N2 h2,.bool false,.slice A3 N3 h3,.slice A4 N4 h4,.bool x.horizon.neg,.slice A5 N5 h5,.slice A6 N6 h6] from fun w' hb=>range_same hr13 (hb.block gY hgl))
 have e11:W13.cell? ⟨gY,11,none⟩=some (.bool false):=hr13 11 _ rfl
 have e12:W13.cell? ⟨gY,12,none⟩=some (.slice A3 N3 h3):=hr13 12 _ rfl
 have e13:W13.cell? ⟨gY,13,none⟩=some (.slice A4 N4 h4):=hr13 13 _ rfl
 clear hb12 hpk hth hr13 hb13 hs13 hW13 hgl hW12 hgY c0 c1 c2 c3 c4 c5 c6
 obtain⟨d0,d1,d2⟩:=cells3v (HU4.out W13 HB13.out).1
 have HCM:=zh (cmp02_any (.slice B1 1 k1) (.slice B2 1 k2) (.slice A3 N3 h3) (.slice A4 N4 h4) 1 1000 1 1000 W13 (HU4.out W13 HB13.out).2.1 (HU4.out W13 HB13.out).2.2.1 (HPT.out W13 (HU4.out W13 HB13.out).2.2.2).1 (HPT.out W13 (HU4.out W13 HB13.out).2.2.2).2 (by omega) (by omega) (by omega) (by omega))
 go_wp2_with fail
 refine HCM.out.mono ?_
 rintro e w14 ⟨rfl,hb14⟩
 rw[show cmpI (1 * 1000) (1 * 1000)=0 from rfl]
 have HB14:=zh (HB13.out.trans (hb14.mono HB13.out.size))
 have HX14:=zh hb14
 clear hb14 d0 d1 d2 e11 e12 e13 HCM
 have e1:w14.cell? ⟨gY,1,none⟩=some (.int .i64 K0):=HR13.out w14 HX14.out 1 _ rfl
 have e2:w14.cell? ⟨gY,2,none⟩=some (.int .i64 M0):=HR13.out w14 HX14.out 2 _ rfl
 have HCO:=zh (code38_no K0 m w14 (by have:=HKM.out;omega) (by have:=HKM.out;omega) (by have:=HKM.out;omega) HM4.out)
 go_upto_region 8 with fail
 go_wp2_with fail
 refine HCO.out.mono ?_
 rintro e w' ⟨rfl,rfl⟩
 have HTH:=zh (show w14.there gR 0 7 from there_new (HR7.out w14 (HU4.out w14 HB14.out).2.2.2) (Nat.le_refl 7))
 clear HCO
 go_upto_region 9 with fail
 clear e1 e2
 refine wp_region_lit ?_
 refine wpList_plain rfl (fun K hK=>?_)
 go_simp
 refine hK _ _ ?_
 clear hK
 (try simp only[Act.put,z1,z2,z3])
 refine wpList_store_mid rfl 35 (.tmp 10) (.tmp 82) rfl gR 0 #[.int .i64 0,.slice none 0 0,.slice none 0 0,.slice none 0 0,.slice none 0 0,.slice none 0 0,.slice none 0 0] (by rfl) (by rfl) HTH.out size_fltE (by simp[Value.oneCell']) ?_
 (try simp only[Act.put,z1,z2,z3])
 have hgr:=World.rangeAt_setCells_same _ _ _ [.int .i64 0,.slice none 0 0,.slice none 0 0,.slice none 0 0,.slice none 0 0,.slice none 0 0,.slice none 0 0] HTH.out
 have hbw:Below w.heap.size w (World.setCells w14 gR 0 [.int .i64 0,.slice none 0 0,.slice none 0 0,.slice none 0 0,.slice none 0 0,.slice none 0 0,.slice none 0 0]):=below_setCellsV (by have:=HG.out;omega) _ _ _ (HBK.out w14 (HU4.out w14 HB14.out).2.2.2)
 obtain⟨W15,hW15⟩:=zx (World.setCells w14 gR 0 [.int .i64 0,.slice none 0 0,.slice none 0 0,.slice none 0 0,.slice none 0 0,.slice none 0 0,.slice none 0 0])
 rw[←hW15] at hgr hbw ⊢
 clear hW15
 have HGR:=zh hgr
 have HBW:=zh hbw
 clear hgr hbw
 go_wp2_with fail
 have hld:=run_loadVar_mid (P:=Tryz.prog) W15 gR 0 35 _ _ HGR.out Tryz.underlying35 rfl size_fltE
 exact bodyPost_ret (v:=.tuple #[.agg #[.int .i64 0,.slice none 0 0,.slice none 0 0,.slice none 0 0,.slice none 0 0,.slice none 0 0,.slice none 0 0],.int .i64 5]) (by simp[results,Tryz.results12,asAddr,hld]) rfl ⟨rfl,HBW.out⟩
theorem fvalidate_zero(w:World):Calls Tryz.prog 16 #[.agg #[.int .i64 0,.slice none 0 0,.slice none 0 0,.slice none 0 0,.slice none 0 0,.slice none 0 0,.slice none 0 0]] w fun e w'=>e=.returned (.int .i64 1)∧Below w.heap.size w w':=by
 obtain⟨W1,hW1⟩:=zx (w.alloc (.cells #[.int .i64 0,.slice none 0 0,.slice none 0 0,.slice none 0 0,.slice none 0 0,.slice none 0 0,.slice none 0 0] 35))
 obtain⟨g0,hg0⟩:=zx w.heap.size
 have hk:=(boxed7 hW1).1
 have hb1:=(boxed7 hW1).2
 rw[←hg0] at hk
 have HK:=zh hk
 have HB:=zh hb1
 have HW:=zh (And.intro hW1 hg0)
 have hin:=fin_any 0 1 4 W1
 rw[show decide ((1:Int)≤0∧(0:Int)≤4)=false from rfl] at hin
 have HIN:=zh hin
 clear hk hb1 hW1 hg0 hin
 go_enter Tryz.func16,Tryz.ntmps16
 go_upto_region 1 with fail
 rw[←HW.out.1,←HW.out.2]
 obtain⟨c0,c1,c2,c3,c4,c5,c6⟩:=cells7 HK.out
 go_wp2_with fail
 refine HIN.out.mono ?_
 rintro e w' ⟨rfl,rfl⟩
 go_wp2_with fail
 go_ret
 exact⟨rfl,HB.out⟩
theorem pextend_zero(ext:Int) (Bl' Bm Bd Bv Bp Bo AL:Option Addr) (ml kl mm km md kd mv kv mp kp mo ko nL cL:Nat) (w:World) :
  Calls Tryz.prog 18 #[.agg #[.int .i64 0,.slice none 0 0,.slice none 0 0,.slice none 0 0,.slice none 0 0,.slice none 0 0,.slice none 0 0],.agg #[.int .i64 ext,.slice Bl' ml kl,.slice Bm mm km,.slice Bd md kd,.slice Bv mv kv,.slice Bp mp kp,.slice Bo mo ko],.slice AL nL cL] w fun e w'=>e=.returned (.tuple #[.slice none 0 0,.int .i64 1])∧Below w.heap.size w w':=by
 obtain⟨EG,hEG⟩:=zx ext
 rw[←hEG]
 obtain⟨W1,hW1⟩:=zx ((w.alloc (.cells #[.int .i64 0,.slice none 0 0,.slice none 0 0,.slice none 0 0,.slice none 0 0,.slice none 0 0,.slice none 0 0] 35)).alloc (.cells #[.int .i64 EG,.slice Bl' ml kl,.slice Bm mm km,.slice Bd md kd,.slice Bv mv kv,.slice Bp mp kp,.slice Bo mo ko] 35))
 obtain⟨gA,hgA⟩:=zx w.heap.size
 obtain⟨gB,hgB⟩:=zx (w.heap.size+1)
 have hb1:Below w.heap.size w W1:=by rw[hW1];exact((Below.refl _ _).alloc (Nat.le_refl _) _).alloc (by simp) _
 have i1:W1.heap[gA]?=some (.cells #[.int .i64 0,.slice none 0 0,.slice none 0 0,.slice none 0 0,.slice none 0 0,.slice none 0 0,.slice none 0 0] 35 (0,0)):=by rw[hW1,hgA];exact(Below.heap_alloc _ _ _ (by simp)).trans (heap_alloc_new _ _)
 have HK:=zh i1
 have HB:=zh hb1
 have HW:=zh (And.intro hW1 (And.intro hgA hgB))
 clear hW1 hgA hgB hb1 i1 hEG
 go_enter Tryz.func18,Tryz.ntmps18
 go_upto_region 1 with fail
 rw[←HW.out.1,←HW.out.2.1,show gA+1=gB by (have:=HW.out;omega)]
 obtain⟨c0,c1,c2,c3,c4,c5,c6⟩:=cells7 HK.out
 go_wp2_with fail
 refine(fvalidate_zero W1).mono ?_
 rintro e w2 ⟨rfl,hb2⟩
 have HB2:=zh (HB.out.trans (hb2.mono HB.out.size))
 clear hb2 c0 c1 c2 c3 c4 c5 c6
 go_wp2_with fail
 exact bodyPost_ret (v:=.tuple #[.slice none 0 0,.int .i64 1]) (by simp[results,Tryz.results18]) rfl ⟨rfl,HB2.out⟩
end Go.Proofs.YtgfaieppacabjaaGreat
