/- retarget.Raise once more: the raised fleet lies nowhere in given blocks. -/
import Derived.Test.YtgfaieppacabjaaGreatMw01
import Derived.Test.YtgfaieppacabjaaGreatMw02
import Derived.Test.YtgfaieppacabjaaGreatMw03
import Derived.Test.YtgfaieppacabjaaGreatMw04
import Derived.Test.YtgfaieppacabjaaGreatMw05
import Derived.Test.YtgfaieppacabjaaGreatMw06
import Derived.Test.YtgfaieppacabjaaGreatMw07
import Derived.Test.YtgfaieppacabjaaGreatMw08
import Derived.Test.YtgfaieppacabjaaGreatMw09
import Derived.Test.YtgfaieppacabjaaGreatMw10
import Derived.Test.YtgfaieppacabjaaGreatMw11
import Derived.Test.YtgfaieppacabjaaGreatMw12
import Derived.Test.YtgfaieppacabjaaGreatMw13
import Derived.Test.YtgfaieppacabjaaGreatMw14
import Derived.Test.YtgfaieppacabjaaGreatMw15
import Derived.Test.YtgfaieppacabjaaGreatMw16
import Derived.Test.YtgfaieppacabjaaGreatMw17
import Derived.Test.YtgfaieppacabjaaGreatMw18
import Derived.Test.YtgfaieppacabjaaGreatMw19
import Derived.Test.YtgfaieppacabjaaGreatMw20
import Derived.Test.YtgfaieppacabjaaGreatMw21
import Derived.Test.YtgfaieppacabjaaGreatMw22
import Derived.BigQuiet
import Derived.Deep.QuietTactic
import Derived.Deep.MidRow
import Derived.ArgAppend
import Derived.Test.YtgfaieppacabjaaGreatMx01
import Derived.Test.YtgfaieppacabjaaGreatMx02
import Derived.Test.YtgfaieppacabjaaGreatMx03
set_option linter.unusedSectionVars false
set_option maxRecDepth 100000
set_option maxHeartbeats 12800000
namespace Go.Proofs.YtgfaieppacabjaaGreat
open Go.RowKit
set_option linter.unusedVariables false
set_option linter.unusedSimpArgs false
theorem raiseZ_any(Z0:Nat→Prop) (N:Nat) (hN:N≤12) (vl vm vd vv vp vo tn td:Value) (F:FltM) (pi:Nat) (x:PolM) (m q:Int) (w:World) (hz:FleetS w (BlZ Z0 w.heap.size) vl vm vd vv vp vo F) (hZ0:∀b,Z0 b→b<w.heap.size) (hok:FleetOk N F) (hx:F.pols[pi]?=some x) (hm:x.m≤m) (hm6:m≤6) (hq1:x.k≤q) (hq2:q≤x.k+m)
  (htn:LS w (Bl w.heap.size) tn (natL 1)) (htd:LS w (Bl w.heap.size) td (natL 1000)) :
  Calls Tryz.prog 11 #[.agg #[.int .i64 F.ext,vl,vm,vd,vv,vp,vo],.int .i64 (pi:Int),.int .i64 m,.int .i64 q,.agg #[.bool false,tn,td]] w fun e w'=>Below w.heap.size w w' ∧
   ((4<m∧e=.returned (.tuple #[.agg #[.int .i64 0,.slice none 0 0,.slice none 0 0,.slice none 0 0,.slice none 0 0,.slice none 0 0,.slice none 0 0],.int .i64 5]))∨(m≤4∧∃ul um ud uv up uo,e=.returned (.tuple #[.agg #[.int .i64 F.ext,ul,um,ud,uv,up,uo],.int .i64 0])∧FleetS w' (BlZ Z0 w'.heap.size) ul um ud uv up uo (raiseM F pi m q))):=by
 have hf:FleetS w (Bl w.heap.size) vl vm vd vv vp vo F:=hz.mono (fun b hb=>hb.1)
 obtain⟨Al,nl,cl,rfl⟩:=hf.1.form3
 obtain⟨Am,nm,cm,rfl⟩:=hf.2.1.form3
 obtain⟨Ad,nd,cd,rfl⟩:=hf.2.2.1.form3
 obtain⟨Av,nv,cv,rfl⟩:=hf.2.2.2.1.form3
 obtain⟨Ap,cp,hvp,-⟩:=hf.2.2.2.2.1.form
 subst hvp
 obtain⟨Ao,no,co,rfl⟩:=hf.2.2.2.2.2.form3
 obtain⟨At,kt,rfl⟩:=ls_one htn (by omega)
 obtain⟨Au,ku,rfl⟩:=ls_one htd (by omega)
 have hpl:=(List.getElem?_eq_some_iff.1 hx).1
 obtain⟨pb,pof,cs,hAp,hRp,hcl,hc,hK⟩:=hf.2.2.2.2.1.at_ (k:=pi) hpl
 rw[(List.getElem?_eq_some_iff.1 hx).2] at hK
 subst hAp
 obtain⟨v1,v2,v3,v4,v5,v6,rfl,i1,i2,i3,i4,i5,i6⟩:=hK
 obtain⟨-,-,hw⟩:=hok.pols pi x hx
 obtain⟨hk1,hm0,hm4,-,-,-,-,-,-,-,hrep,htg,-⟩:=hw
 rw[htg] at hc i3 i4
 obtain⟨A1,N1,h1,rfl⟩:∃A n c,v1=.slice A n c:=by obtain⟨A,c,e,-⟩:=i1.1;exact⟨A,_,c,e⟩
 obtain⟨A2,N2,h2,rfl⟩:=i2.form3
 obtain⟨A3,N3,h3,rfl⟩:=i3.frm
 obtain⟨A4,N4,h4,rfl⟩:=i4.frm
 obtain⟨A5,N5,h5,rfl⟩:=i5.frm
 obtain⟨A6,N6,h6,rfl⟩:=i6.frm
 obtain⟨NP,hNP⟩:=zx F.pols.length
 obtain⟨EX,hEX⟩:=zx F.ext
 obtain⟨K0,hK0⟩:=zx x.k
 obtain⟨M0,hM0⟩:=zx x.m
 obtain⟨Q0,hQ0⟩:=zx x.q
 rw[←hK0,←hM0,←hQ0] at hc
 rw[←hK0] at hk1 hq1 hq2
 rw[←hM0] at hm hm0 hm4 hrep
 have hrg:w.rangeAt pb (pof+pi * 17) [.string x.name,.int .i64 K0,.int .i64 M0,.int .i64 Q0,.int .i64 0,.int .i64 0,.int .i64 0,.int .i64 x.s3,.int .i64 x.s4,.slice A1 N1 h1,.slice A2 N2 h2,.bool false,.slice A3 N3 h3,.slice A4 N4 h4,.bool x.horizon.neg,.slice A5 N5 h5,.slice A6 N6 h6]:=fun i u hu=>hc i u hu
 obtain⟨W1,hW1⟩:=zx (((w.alloc (.cells #[.int .i64 EX,.slice Al nl cl,.slice Am nm cm,.slice Ad nd cd,.slice Av nv cv,.slice (some ⟨pb,pof,none⟩) NP cp,.slice Ao no co] 35)).alloc (.cells #[.bool false,.slice At 1 kt,.slice Au 1 ku] 26)).alloc (.cells #[.int .i64 0,.slice none 0 0,.slice none 0 0,.slice none 0 0,.slice none 0 0,.slice none 0 0,.slice none 0 0] 35))
 obtain⟨gF,hgF⟩:=zx w.heap.size
 obtain⟨gT,hgT⟩:=zx (w.heap.size+1)
 obtain⟨gR,hgR⟩:=zx (w.heap.size+2)
 have hb1:Below w.heap.size w W1:=by rw[hW1];exact(((Below.refl _ _).alloc (Nat.le_refl _) _).alloc (by simp) _).alloc (by simp;omega) _
 have hs1:W1.heap.size=w.heap.size+3:=by rw[hW1];simp
 have hfk:W1.heap[gF]?=some (.cells #[.int .i64 EX,.slice Al nl cl,.slice Am nm cm,.slice Ad nd cd,.slice Av nv cv,.slice (some ⟨pb,pof,none⟩) NP cp,.slice Ao no co] 35 (0,0)):=by
  rw[hW1,hgF]
  exact(Below.heap_alloc _ _ _ (by simp;omega)).trans ((Below.heap_alloc _ _ _ (by simp)).trans (heap_alloc_new _ _))
 have htk:W1.heap[gT]?=some (.cells #[.bool false,.slice At 1 kt,.slice Au 1 ku] 26 (0,0)):=by
  rw[hW1,hgT]
  exact(Below.heap_alloc _ _ _ (by simp)).trans (heap_alloc_at _ _ _ (by simp))
 have hrk:W1.heap[gR]?=some (.cells #[.int .i64 0,.slice none 0 0,.slice none 0 0,.slice none 0 0,.slice none 0 0,.slice none 0 0,.slice none 0 0] 35 (0,0)):=by rw[hW1,hgR];exact heap_alloc_at _ _ _ (by simp)
 have HOW:=fun(w':World) (hb:Below W1.heap.size W1 w')=>hb1.trans (hb.mono hb1.size)
 have HBK:=zh (show ∀w',Below W1.heap.size W1 w'→Below w.heap.size w w' from HOW)
 have HF7:=zh (show ∀w',Below W1.heap.size W1 w'→w'.heap[gF]?=some (.cells #[.int .i64 EX,.slice Al nl cl,.slice Am nm cm,.slice Ad nd cd,.slice Av nv cv,.slice (some ⟨pb,pof,none⟩) NP cp,.slice Ao no co] 35 (0,0)) from fun w' hb=>(hb.block gF (by omega)).trans hfk)
 have HT3:=zh (show ∀w',Below W1.heap.size W1 w'→w'.heap[gT]?=some (.cells #[.bool false,.slice At 1 kt,.slice Au 1 ku] 26 (0,0)) from fun w' hb=>(hb.block gT (by omega)).trans htk)
 have HR7:=zh (show ∀w',Below W1.heap.size W1 w'→w'.heap[gR]?=some (.cells #[.int .i64 0,.slice none 0 0,.slice none 0 0,.slice none 0 0,.slice none 0 0,.slice none 0 0,.slice none 0 0] 35 (0,0)) from fun w' hb=>(hb.block gR (by omega)).trans hrk)
 have HRG:=zh (show ∀w',Below W1.heap.size W1 w'→w'.rangeAt pb (pof+pi * 17) [.string x.name,.int .i64 K0,.int .i64 M0,.int .i64 Q0,.int .i64 0,.int .i64 0,.int .i64 0,.int .i64 x.s3,.int .i64 x.s4,.slice A1 N1 h1,.slice A2 N2 h2,.bool false,.slice A3 N3 h3,.slice A4 N4 h4,.bool x.horizon.neg,.slice A5 N5 h5,.slice A6 N6 h6] from fun w' hb=>range_same hrg ((HOW w' hb).block pb hRp))
 have HFS:=zh (show ∀w',Below W1.heap.size W1 w'→FleetS w' (Bl w'.heap.size) (.slice Al nl cl) (.slice Am nm cm) (.slice Ad nd cd) (.slice Av nv cv) (.slice (some ⟨pb,pof,none⟩) F.pols.length cp) (.slice Ao no co) F from fun w' hb=>hf.below (HOW w' hb))
 have HFZ:=zh (show ∀w',Below W1.heap.size W1 w'→FleetS w' (BlZ (fun b=>Z0 b∨b=gF∨b=gR) w'.heap.size) (.slice Al nl cl) (.slice Am nm cm) (.slice Ad nd cd) (.slice Av nv cv) (.slice (some ⟨pb,pof,none⟩) F.pols.length cp) (.slice Ao no co) F from fun w' hb=>(hz.keep (fun b hb'=>(HOW w' hb).block b hb'.1)).mono (fun b hb'=>⟨Nat.lt_of_lt_of_le hb'.1 (HOW w' hb).size,fun e=>by have h9:=hb'.1;rcases e with e | e | e;exact hb'.2 e;omega;omega⟩))
 have HTN:=zh (show ∀w',Below W1.heap.size W1 w'→LS w' (Bl w'.heap.size) (.slice At 1 kt) (natL 1)∧LS w' (Bl w'.heap.size) (.slice Au 1 ku) (natL 1000) from fun w' hb=>⟨htn.below (HOW w' hb),htd.below (HOW w' hb)⟩)
 have HPT:=zh (show ∀w',Below W1.heap.size W1 w'→LS w' (Bl w'.heap.size) (.slice A3 N3 h3) (natL 1)∧LS w' (Bl w'.heap.size) (.slice A4 N4 h4) (natL 1000) from fun w' hb=>⟨i3.below (HOW w' hb),i4.below (HOW w' hb)⟩)
 have HZ0:=zh hZ0
 have HV:=zh (fvalidate_any N hN _ _ _ _ _ _ F W1 (HFS.out W1 (Below.refl _ _)) hok)
 have HRDC:=zh (fun(w':World) (hb:Below W1.heap.size W1 w')=>freduce_any _ _ 1 1000 w' (HTN.out w' hb).1 (HTN.out w' hb).2 (by omega) (by decide))
 rw[←hEX,←hNP] at HV
 have HNP:=zh hNP
 have HEX:=zh hEX
 have HOK:=zh hok
 have HX:=zh hx
 have HREP:=zh hrep
 have HTG:=zh htg
 have HKM:=zh (show K0=x.k∧M0=x.m∧Q0=x.q∧(K0=1∨K0=2)∧0≤M0∧M0≤4∧M0≤m∧m≤6∧K0≤q∧q≤K0+m from⟨hK0,hM0,hQ0,hk1,hm0,hm4,hm,hm6,hq1,hq2⟩)
 have HPL:=zh (show pi<NP∧NP≤2∧N≤12 from⟨by omega,by have:=hok.polN;omega,hN⟩)
 have HW1:=zh hW1
 have HG:=zh (show gF=w.heap.size∧gT=w.heap.size+1∧gR=w.heap.size+2∧W1.heap.size=w.heap.size+3 from⟨hgF,hgT,hgR,hs1⟩)
 rw[←hEX,←hNP]
 clear hf hz hZ0 hok hx hm hm6 hq1 hq2 htn htd hpl hRp hcl hc i1 i2 i3 i4 i5 i6 hk1 hm0 hm4 hrep htg hNP hEX hK0 hM0 hQ0 hrg hW1 hgF hgT hgR hb1 hs1 hfk htk hrk HOW hN
 have j1:decide ((pi:Int)<0)=false:=decide_eq_false (by omega)
 have j2:decide ((NP:Int)≤(pi:Int))=false:=decide_eq_false (by have:=HPL.out;omega)
 have j3:decide (m<M0)=false:=decide_eq_false (by have:=HKM.out;omega)
 have j4:decide (q<K0)=false:=decide_eq_false (by have:=HKM.out;omega)
 have j5:IntKind.i64.wrap (K0+m)=K0+m:=IntWalk.i64_in _ (by have:=HKM.out;omega)
 have j6:decide (K0+m<q)=false:=decide_eq_false (by have:=HKM.out;omega)
 have j7:(pi:Int)<(NP:Int):=by have:=HPL.out;omega
 go_enter Tryz.func11,Tryz.ntmps11
 go_upto_region 1 with fail
 rw[←HW1.out,←HG.out.1,show gF+1+1=gR by (have:=HG.out;omega),show gF+1=gT by (have:=HG.out;omega)]
 obtain⟨c0,c1,c2,c3,c4,c5,c6⟩:=cells7 (HF7.out W1 (Below.refl _ _))
 go_wp2_with fail
 refine HV.out.mono ?_
 rintro e w2 ⟨rfl,hb2⟩
 have HB2:=zh hb2
 clear hb2 c0 c1 c2 c3 c4 c5 c6 HV
 obtain⟨d0,d1,d2⟩:=cells3v (HT3.out w2 HB2.out)
 go_upto_region 3 with fail
 go_wp2_with fail
 refine(HRDC.out w2 HB2.out).mono ?_
 rintro e w3 ⟨un,um,rfl,hun,hum,hb3⟩
 obtain⟨B1,k1,rfl⟩:=ls_one hun (by omega)
 obtain⟨B2,k2,rfl⟩:=ls_one hum (by omega)
 have HB3:=zh (HB2.out.trans (hb3.mono HB2.out.size))
 have HUN:=zh (And.intro hun hum)
 clear hun hum hb3 d0 d1 d2 HRDC
 go_upto_region 6 with fail
 obtain⟨W4,hW4⟩:=zx (w3.alloc (.cells #[.bool false,.slice B1 1 k1,.slice B2 1 k2] 26))
 obtain⟨g4,hg4⟩:=zx w3.heap.size
 rw[←hW4,←hg4]
 have h4k:W4.heap[g4]?=some (.cells #[.bool false,.slice B1 1 k1,.slice B2 1 k2] 26 (0,0)):=by rw[hg4];exact(new3 hW4).1
 have hb4:=(new3 hW4).2
 have g4l:g4<W4.heap.size:=(Array.getElem?_eq_some_iff.1 h4k).1
 have HB4:=zh (HB3.out.trans (hb4.mono HB3.out.size))
 have HU4:=zh (show ∀w',Below W4.heap.size W4 w'→w'.heap[g4]?=some (.cells #[.bool false,.slice B1 1 k1,.slice B2 1 k2] 26 (0,0))∧LS w' (Bl w'.heap.size) (.slice B1 1 k1) (natL 1)∧LS w' (Bl w'.heap.size) (.slice B2 1 k2) (natL 1000) from fun w' hb=>⟨(hb.block g4 g4l).trans h4k,(HUN.out.1.mono (R':=Bl w3.heap.size) (fun b hb=>hb.2)).below (hb4.trans (hb.mono hb4.size)),(HUN.out.2.mono (R':=Bl w3.heap.size) (fun b hb=>hb.2)).below (hb4.trans (hb.mono hb4.size))⟩)
 have HUR:=zh (show ∀w',Below W4.heap.size W4 w'→LS w' (Fr W1.heap.size w'.heap.size) (.slice B1 1 k1) (natL 1)∧LS w' (Fr W1.heap.size w'.heap.size) (.slice B2 1 k2) (natL 1000) from fun w' hb=>by
  have h1:=HB2.out.size
  have h2:=hb4.trans (hb.mono hb4.size)
  exact⟨((HUN.out.1.mono (R':=Fr W1.heap.size w3.heap.size) (fun b hb=>⟨Nat.le_trans h1 hb.1,hb.2⟩)).bel h2),((HUN.out.2.mono (R':=Fr W1.heap.size w3.heap.size) (fun b hb=>⟨Nat.le_trans h1 hb.1,hb.2⟩)).bel h2)⟩)
 have HM0:=zh (show Calls Tryz.prog 29 #[.int .i64 0,.int .i64 1] W4 _ from fmake_any 0 1 W4 (by omega) (by omega) (by omega) (by decide))
 clear hW4 hg4 h4k hb4 g4l HUN HB3
 go_wp2_with fail
 refine HM0.out.mono ?_
 rintro e w5 ⟨zn,zd,rfl,hzn,hzd,hb5⟩
 obtain⟨B3,n3,k3,rfl⟩:=hzn.frm
 obtain⟨B4,k4,rfl⟩:=ls_one hzd (by omega)
 have HB45:=zh hb5
 have HZN:=zh (And.intro hzn hzd)
 clear hzn hzd hb5 HM0
 go_upto_region 7 with fail
 obtain⟨W6,hW6⟩:=zx (w5.alloc (.cells #[.bool false,.slice B3 n3 k3,.slice B4 1 k4] 26))
 obtain⟨g6,hg6⟩:=zx w5.heap.size
 rw[←hW6,←hg6]
 have h6k:W6.heap[g6]?=some (.cells #[.bool false,.slice B3 n3 k3,.slice B4 1 k4] 26 (0,0)):=by rw[hg6];exact(new3 hW6).1
 have hb6:=(new3 hW6).2
 have g6l:g6<W6.heap.size:=(Array.getElem?_eq_some_iff.1 h6k).1
 have HB46:=zh (HB45.out.trans (hb6.mono HB45.out.size))
 have HU6:=zh (show ∀w',Below W6.heap.size W6 w'→w'.heap[g6]?=some (.cells #[.bool false,.slice B3 n3 k3,.slice B4 1 k4] 26 (0,0))∧LS w' (Bl w'.heap.size) (.slice B3 n3 k3) (natL 0)∧LS w' (Bl w'.heap.size) (.slice B4 1 k4) (natL 1) from fun w' hb=>⟨(hb.block g6 g6l).trans h6k,(HZN.out.1.mono (R':=Bl w5.heap.size) (fun b hb=>hb.2)).below (hb6.trans (hb.mono hb6.size)),(HZN.out.2.mono (R':=Bl w5.heap.size) (fun b hb=>hb.2)).below (hb6.trans (hb.mono hb6.size))⟩)
 have HM1:=zh (show Calls Tryz.prog 29 #[.int .i64 1,.int .i64 1] W6 _ from fmake_any 1 1 W6 (by omega) (by omega) (by omega) (by decide))
 clear hW6 hg6 h6k hb6 g6l HZN HB45
 go_wp2_with fail
 refine HM1.out.mono ?_
 rintro e w7 ⟨on,od,rfl,hon,hod,hb7⟩
 obtain⟨B5,k5,rfl⟩:=ls_one hon (by omega)
 obtain⟨B6,k6,rfl⟩:=ls_one hod (by omega)
 have HB67:=zh hb7
 have HON:=zh (And.intro hon hod)
 clear hon hod hb7 HM1
 go_upto_region 8 with fail
 obtain⟨W8,hW8⟩:=zx (w7.alloc (.cells #[.bool false,.slice B5 1 k5,.slice B6 1 k6] 26))
 obtain⟨g8,hg8⟩:=zx w7.heap.size
 rw[←hW8,←hg8]
 have h8k:W8.heap[g8]?=some (.cells #[.bool false,.slice B5 1 k5,.slice B6 1 k6] 26 (0,0)):=by rw[hg8];exact(new3 hW8).1
 have hb8:=(new3 hW8).2
 have g8l:g8<W8.heap.size:=(Array.getElem?_eq_some_iff.1 h8k).1
 have h68:Below W6.heap.size W6 W8:=HB67.out.trans (hb8.mono HB67.out.size)
 have h48:Below W4.heap.size W4 W8:=HB46.out.trans (h68.mono HB46.out.size)
 have h18:Below W1.heap.size W1 W8:=HB4.out.trans (h48.mono HB4.out.size)
 have HU8:=zh (show ∀w',Below W8.heap.size W8 w'→w'.heap[g8]?=some (.cells #[.bool false,.slice B5 1 k5,.slice B6 1 k6] 26 (0,0))∧LS w' (Bl w'.heap.size) (.slice B5 1 k5) (natL 1)∧LS w' (Bl w'.heap.size) (.slice B6 1 k6) (natL 1) from fun w' hb=>⟨(hb.block g8 g8l).trans h8k,(HON.out.1.mono (R':=Bl w7.heap.size) (fun b hb=>hb.2)).below (hb8.trans (hb.mono hb8.size)),(HON.out.2.mono (R':=Bl w7.heap.size) (fun b hb=>hb.2)).below (hb8.trans (hb.mono hb8.size))⟩)
 have HA6:=zh (show ∀w',Below W8.heap.size W8 w'→_ from fun w' hb=>HU6.out w' (h68.trans (hb.mono h68.size)))
 have HA4:=zh (show ∀w',Below W8.heap.size W8 w'→_ from fun w' hb=>HU4.out w' (h48.trans (hb.mono h48.size)))
 have HAR:=zh (show ∀w',Below W8.heap.size W8 w'→_ from fun w' hb=>HUR.out w' (h48.trans (hb.mono h48.size)))
 have HA1:=zh (show ∀w',Below W8.heap.size W8 w'→Below W1.heap.size W1 w' from fun w' hb=>h18.trans (hb.mono h18.size))
 clear hW8 hg8 h8k hb8 g8l h68 h48 h18 HON HB67 HB46 HB4 HB2 HU6 HU4
 obtain⟨d0,d1,d2⟩:=cells3v (HA4.out W8 (Below.refl _ _)).1
 go_wp2_with fail
 refine(small_any false B1 B2 1 k1 1 k2 W8).mono ?_
 rintro e w9 ⟨rfl,hb9⟩
 rw[show(decide ((1:Nat)≤1)&&decide ((1:Nat)≤1))=true from rfl]
 have HB9:=zh hb9
 clear hb9 d0 d1 d2
 obtain⟨d0,d1,d2⟩:=cells3v (HA4.out w9 HB9.out).1
 obtain⟨z0,z1,z2⟩:=cells3v (HA6.out w9 HB9.out).1
 go_wp2_with fail
 refine(compare_any (.slice B1 1 k1) (.slice B2 1 k2) (.slice B3 n3 k3) (.slice B4 1 k4) 1 1000 0 1 w9 (HA4.out w9 HB9.out).2.1 (HA4.out w9 HB9.out).2.2 (HA6.out w9 HB9.out).2.1 (HA6.out w9 HB9.out).2.2 (by omega) (by omega) (by omega) (by omega)).mono ?_
 rintro e w10 ⟨rfl,hb10⟩
 rw[show cmpI (1 * 1) (0 * 1000)=1 from rfl]
 have HB10:=zh (HB9.out.trans (hb10.mono HB9.out.size))
 clear hb10 d0 d1 d2 z0 z1 z2 HB9
 obtain⟨d0,d1,d2⟩:=cells3v (HA4.out w10 HB10.out).1
 obtain⟨z0,z1,z2⟩:=cells3v (HU8.out w10 HB10.out).1
 go_wp2_with fail
 refine(compare_any (.slice B1 1 k1) (.slice B2 1 k2) (.slice B5 1 k5) (.slice B6 1 k6) 1 1000 1 1 w10 (HA4.out w10 HB10.out).2.1 (HA4.out w10 HB10.out).2.2 (HU8.out w10 HB10.out).2.1 (HU8.out w10 HB10.out).2.2 (by omega) (by omega) (by omega) (by omega)).mono ?_
 rintro e w11 ⟨rfl,hb11⟩
 rw[show cmpI (1 * 1) (1 * 1000) = -1 from rfl]
 have HB11:=zh (HB10.out.trans (hb11.mono HB10.out.size))
 clear hb11 d0 d1 d2 z0 z1 z2 HB10
 obtain⟨c0,c1,c2,c3,c4,c5,c6⟩:=cells7 (HF7.out w11 (HA1.out w11 HB11.out))
 go_upto_region 12 with fail
 refine wp_region_lit ?_
 refine wpList_plain rfl (fun K hK=>?_)
 go_simp
 refine hK _ _ ?_
 clear hK
 (try simp only[Act.put,z1,z2,z3])
 refine wpList_plain rfl (fun K hK=>?_)
 go_simp
 refine hK _ _ ?_
 clear hK
 (try simp only[Act.put,z1,z2,z3])
 refine wpList_plain rfl (fun K hK=>?_)
 go_simp
 refine hK _ _ ?_
 clear hK
 (try simp only[Act.put,z1,z2,z3])
 refine wpList_plain rfl (fun K hK=>?_)
 go_simp
 refine hK _ _ ?_
 clear hK
 (try simp only[Act.put,z1,z2,z3])
 refine wpList_load_mid rfl 55 (.tmp 69) rfl pb (pof+pi * 17) (by rfl) [.string x.name,.int .i64 K0,.int .i64 M0,.int .i64 Q0,.int .i64 0,.int .i64 0,.int .i64 0,.int .i64 x.s3,.int .i64 x.s4,.slice A1 N1 h1,.slice A2 N2 h2,.bool false,.slice A3 N3 h3,.slice A4 N4 h4,.bool x.horizon.neg,.slice A5 N5 h5,.slice A6 N6 h6] _ (HRG.out w11 (HA1.out w11 HB11.out)) Tryz.underlying55 rfl size_polE ?_
 (try simp only[Act.put,z1,z2,z3])
 refine wpList_plain rfl (fun K hK=>?_)
 go_simp
 refine hK _ _ ?_
 clear hK
 (try simp only[Act.put,z1,z2,z3])
 obtain⟨W12,hW12⟩:=zx (w11.alloc (.cells #[.string ⟨#[]⟩,.int .i64 0,.int .i64 0,.int .i64 0,.int .i64 0,.int .i64 0,.int .i64 0,.int .i64 0,.int .i64 0,.slice none 0 0,.slice none 0 0,.bool false,.slice none 0 0,.slice none 0 0,.bool false,.slice none 0 0,.slice none 0 0] 55))
 obtain⟨gY,hgY⟩:=zx w11.heap.size
 rw[←hW12,←hgY]
 have hb12:Below w11.heap.size w11 W12:=by rw[hW12];exact(Below.refl _ _).alloc (Nat.le_refl _) _
 have hpk:W12.heap[gY]?=some (.cells #[.string ⟨#[]⟩,.int .i64 0,.int .i64 0,.int .i64 0,.int .i64 0,.int .i64 0,.int .i64 0,.int .i64 0,.int .i64 0,.slice none 0 0,.slice none 0 0,.bool false,.slice none 0 0,.slice none 0 0,.bool false,.slice none 0 0,.slice none 0 0] 55 (0,0)):=by rw[hW12,hgY];exact heap_alloc_new _ _
 have hth:W12.there gY 0 17:=there_new hpk (Nat.le_refl 17)
 refine wpList_store_mid rfl 55 (.tmp 18) (.tmp 70) rfl gY 0 #[.string x.name,.int .i64 K0,.int .i64 M0,.int .i64 Q0,.int .i64 0,.int .i64 0,.int .i64 0,.int .i64 x.s3,.int .i64 x.s4,.slice A1 N1 h1,.slice A2 N2 h2,.bool false,.slice A3 N3 h3,.slice A4 N4 h4,.bool x.horizon.neg,.slice A5 N5 h5,.slice A6 N6 h6] (by rfl) (by rfl) hth size_polE (by simp[Value.oneCell']) ?_
 (try simp only[Act.put,z1,z2,z3])
 have hr13:=World.rangeAt_setCells_same _ _ _ [.string x.name,.int .i64 K0,.int .i64 M0,.int .i64 Q0,.int .i64 0,.int .i64 0,.int .i64 0,.int .i64 x.s3,.int .i64 x.s4,.slice A1 N1 h1,.slice A2 N2 h2,.bool false,.slice A3 N3 h3,.slice A4 N4 h4,.bool x.horizon.neg,.slice A5 N5 h5,.slice A6 N6 h6] hth
 have hb13:Below w11.heap.size w11 (World.setCells W12 gY 0 [.string x.name,.int .i64 K0,.int .i64 M0,.int .i64 Q0,.int .i64 0,.int .i64 0,.int .i64 0,.int .i64 x.s3,.int .i64 x.s4,.slice A1 N1 h1,.slice A2 N2 h2,.bool false,.slice A3 N3 h3,.slice A4 N4 h4,.bool x.horizon.neg,.slice A5 N5 h5,.slice A6 N6 h6]):=below_setCellsV (by omega) _ _ _ hb12
 have hs13:=setCells_sizeK (g:=gY) [.string x.name,.int .i64 K0,.int .i64 M0,.int .i64 Q0,.int .i64 0,.int .i64 0,.int .i64 0,.int .i64 x.s3,.int .i64 x.s4,.slice A1 N1 h1,.slice A2 N2 h2,.bool false,.slice A3 N3 h3,.slice A4 N4 h4,.bool x.horizon.neg,.slice A5 N5 h5,.slice A6 N6 h6] 0 W12
 obtain⟨W13,hW13⟩:=zx (World.setCells W12 gY 0 [.string x.name,.int .i64 K0,.int .i64 M0,.int .i64 Q0,.int .i64 0,.int .i64 0,.int .i64 0,.int .i64 x.s3,.int .i64 x.s4,.slice A1 N1 h1,.slice A2 N2 h2,.bool false,.slice A3 N3 h3,.slice A4 N4 h4,.bool x.horizon.neg,.slice A5 N5 h5,.slice A6 N6 h6])
 rw[←hW13] at hr13 hb13 hs13 ⊢
 have hgl:gY<W13.heap.size:=by rw[hs13,hW12,hgY];simp
 have HB13:=zh (HB11.out.trans (hb13.mono HB11.out.size))
 have HR13:=zh (show ∀w',Below W13.heap.size W13 w'→w'.rangeAt gY 0 [.string x.name,.int .i64 K0,.int .i64 M0,.int .i64 Q0,.int .i64 0,.int .i64 0,.int .i64 0,.int .i64 x.s3,.int .i64 x.s4,.slice A1 N1 h1,.slice A2 N2 h2,.bool false,.slice A3 N3 h3,.slice A4 N4 h4,.bool x.horizon.neg,.slice A5 N5 h5,.slice A6 N6 h6] from fun w' hb=>range_same hr13 (hb.block gY hgl))
 have e1:W13.cell? ⟨gY,1,none⟩=some (.int .i64 K0):=hr13 1 _ rfl
 have e2:W13.cell? ⟨gY,2,none⟩=some (.int .i64 M0):=hr13 2 _ rfl
 have e11:W13.cell? ⟨gY,11,none⟩=some (.bool false):=hr13 11 _ rfl
 have e12:W13.cell? ⟨gY,12,none⟩=some (.slice A3 N3 h3):=hr13 12 _ rfl
 have e13:W13.cell? ⟨gY,13,none⟩=some (.slice A4 N4 h4):=hr13 13 _ rfl
 clear hb12 hpk hth hr13 hb13 hs13 hW13 hgl hW12 hgY c0 c1 c2 c3 c4 c5 c6
 obtain⟨d0,d1,d2⟩:=cells3v (HA4.out W13 HB13.out).1
 by_cases h4m:m≤4
 ·have HCO:=zh (code_any K0 m W13 (by have:=HKM.out;omega) (by have:=HKM.out;omega) (by have:=HKM.out;omega) h4m (by have:=HKM.out;omega))
  have H4M:=zh h4m
  clear h4m
  go_upto_region 13 with fail
  go_wp2_with fail
  refine HCO.out.mono ?_
  rintro e w' ⟨rfl,rfl⟩
  go_wp2_with fail
  refine(compare_any (.slice B1 1 k1) (.slice B2 1 k2) (.slice A3 N3 h3) (.slice A4 N4 h4) 1 1000 1 1000 W13 (HA4.out W13 HB13.out).2.1 (HA4.out W13 HB13.out).2.2 (HPT.out W13 (HA1.out W13 HB13.out)).1 (HPT.out W13 (HA1.out W13 HB13.out)).2 (by omega) (by omega) (by omega) (by omega)).mono ?_
  rintro e w14 ⟨rfl,hb14⟩
  rw[show cmpI (1 * 1000) (1 * 1000)=0 from rfl]
  have HB14:=zh (HB13.out.trans (hb14.mono HB13.out.size))
  clear hb14 d0 d1 d2 e1 e2 e11 e12 e13 HCO
  go_upto_region 15 with fail
  have HPF:=pfleet_any (fun b=>Z0 b∨b=gF∨b=gR) N _ _ _ _ _ _ F w14 (HFZ.out w14 (HA1.out w14 HB14.out)) HOK.out (by have:=HPL.out;omega) (fun b hb=>by have h1:=HG.out;have h2:=(HA1.out w14 HB14.out).size;rcases hb with hb | rfl | rfl;have h3:=HZ0.out b hb;omega;omega;omega)
  rw[←HEX.out,←HNP.out] at HPF
  have HPF':=zh HPF
  obtain⟨c0,c1,c2,c3,c4,c5,c6⟩:=cells7 (HF7.out w14 (HA1.out w14 HB14.out))
  clear HPF
  go_wp2_with fail
  refine HPF'.out.mono ?_
  rintro e w15 ⟨ul,um,ud,uv,uo,gP,kP,rfl,hcp,hgP,hb15⟩
  obtain⟨El,ml,tl,rfl⟩:=hcp.laws.form3
  obtain⟨Em,mm,tm,rfl⟩:=hcp.models.form3
  obtain⟨Ed,md,tdd,rfl⟩:=hcp.doms.form3
  obtain⟨Ev,mv,tv,rfl⟩:=hcp.dves.form3
  obtain⟨Eo,mo,too,rfl⟩:=hcp.vols.form3
  obtain⟨B,hgB,htR⟩:=hcp.tight
  have hsz14:=(HA1.out w14 HB14.out).size
  have hgs:=HG.out
  have HTHF:=zh (show w15.there gF 0 7 from there_new ((hb15.block gF (by omega)).trans (HF7.out w14 (HA1.out w14 HB14.out))) (Nat.le_refl 7))
  have HB15:=zh hb15
  rename_i hK
  refine hK _ _ ?_
  clear hK c0 c1 c2 c3 c4 c5 c6 HPF'
  (try simp only[Act.put,z1,z2,z3])
  refine wpList_store_mid rfl 35 (.tmp 5) (.tmp 105) rfl gF 0 #[.int .i64 EX,.slice El ml tl,.slice Em mm tm,.slice Ed md tdd,.slice Ev mv tv,.slice (some ⟨gP,0,none⟩) NP kP,.slice Eo mo too] (by rfl) (by rfl) HTHF.out size_fltE (by simp[Value.oneCell']) ?_
  (try simp only[Act.put,z1,z2,z3])
  have hgr:=World.rangeAt_setCells_same _ _ _ [.int .i64 EX,.slice El ml tl,.slice Em mm tm,.slice Ed md tdd,.slice Ev mv tv,.slice (some ⟨gP,0,none⟩) NP kP,.slice Eo mo too] HTHF.out
  have hkp:∀b,b≠gF→(World.setCells w15 gF 0 [.int .i64 EX,.slice El ml tl,.slice Em mm tm,.slice Ed md tdd,.slice Ev mv tv,.slice (some ⟨gP,0,none⟩) NP kP,.slice Eo mo too]).heap[b]?=w15.heap[b]?:=fun b hb=>setCells_other _ _ _ _ hb
  have hsz:=setCells_sizeK (g:=gF) [.int .i64 EX,.slice El ml tl,.slice Em mm tm,.slice Ed md tdd,.slice Ev mv tv,.slice (some ⟨gP,0,none⟩) NP kP,.slice Eo mo too] 0 w15
  have hh16:HotBy [some gF] w15 (World.setCells w15 gF 0 [.int .i64 EX,.slice El ml tl,.slice Em mm tm,.slice Ed md tdd,.slice Ev mv tv,.slice (some ⟨gP,0,none⟩) NP kP,.slice Eo mo too]):=HotBy.setCells (.inl (by simp)) _ _ _ (HotBy.refl _ _)
  have hbw:=(HBK.out w14 (HA1.out w14 HB14.out)).trans (hb15.mono (HBK.out w14 (HA1.out w14 HB14.out)).size)
  have hbw16:Below w.heap.size w (World.setCells w15 gF 0 [.int .i64 EX,.slice El ml tl,.slice Em mm tm,.slice Ed md tdd,.slice Ev mv tv,.slice (some ⟨gP,0,none⟩) NP kP,.slice Eo mo too]):=below_setCellsV (by omega) _ _ _ hbw
  obtain⟨W16,hW16⟩:=zx (World.setCells w15 gF 0 [.int .i64 EX,.slice El ml tl,.slice Em mm tm,.slice Ed md tdd,.slice Ev mv tv,.slice (some ⟨gP,0,none⟩) NP kP,.slice Eo mo too])
  rw[←hW16] at hgr hkp hsz hh16 hbw16 ⊢
  clear hW16
  have hkr:Kept (NotG (fun b=>Z0 b∨b=gF∨b=gR) w15 gP gP gP) w15 W16:=fun b hb=>hkp b (fun e=>hb.2.2.2.2 (.inr (.inl e)))
  have hmr:∀b,NotG (fun b=>Z0 b∨b=gF∨b=gR) w15 gP gP gP b→NotG (fun b=>Z0 b∨b=gF∨b=gR) W16 gP gP gP b:=NotG.mono (by omega)
  have hfp:gF<gP:=by omega
  have HCP:=zh (show Copied (fun b=>Z0 b∨b=gF∨b=gR) W16 (.slice El ml tl) (.slice Em mm tm) (.slice Ed md tdd) (.slice Ev mv tv) gP kP (.slice Eo mo too) F from
   ⟨(SlS.keep lawK hcp.laws hkr).mono lawK hmr,(SlS.keep modK hcp.models hkr).mono modK hmr,(SlS.keep domK hcp.doms hkr).mono domK hmr,(SlS.keep dveK hcp.dves hkr).mono dveK hmr,(SlS.keep volK hcp.vols hkr).mono volK hmr,
    (hcp.pols.keep polK hkr (hkp gP (by omega))).mono polK hmr (fun e=>e.2.1 rfl),B,hgB,TightR.onward htR (fun k hk=>World.cell?_of_block (a:=⟨gP,k * 17+10,none⟩) (hkp gP (by omega))) hh16 (fun k hk=>by simp at hk;omega)⟩)
  have HTR:=zh (show TightR W16 gP B F.pols F.pols.length from TightR.onward htR (fun k hk=>World.cell?_of_block (a:=⟨gP,k * 17+10,none⟩) (hkp gP (by omega))) hh16 (fun k hk=>by simp at hk;omega))
  have HBL:=zh (show gP<B∧gF<gP∧gR<gP∧gF<w14.heap.size∧w14.heap.size≤gP∧w14.heap.size≤W16.heap.size∧w.heap.size≤gF∧gF≠gR from⟨hgB,by omega,by omega,by omega,hgP,by have:=hb15.size;omega,by omega,by omega⟩)
  have HGF:=zh hgr
  have HRK:=zh (show W16.heap[gR]?=some (.cells #[.int .i64 0,.slice none 0 0,.slice none 0 0,.slice none 0 0,.slice none 0 0,.slice none 0 0,.slice none 0 0] 35 (0,0)) from(hkp gR (by omega)).trans ((hb15.block gR (by omega)).trans (HR7.out w14 (HA1.out w14 HB14.out))))
  have HBW:=zh hbw16
  have h4k:=HA4.out w14 HB14.out
  have g4l:g4<w14.heap.size:=(Array.getElem?_eq_some_iff.1 h4k.1).1
  have hg4F:g4≠gF:=fun e=>by
   have h8:=HF7.out w14 (HA1.out w14 HB14.out)
   rw[←e,h4k.1] at h8
   injection h8 with h8
   injection h8 with h8
   simp at h8
  have HG4:=zh (show W16.rangeAt g4 0 [.bool false,.slice B1 1 k1,.slice B2 1 k2] from fun j v hv=>by
   rw[cell_of_row _ _ _ _ _ _ ((hkp g4 hg4F).trans ((hb15.block g4 g4l).trans h4k.1)),Nat.zero_add,←Array.getElem?_toList];exact hv)
  have hur:=HAR.out w14 HB14.out
  have HLU:=zh (show LS W16 (NotG (fun b=>Z0 b∨b=gF∨b=gR) W16 gP gP gP) (.slice B1 1 k1) (natL 1)∧LS W16 (NotG (fun b=>Z0 b∨b=gF∨b=gR) W16 gP gP gP) (.slice B2 1 k2) (natL 1000) from by
   have hk:Kept (Fr W1.heap.size w14.heap.size) w14 W16:=fun b hb=>(hkp b (by have:=hb.1;omega)).trans (hb15.block b hb.2)
   have hm:∀b,Fr W1.heap.size w14.heap.size b→NotG (fun b=>Z0 b∨b=gF∨b=gR) W16 gP gP gP b:=fun b hb=>by
    have h1:=hb.1
    have h2:=hb.2
    have h3:=hb15.size
    exact⟨by omega,by omega,by omega,by omega,fun e=>by rcases e with e | rfl | rfl;have h9:=HZ0.out b e;omega;omega;omega⟩
   exact⟨(hur.1.keep hk).mono hm,(hur.2.keep hk).mono hm⟩)
  have hpr:=HCP.out.pols.room
  have hpi:=(List.getElem?_eq_some_iff.1 HX.out).1
  have HKC:=zh (show pi * 17+17≤kP * 17 by omega)
  have HN4:=zh (show g4≠gP by omega)
  have e5:W16.cell? ⟨gF,5,none⟩=some (.slice (some ⟨gP,0,none⟩) NP kP):=hgr 5 _ rfl
  clear hgr hkp hsz hh16 hbw hbw16 hkr hmr hfp hcp hgP hb15 hgB htR hsz14 hgs hg4F h4k g4l hur hpr hpi HTHF
  go_upto_region 17 with fail
  clear e5
  have HPD:=zh (RowA.onward polK HCP.out.pols (hot:=[]) (HotBy.refl [] W16).drew (fun k hk=>by simp at hk))
  have HG4D:=zh (show W16.drew.rangeAt g4 0 [.bool false,.slice B1 1 k1,.slice B2 1 k2] from HG4.out)
  have z2:W16.frozen? ⟨gP,pi * 17+2,none⟩=false:=HCP.out.pols.froze _
  have z3:W16.frozen? ⟨gP,pi * 17+3,none⟩=false:=HCP.out.pols.froze _
  obtain⟨x2,hx2⟩:=Option.isSome_iff_exists.1 (HCP.out.pols.there (o:=pi * 17) (m:=17) HKC.out 2 (by omega)).1
  obtain⟨x3,hx3⟩:=Option.isSome_iff_exists.1 (HCP.out.pols.there (o:=pi * 17) (m:=17) HKC.out 3 (by omega)).1
  refine region_tail (S:=(fun w'=>w'.rangeAt g4 0 [.bool false,.slice B1 1 k1,.slice B2 1 k2])) [] (by kernel_rfl) HG4D.out (fun hHeld=>?_)
  refine tk 0 110 ?_
  refine tk 1 111 ?_
  refine tk 2 112 ?_
  refine tk 3 113 ?_
  refine tk 4 114 ?_
  refine takeT (i:=5) (d:=115) (v:=(.agg #[.bool false,.slice B1 1 k1,.slice B2 1 k2])) rfl rfl (by kernel_rfl) (by kernel_rfl) (by kernel_rfl) (by kernel_rfl) (fun _ _ _ h=>h) (yieldsIf_load_mid (by rfl) 26 (.tmp 12) rfl g4 0 (by rfl) [.bool false,.slice B1 1 k1,.slice B2 1 k2] _ (fun w hw=>hw) Tryz.underlying26 rfl size_frac7) (by assumption) ?_
  (try simp only[Act.put,z1,z2,z3])
  refine tk 6 116 ?_
  refine tk 7 117 ?_
  refine readyT (rs:=[8]) (by kernel_rfl) (by simp) ?_
  refine AllReadyT.cons rfl (fun K hK=>?_) ?_
  ·go_simp
   refine hK.out _ _ ?_ (fun hHeld=>?_)
   ·exact rangeAt_drew (rangeAt_setCell HG4.out HN4.out)
   clear hK K
   (try simp only[Act.put,z1,z2,z3])
   refine tk 9 118 ?_
   refine tk 10 119 ?_
   refine readyT (rs:=[11]) (by kernel_rfl) (by simp) ?_
   refine AllReadyT.cons rfl (fun K hK=>?_) ?_
   ·go_simp
    refine hK.out _ _ ?_ (fun hHeld=>?_)
    ·exact rangeAt_drew (rangeAt_setCell (rangeAt_setCell HG4.out HN4.out) HN4.out)
    clear hK K
    (try simp only[Act.put,z1,z2,z3])
    refine tk 12 120 ?_
    refine tk 13 121 ?_
    refine readyT (rs:=[14]) (by kernel_rfl) (by simp) ?_
    refine AllReadyT.cons rfl (fun K hK=>?_) ?_
    ·refine wp_store_mid 26 (.tmp 121) (.tmp 115) rfl gP (pi * 17+11) #[.bool false,.slice B1 1 k1,.slice B2 1 k2] (by rfl) (by rfl) (there_drew (there_setCell (there_setCell (HCP.out.pols.there (by have:=HKC.out;show pi * 17+11+3≤kP * 17;omega))))) size_frac7 (by simp[Value.oneCell']) ?_
     refine hK.out _ _ ?_ (fun hHeld=>?_)
     ·exact World.rangeAt_setCells_apart (rangeAt_drew (rangeAt_setCell (rangeAt_setCell HG4.out HN4.out) HN4.out)) _ _ _ (.inl HN4.out)
     clear hK K
     (try simp only[Act.put,z1,z2,z3])
     refine doneT (by kernel_rfl) ?_ _
     clear hHeld
     have hn:∀k,some k∈[some gP]→k=gP∨k=gP∨k=gP:=fun k hk=>by simp at hk;exact .inl hk
     have hra:∀(y:World) (i:Nat) (u:Value),NotG (fun b=>Z0 b∨b=gF∨b=gR) y gP gP gP=NotG (fun b=>Z0 b∨b=gF∨b=gR) (y.setCell ⟨gP,i,none⟩ u) gP gP gP:=fun y i u=>by funext b;unfold NotG;simp
     have hpi:=(List.getElem?_eq_some_iff.1 HX.out).1
     have a0:RowA 17 PolK W16 55 gP kP (F.pols.set pi x) (NotG (fun b=>Z0 b∨b=gF∨b=gR) W16 gP gP gP):=by rw[set_here HX.out];exact HCP.out.pols
     obtain⟨X1,hX1⟩:=zx (W16.setCell ⟨gP,pi * 17+2,none⟩ (.int .i64 m))
     have a1:RowA 17 PolK X1 55 gP kP (F.pols.set pi { x with m:=m }) (NotG (fun b=>Z0 b∨b=gF∨b=gR) X1 gP gP gP):=by
      rw[hX1,←hra]
      exact RowA.putS polK a0 (o:=2) hpi [.int .i64 m] (by simp) (fun b h=>h) (fun e=>e.2.1 rfl) { x with m:=m } (fun c h=>pol_m m (fun b h=>h) c h)
     have h1:HotBy [some gP] W16 X1:=by rw[hX1];exact HotBy.setCell _ _ _ _ (by simp)
     have o1:X1.cell? ⟨gP,pi * 17+10,none⟩=W16.cell? ⟨gP,pi * 17+10,none⟩:=by rw[hX1];exact World.cell?_setCell_other _ ⟨gP,pi * 17+2,none⟩ ⟨gP,pi * 17+10,none⟩ _ (by intro e;injection e with _ e2;omega)
     rw[←hX1]
     clear hX1 a0
     obtain⟨X2,hX2⟩:=zx (X1.setCell ⟨gP,pi * 17+3,none⟩ (.int .i64 q))
     have a2:RowA 17 PolK X2 55 gP kP (F.pols.set pi { x with m:=m,q:=q }) (NotG (fun b=>Z0 b∨b=gF∨b=gR) X2 gP gP gP):=by
      rw[hX2,←hra]
      exact RowA.putS polK a1 (o:=3) hpi [.int .i64 q] (by simp) (fun b h=>h) (fun e=>e.2.1 rfl) { x with m:=m,q:=q } (fun c h=>pol_q q (fun b h=>h) c h)
     have h2:HotBy [some gP] W16 X2:=h1.trans (by rw[hX2];exact HotBy.setCell _ _ _ _ (by simp))
     have o2:X2.cell? ⟨gP,pi * 17+10,none⟩=W16.cell? ⟨gP,pi * 17+10,none⟩:=by rw[←o1,hX2];exact World.cell?_setCell_other _ ⟨gP,pi * 17+3,none⟩ ⟨gP,pi * 17+10,none⟩ _ (by intro e;injection e with _ e2;omega)
     rw[←hX2]
     clear hX2 a1 h1 o1
     have a3:=RowA.onward polK a2 (hot:=[]) (HotBy.refl [] X2).drew (fun k hk=>by simp at hk)
     have h3:HotBy [some gP] W16 X2.drew:=h2.drew
     have o3:X2.drew.cell? ⟨gP,pi * 17+10,none⟩=W16.cell? ⟨gP,pi * 17+10,none⟩:=o2
     obtain⟨X3,hX3⟩:=zx X2.drew
     rw[←hX3] at a3 h3 o3 ⊢
     clear hX3 a2 h2 o2
     have l1:LS X3 (NotG (fun b=>Z0 b∨b=gF∨b=gR) X3 gP gP gP) (.slice B1 1 k1) (natL 1):=(HLU.out.1.keep (NotG.kept h3 hn)).mono (NotG.mono h3.size)
     have l2:LS X3 (NotG (fun b=>Z0 b∨b=gF∨b=gR) X3 gP gP gP) (.slice B2 1 k2) (natL 1000):=(HLU.out.2.keep (NotG.kept h3 hn)).mono (NotG.mono h3.size)
     obtain⟨y3,hy3⟩:∃y:PolM,y={ x with m:=m,q:=q,target:=⟨false,1,1000⟩ }:=⟨_,rfl⟩
     obtain⟨W17,hW17⟩:=zx (World.setCells X3 gP (pi * 17+11) [.bool false,.slice B1 1 k1,.slice B2 1 k2])
     have a4:RowA 17 PolK W17 55 gP kP (F.pols.set pi y3) (NotG (fun b=>Z0 b∨b=gF∨b=gR) W17 gP gP gP):=by
      rw[hW17,notG_setCells,hy3]
      exact RowA.putS polK a3 (o:=11) hpi [.bool false,.slice B1 1 k1,.slice B2 1 k2] (by simp) (fun b h=>h) (fun e=>e.2.1 rfl) { x with m:=m,q:=q,target:=⟨false,1,1000⟩ } (fun c h=>pol_target ⟨false,1,1000⟩ (fun b h=>h) l1 l2 c h)
     have h17:HotBy [some gP] W16 W17:=by rw[hW17];exact HotBy.setCells (.inl (by simp)) _ _ _ h3
     obtain⟨q0,hq0,how⟩:=HTR.out pi x hpi HX.out
     have o4:W17.cell? ⟨gP,pi * 17+10,none⟩=some (.slice (some ⟨q0,0,none⟩) x.repair.length x.repair.length):=by
      rw[hW17,World.cell?_setCells_out gP _ _ _ _ (fun _ _=>.inl (show pi * 17+10<pi * 17+11 by omega)),o3]
      exact hq0
     rw[←hW17]
     clear hW17 a3 h3 o3 l1 l2 hra hq0
     have how17:OwnK 3 FrcK W17 B 26 (.slice (some ⟨q0,0,none⟩) x.repair.length x.repair.length) x.repair (Fz B W17.heap.size (.slice (some ⟨q0,0,none⟩) x.repair.length x.repair.length)):=OwnK.stayF frcK (OwnK.mono frcK how (fun b hb=>⟨hb.1,hb.2.1,fun e=>by simp[Value.ownBlock] at e;exact hb.2.2 e.symm⟩)) h17 (fun b hb=>by simp at hb;subst hb;exact .inl HBL.out.1)
     have HC17:=zh (show Four (fun b=>Z0 b∨b=gF∨b=gR) W17 gP gP (.slice El ml tl) (.slice Em mm tm) (.slice Ev mv tv) (.slice Eo mo too) F from⟨SlS.onward lawK HCP.out.laws h17 hn,SlS.onward modK HCP.out.models h17 hn,SlS.onward dveK HCP.out.dves h17 hn,SlS.onward volK HCP.out.vols h17 hn⟩)
     have HD17:=zh (SlS.onward domK HCP.out.doms h17 hn)
     have HES:=zh (show RowA 17 PolK2 W17 55 gP kP ((F.pols.map (fun x=>(x,true))).set pi (y3,false)) (NotG (fun b=>Z0 b∨b=gF∨b=gR) W17 gP gP gP) from a4.imp a4.apart (by simp) (fun k y a ha hy c _ _ hc=>by
      by_cases hk:pi=k
      ·subst hk
       rw[List.getElem?_set_self (by simpa using hpi)] at ha
       rw[List.getElem?_set_self hpi] at hy
       injection ha with ha
       injection hy with hy
       subst ha hy
       obtain⟨va,vb,vc,vd,ve,vf,e,i1,-,i3,i4,i5,i6⟩:=hc
       exact .inr ⟨rfl,va,vb,vc,vd,ve,vf,e,i1,i3,i4,i5,i6⟩
      ·rw[List.getElem?_set_ne hk,List.getElem?_map,←List.getElem?_set_ne (a:=y3) hk,hy] at ha
       injection ha with ha
       subst ha
       exact .inl ⟨rfl,hc⟩))
     have hrl:x.repair=List.replicate (max M0 1).toNat ⟨false,1,2⟩:=HREP.out
     obtain⟨r0,hr0⟩:=zx ((max M0 1).toNat)
     rw[←hr0] at hrl
     rw[hrl,List.length_replicate] at how17 o4
     obtain⟨MM,hMM⟩:=zx ((max m 1).toNat)
     have HMM:=zh (show MM=(max m 1).toNat∧1≤r0∧r0≤MM∧MM≤10 by have:=HKM.out;omega)
     have HGF17:=zh (show W17.rangeAt gF 0 [.int .i64 EX,.slice El ml tl,.slice Em mm tm,.slice Ed md tdd,.slice Ev mv tv,.slice (some ⟨gP,0,none⟩) NP kP,.slice Eo mo too] from range_same HGF.out (h17.block gF (by have:=HBL.out;omega) (by simp;have:=HBL.out;omega)))
     have HRK17:=zh (show W17.heap[gR]?=some (.cells #[.int .i64 0,.slice none 0 0,.slice none 0 0,.slice none 0 0,.slice none 0 0,.slice none 0 0,.slice none 0 0] 35 (0,0)) from(h17.block gR (Array.getElem?_eq_some_iff.1 HRK.out).1 (by simp;have:=HBL.out;omega)).trans HRK.out)
     have HBW17:=zh (show Below w.heap.size w W17 from⟨h17.os.trans HBW.out.os,h17.tape.trans HBW.out.tape,h17.output.trans HBW.out.output,Nat.le_trans HBW.out.size h17.size,fun b hb=>(h17.block b (Nat.lt_of_lt_of_le hb HBW.out.size) (by simp;have:=HBL.out;omega)).trans (HBW.out.block b hb)⟩)
     have HL17:=zh (show gP<W17.heap.size∧B≤W17.heap.size from⟨a4.lt,by have h9:=OwnK.lt how17 q0 rfl;omega⟩)
     have HY3:=zh hy3
     have HO17:=zh how17
     have HCE17:=zh o4
     clear a4 h17 how how17 o4 hrl hr0 hMM hy3 hpi hn HCP HPD HG4D HLU HTR HGF HRK HBW HG4 x2 x3 hx2 hx3 z2 z3
     obtain⟨ES,hES⟩:=zx ((F.pols.map (fun x=>(x,true))).set pi (y3,false))
     rw[←hES] at HES
     have HEE:=zh hES
     clear hES
     go_wp2_with fail
     go_loopg [] (MM - r0) (fun z wr=>∃(r q1 c1:Nat),1≤r∧r≤MM∧z=MM - r∧Hid (HotBy [some gP] W17 wr)∧Hid (RowA 17 PolK2 wr 55 gP kP ES (NotG (fun b=>Z0 b∨b=gF∨b=gR) W17 gP gP gP))∧Hid (wr.cell? ⟨gP,pi * 17+10,none⟩=some (.slice (some ⟨q1,0,none⟩) r c1))∧Hid (OwnK 3 FrcK wr B 26 (.slice (some ⟨q1,0,none⟩) r c1) (List.replicate r ⟨false,1,2⟩) (Fz B wr.heap.size (.slice (some ⟨q1,0,none⟩) r c1)))∧Hid (W17.heap.size≤q1∨c1=r))
     case atStart=>exact⟨r0,q0,r0,HMM.out.2.1,HMM.out.2.2.1,rfl,zh (HotBy.refl _ _),HES,HCE17,HO17,zh (.inr rfl)⟩
     case round =>
      obtain⟨r,q1,c1,hr1,hrM,rfl,HH,HO,HCE,HOW,HCS⟩:=hrel
      obtain⟨W18,hW18⟩:=zx wr
      rw[←hW18] at HH HO HCE HOW ⊢
      clear hW18
      have e10:=HCE.out
      by_cases hlt:(r:Int)<m
      ·obtain⟨s,rfl⟩:∃s,r=s+1:=⟨r - 1,by omega⟩
       obtain⟨cs,o1,o2⟩:=HOW.out
       obtain⟨c,g1,g2,g3⟩:=o2 s ⟨false,1,2⟩ (by rw[List.getElem?_replicate];simp)
       obtain⟨vn,vd,rfl,l1,l2⟩:=g3
       have hel:W18.rangeAt q1 (s * 3) [.bool false,vn,vd]:=fun i u hu=>by
        have h1:=o1.cells (g:=q1) rfl _ _ (g2 i u hu)
        rw[Addr.add_mid,Nat.zero_add] at h1
        exact h1
       obtain⟨A8,n8,q8,rfl⟩:=l1.frm
       obtain⟨A9,n9,q9,rfl⟩:=l2.frm
       have hwr:IntKind.i64.wrap (s:Int)=(s:Int):=IntWalk.i64_in _ (by have:=HMM.out;omega)
       have hi1:(s:Int)+1<m:=by omega
       have hi2:(s:Int)<(s:Int)+1:=by omega
       have HEL:=zh hel
       have HL12:=zh (And.intro l1 l2)
       have hq1l:=OwnK.lt HOW.out q1 rfl
       have hsl:=HL17.out
       have hhs:=HH.out.size
       have HS19:=zh (show ∀w',Below W17.heap.size W18 w'→w'.cell? ⟨gP,pi * 17+10,none⟩=some (.slice (some ⟨q1,0,none⟩) (s+1) c1) from fun w' hb=>(hb.cell (p:=⟨gP,pi * 17+10,none⟩) hsl.1).trans HCE.out)
       have HSZ:=zh (show W17.heap.size≤W18.heap.size∧B≤W17.heap.size∧B≤q1∧q1<W18.heap.size∧s+1≤10 from⟨hhs,hsl.2,hq1l.1,hq1l.2,by have:=HMM.out;omega⟩)
       clear o1 o2 g1 g2 l1 l2 hel hq1l hsl hhs cs
       go_upto_region 19 with fail
       clear e10
       refine region_tail (S:=(fun w'=>w'.cell? ⟨gP,pi * 17+10,none⟩=some (.slice (some ⟨q1,0,none⟩) (s+1) c1))) [22] (by kernel_rfl) (HS19.out _ (Below.refl _ _).drew) (fun hHeld=>?_)
       refine tk 0 129 ?_
       refine tk 1 130 ?_
       refine tk 2 131 ?_
       refine tk 3 132 ?_
       refine tk 4 133 ?_
       refine tk 5 134 ?_
       refine tk 6 135 ?_
       refine tk 7 136 ?_
       refine tk 8 137 ?_
       refine tk 9 138 ?_
       refine tk 10 139 ?_
       refine tk 11 140 ?_
       refine tk 12 141 ?_
       refine tk 13 142 ?_
       refine tk 14 143 ?_
       refine tk 15 144 ?_
       refine readyT (rs:=[16]) (by kernel_rfl) (by simp) ?_
       refine AllReadyT.cons rfl (fun K hK=>?_) ?_
       ·rw[if_pos (by rfl)]
        refine wp_load_mid 26 (.tmp 144) rfl q1 (s * 3) (by rfl) [.bool false,.slice A8 n8 q8,.slice A9 n9 q9] _ (rangeAt_drew HEL.out) Tryz.underlying26 rfl size_frac7 ?_
        refine hK.out _ _ ?_ (fun hHeld=>?_)
        ·exact HS19.out _ (Below.refl _ _).drew
        clear hK K
        (try simp only[Act.put,z1,z2,z3])
        refine readyT (rs:=[17]) (by kernel_rfl) (by simp) ?_
        refine AllReadyT.cons rfl (fun K hK=>?_) ?_
        ·go_simp
         (go_at_call 34;refine(pfrac_any false (.slice A8 n8 q8) (.slice A9 n9 q9) (natL 1) (natL 2) _ ((HL12.out.1.keep (fun b hb=>(HotBy.refl [] W18).drew.block b hb.2.1 (by simp))).mono (fun b hb=>hb.2.1)) ((HL12.out.2.keep (fun b hb=>(HotBy.refl [] W18).drew.block b hb.2.1 (by simp))).mono (fun b hb=>hb.2.1)) (by have:=natL_length 1;omega) (by have:=natL_length 2;omega)).mono ?_;rintro e w19 ⟨un,ud,rfl,hun,hud,hb19⟩;have HB19:=zh (show Below W18.heap.size W18 w19 from((Below.refl _ _).drew:Below W18.heap.size W18 W18.drew).trans hb19);obtain⟨E1,M1,t1,rfl⟩:=hun.frm;obtain⟨E2,M2,t2,rfl⟩:=hud.frm;have HUN:=zh (And.intro hun hud);clear hun hud hb19)
         go_wp2_with fail
         refine hK.out _ _ ?_ (fun hHeld=>?_)
         ·exact HS19.out _ (HB19.out.mono HSZ.out.1)
         clear hK K
         (try simp only[Act.put,z1,z2,z3])
         refine readyT (rs:=[18]) (by kernel_rfl) (by simp) ?_
         refine AllReadyT.cons rfl (fun K hK=>?_) ?_
         ·go_simp
          refine hK.out _ _ ?_ (fun hHeld=>?_)
          ·exact HS19.out _ ((HB19.out.alloc HB19.out.size _).mono HSZ.out.1)
          clear hK K
          (try simp only[Act.put,z1,z2,z3])
          refine readyT (rs:=[19]) (by kernel_rfl) (by simp) ?_
          refine AllReadyT.cons rfl (fun K hK=>?_) ?_
          ·rw[if_pos (by rfl)]
           have hal:Below W18.heap.size W18 (w19.alloc (.cells #[.bool false,.slice E1 M1 t1,.slice E2 M2 t2] 26)):=HB19.out.alloc HB19.out.size _
           have hfz:∀b,Fr W18.heap.size w19.heap.size b→Fz B (w19.alloc (.cells #[.bool false,.slice E1 M1 t1,.slice E2 M2 t2] 26)).heap.size (.slice (some ⟨q1,0,none⟩) (s+1) c1) b:=fun b hb=>⟨by have:=hb.1;have:=HSZ.out;omega,by have:=hb.2;simp;omega,fun e=>by simp[Value.ownBlock] at e;have:=hb.1;have:=HSZ.out;omega⟩
           have hkk:Kept (Fr W18.heap.size w19.heap.size) w19 (w19.alloc (.cells #[.bool false,.slice E1 M1 t1,.slice E2 M2 t2] 26)):=fun b hb=>Below.heap_alloc _ _ b hb.2
           obtain⟨q2,c2,w20,hrun,hq2,ho2,hb20⟩:=app_rep (w19.alloc (.cells #[.bool false,.slice E1 M1 t1,.slice E2 M2 t2] 26)) 53 B W17.heap.size q1 (s+1) c1 w19.heap.size (List.replicate (s+1) ⟨false,1,2⟩) ⟨false,1,2⟩ (.slice E1 M1 t1) (.slice E2 M2 t2) (OwnK.stayF frcK HOW.out (hot:=[]) (HotBy.below hal) (fun b hb=>by simp at hb)) (by simp) HSZ.out.2.1 (by have:=hal.size;have:=HSZ.out;omega) HCS.out (fun j u hu=>by rw[cell_of_row _ _ _ _ _ _ (heap_alloc_new w19 _),Nat.zero_add,←Array.getElem?_toList];exact hu) ((HUN.out.1.keep hkk).mono hfz) ((HUN.out.2.keep hkk).mono hfz) (by have:=HSZ.out;omega)
           have HB20:=zh (show Below W17.heap.size W18 w20 from(hal.mono HSZ.out.1).trans hb20)
           have HO20:=zh ho2
           have HQ2:=zh hq2
           have HA20:=zh (show RowA 17 PolK2 w20 55 gP kP ES (NotG (fun b=>Z0 b∨b=gF∨b=gR) W17 gP gP gP) from HO.out.keep polK2 (fun b hb=>HB20.out.block b hb.1) (HB20.out.block gP HL17.out.1))
           have zz:w20.frozen? ⟨gP,pi * 17+10,none⟩=false:=HA20.out.froze _
           obtain⟨xx,hxx⟩:=Option.isSome_iff_exists.1 (HA20.out.there (o:=pi * 17) (m:=17) HKC.out 10 (by omega)).1
           refine wp_appF (.tmp 133) (.tmp 147) rfl _ _ _ w20 (by rfl) (by rfl) hrun ?_
           clear hrun hal hfz hkk ho2 hq2 hb20
           refine hK.out _ _ ?_ (fun hHeld=>?_)
           ·exact HS19.out _ HB20.out
           clear hK K
           (try simp only[Act.put,z1,z2,z3])
           refine tk 20 149 ?_
           refine tk 21 150 ?_
           refine readyT (rs:=[22]) (by kernel_rfl) (by simp) ?_
           refine AllReadyT.consT rfl rfl (fun K hK=>?_) ?_
           ·rw[if_pos (by rfl)]
            go_simp
            refine hK.out _ _ ?_
            clear hK K
            (try simp only[Act.put,z1,z2,z3])
            refine doneT (by kernel_rfl) ?_ _
            clear hHeld
            have hpi:=(List.getElem?_eq_some_iff.1 HX.out).1
            have hes:ES[pi]?=some (y3,false):=by rw[HEE.out,List.getElem?_set_self (by simpa using hpi)]
            obtain⟨W21,hW21⟩:=zx (w20.setCell ⟨gP,pi * 17+10,none⟩ (.slice (some ⟨q2,0,none⟩) (s+1+1) c2))
            have ha21:RowA 17 PolK2 W21 55 gP kP ES (NotG (fun b=>Z0 b∨b=gF∨b=gR) W17 gP gP gP):=by
             rw[hW21]
             exact RowA.same polK2 HA20.out (k:=pi) (o:=10) [.slice (some ⟨q2,0,none⟩) (s+1+1) c2] hes (by simp) (fun b h=>h) HA20.out.apart (fun c h=>by
              rcases h with ⟨h,-⟩ | ⟨-,va,vb,vc,vd,ve,vf,rfl,i1,i3,i4,i5,i6⟩
              ·exact absurd h (by simp)
              ·exact .inr ⟨rfl,va,_,vc,vd,ve,vf,rfl,i1,i3,i4,i5,i6⟩)
            have hb20:=HB20.out
            have hh20:HotBy [some gP] W17 w20:=⟨hb20.os.trans HH.out.os,hb20.tape.trans HH.out.tape,hb20.output.trans HH.out.output,Nat.le_trans HH.out.size hb20.size,fun b hb hn=>(hb20.block b hb).trans (HH.out.block b hb hn)⟩
            have hs21:HotBy [some gP] w20 W21:=by rw[hW21];exact HotBy.setCell _ _ _ _ (by simp)
            have hc21:W21.cell? ⟨gP,pi * 17+10,none⟩=some (.slice (some ⟨q2,0,none⟩) (s+1+1) c2):=by
             rw[hW21]
             exact World.cell?_setCell_same' _ _ _ (by rw[hxx];rfl)
            have ho21:=OwnK.stayF frcK HO20.out hs21 (fun b hb=>by simp at hb;subst hb;exact .inl HBL.out.1)
            rw[←List.replicate_succ'] at ho21
            rw[←hW21]
            have HH21:=zh (hh20.trans hs21)
            have HA21:=zh ha21
            have HC21:=zh hc21
            have HO21:=zh ho21
            clear hW21 ha21 hb20 hh20 hs21 hc21 ho21 hes hpi zz xx hxx HA20 HO20 HB20
            go_wp2_with fail
            go_roundg (MM - (s+1+1))
            case measure=>have:=HMM.out;omega
            case rel=>exact⟨s+1+1,q2,c2,by omega,by have:=HMM.out;omega,rfl,HH21,HA21,HC21,HO21,zh (.inl HQ2.out)⟩
           exact AllReadyT.nil
          exact AllReadyT.nil
         exact AllReadyT.nil
        exact AllReadyT.nil
       exact AllReadyT.nil
      ·have hrm:r=MM:=by have:=HMM.out;omega
       have hbl:=HBL.out
       have HGF18:=zh (show W18.rangeAt gF 0 [.int .i64 EX,.slice El ml tl,.slice Em mm tm,.slice Ed md tdd,.slice Ev mv tv,.slice (some ⟨gP,0,none⟩) NP kP,.slice Eo mo too] from range_same HGF17.out (HH.out.block gF (by have:=HL17.out;omega) (by simp;omega)))
       have HTH:=zh (show W18.there gR 0 7 from there_new ((HH.out.block gR (Array.getElem?_eq_some_iff.1 HRK17.out).1 (by simp;omega)).trans HRK17.out) (Nat.le_refl 7))
       clear hbl
       go_upto_region 20 with fail
       clear e10
       refine wp_region_lit ?_
       refine wpList_load_mid rfl 35 (.tmp 5) rfl gF 0 (by rfl) [.int .i64 EX,.slice El ml tl,.slice Em mm tm,.slice Ed md tdd,.slice Ev mv tv,.slice (some ⟨gP,0,none⟩) NP kP,.slice Eo mo too] _ HGF18.out Tryz.underlying35 rfl size_fltE ?_
       (try simp only[Act.put,z1,z2,z3])
       refine wpList_store_mid rfl 35 (.tmp 10) (.tmp 151) rfl gR 0 #[.int .i64 EX,.slice El ml tl,.slice Em mm tm,.slice Ed md tdd,.slice Ev mv tv,.slice (some ⟨gP,0,none⟩) NP kP,.slice Eo mo too] (by rfl) (by rfl) HTH.out size_fltE (by simp[Value.oneCell']) ?_
       (try simp only[Act.put,z1,z2,z3])
       have hgr:=World.rangeAt_setCells_same _ _ _ [.int .i64 EX,.slice El ml tl,.slice Em mm tm,.slice Ed md tdd,.slice Ev mv tv,.slice (some ⟨gP,0,none⟩) NP kP,.slice Eo mo too] HTH.out
       have hkp:∀b,b≠gR→(World.setCells W18 gR 0 [.int .i64 EX,.slice El ml tl,.slice Em mm tm,.slice Ed md tdd,.slice Ev mv tv,.slice (some ⟨gP,0,none⟩) NP kP,.slice Eo mo too]).heap[b]?=W18.heap[b]?:=fun b hb=>setCells_other _ _ _ _ hb
       have hsz:=setCells_sizeK (g:=gR) [.int .i64 EX,.slice El ml tl,.slice Em mm tm,.slice Ed md tdd,.slice Ev mv tv,.slice (some ⟨gP,0,none⟩) NP kP,.slice Eo mo too] 0 W18
       have hfl:=setCells_flat (g:=gR) [.int .i64 EX,.slice El ml tl,.slice Em mm tm,.slice Ed md tdd,.slice Ev mv tv,.slice (some ⟨gP,0,none⟩) NP kP,.slice Eo mo too] 0 W18
       obtain⟨W19,hW19⟩:=zx (World.setCells W18 gR 0 [.int .i64 EX,.slice El ml tl,.slice Em mm tm,.slice Ed md tdd,.slice Ev mv tv,.slice (some ⟨gP,0,none⟩) NP kP,.slice Eo mo too])
       rw[←hW19] at hgr hkp hsz hfl ⊢
       clear hW19
       have HGR:=zh hgr
       have HKP:=zh hkp
       have HSZ:=zh hsz
       have HFL:=zh hfl
       clear hgr hkp hsz hfl
       go_wp2_with fail
       have hld:=run_loadVar_mid (P:=Tryz.prog) W19 gR 0 35 _ _ HGR.out Tryz.underlying35 rfl size_fltE
       have hbl:=HBL.out
       have hl17:=HL17.out
       have hhs:=HH.out.size
       have hpi:=(List.getElem?_eq_some_iff.1 HX.out).1
       have hbw:Below w.heap.size w W19:=by
        have h1:=HBW17.out
        have h2:=HH.out
        refine⟨HFL.out.1.trans (h2.os.trans h1.os),HFL.out.2.1.trans (h2.tape.trans h1.tape),HFL.out.2.2.trans (h2.output.trans h1.output),by rw[HSZ.out];exact Nat.le_trans h1.size h2.size,fun b hb=>?_⟩
        have hgf:=HG.out
        rw[HKP.out b (by omega)]
        exact(h2.block b (Nat.lt_of_lt_of_le hb h1.size) (by simp;omega)).trans (h1.block b hb)
       have hkr:∀b,NotG (fun b=>Z0 b∨b=gF∨b=gR) W17 gP gP gP b→W19.heap[b]?=W17.heap[b]?:=fun b hb=>(HKP.out b (fun e=>hb.2.2.2.2 (.inr (.inr e)))).trans (HH.out.block b hb.1 (by simp;exact hb.2.1))
       have hmr:∀b,NotG (fun b=>Z0 b∨b=gF∨b=gR) W17 gP gP gP b→BlZ Z0 W19.heap.size b:=fun b hb=>⟨by rw[HSZ.out];exact Nat.lt_of_lt_of_le hb.1 hhs,fun e=>hb.2.2.2.2 (.inl e)⟩
       have hup:upP x m q={ y3 with repair:=List.replicate r ⟨false,1,2⟩ }:=by
        rw[HY3.out,hrm,HMM.out.1]
        unfold upP
        rw[←HTG.out]
       have hpa:RowA 17 PolK W18 55 gP kP (raiseM F pi m q).pols (NotG (fun b=>Z0 b∨b=gR) W18 gP gP gP):=HO.out.imp (fun e=>e.2.1 rfl) (by rw[raise_len,HEE.out];simp) (fun k y a ha hy c hcl hrg hc=>by
        have hsub:∀b,NotG (fun b=>Z0 b∨b=gF∨b=gR) W17 gP gP gP b→NotG (fun b=>Z0 b∨b=gR) W18 gP gP gP b:=fun b hb=>⟨Nat.lt_of_lt_of_le hb.1 hhs,hb.2.1,hb.2.2.1,hb.2.2.2.1,fun e=>by rcases e with e | e;exact hb.2.2.2.2 (.inl e);exact hb.2.2.2.2 (.inr (.inr e))⟩
        rw[HEE.out] at hy
        by_cases hk:pi=k
        ·subst hk
         rw[List.getElem?_set_self (by simpa using hpi)] at hy
         injection hy with hy
         subst hy
         rw[raise_at HX.out] at ha
         injection ha with ha
         rw[hup] at ha
         subst ha
         rcases hc with ⟨h,-⟩ | ⟨-,va,vb,vc,vd,ve,vf,rfl,i1,i3,i4,i5,i6⟩
         ·exact absurd h (by simp)
         ·have h10:=hrg 10 vb rfl
          rw[HCE.out] at h10
          injection h10 with h10
          subst h10
          have hsl:=OwnK.slS frcK HOW.out (R':=NotG (fun b=>Z0 b∨b=gR) W18 gP gP gP) (fun b hb=>⟨hb.2.1,by have:=hb.1;omega,by have:=hb.1;omega,by have:=hb.1;omega,fun e=>by have h9:=hb.1;rcases e with e | e;have h8:=HZ0.out b e;omega;omega⟩) (fun b hb=>by have:=OwnK.lt HOW.out b hb;exact⟨this.2,by omega,by omega,by omega,fun e=>by rcases e with e | e;have h8:=HZ0.out b e;omega;omega⟩)
          exact⟨va,_,vc,vd,ve,vf,rfl,i1.mono hsub,hsl,i3.mono hsub,i4.mono hsub,i5.mono hsub,i6.mono hsub⟩
        ·rw[List.getElem?_set_ne hk,List.getElem?_map] at hy
         rw[raise_other hk] at ha
         rw[ha] at hy
         injection hy with hy
         subst hy
         rcases hc with ⟨-,h⟩ | ⟨h,-⟩
         ·exact polK.mono hsub h
         ·exact absurd h (by simp))
       have hps:SlS 17 PolK W19 (BlZ Z0 W19.heap.size) (.slice (some ⟨gP,0,none⟩) NP kP) (raiseM F pi m q).pols:=by
        have h:=RowA.slS polK (hpa.keep polK (w':=W19) (fun b hb=>HKP.out b (fun e=>hb.2.2.2.2 (.inr e))) (HKP.out gP (by omega))) (R':=BlZ Z0 W19.heap.size) (fun b hb=>⟨by rw[HSZ.out];exact hb.1,fun e=>hb.2.2.2.2 (.inl e)⟩) ⟨by rw[HSZ.out];omega,fun e=>by have h8:=HZ0.out gP e;omega⟩
        rw[raise_len,←HNP.out] at h
        exact h
       refine bodyPost_ret (v:=.tuple #[.agg #[.int .i64 EX,.slice El ml tl,.slice Em mm tm,.slice Ed md tdd,.slice Ev mv tv,.slice (some ⟨gP,0,none⟩) NP kP,.slice Eo mo too],.int .i64 0]) (by simp[results,Tryz.results11,asAddr,hld]) rfl ⟨hbw,.inr ⟨H4M.out,_,_,_,_,_,_,rfl,?_,?_,?_,?_,hps,?_⟩⟩
       ·exact(SlS.keep lawK HC17.out.laws hkr).mono lawK hmr
       ·exact(SlS.keep modK HC17.out.models hkr).mono modK hmr
       ·exact(SlS.keep domK HD17.out hkr).mono domK hmr
       ·exact(SlS.keep dveK HC17.out.dves hkr).mono dveK hmr
       ·exact(SlS.keep volK HC17.out.vols hkr).mono volK hmr
    exact AllReadyT.nil
   exact AllReadyT.nil
  exact AllReadyT.nil
 ·have HCO:=zh (code_no K0 m W13 (by have:=HKM.out;omega) (by have:=HKM.out;omega) (by have:=HKM.out;omega) (by omega))
  have H4M:=zh h4m
  clear h4m
  go_upto_region 13 with fail
  go_wp2_with fail
  refine HCO.out.mono ?_
  rintro e w' ⟨rfl,rfl⟩
  have HTH:=zh (show W13.there gR 0 7 from there_new (HR7.out W13 (HA1.out W13 HB13.out)) (Nat.le_refl 7))
  clear d0 d1 d2 e11 e12 e13 HCO
  go_upto_region 14 with fail
  clear e1 e2
  refine wp_region_lit ?_
  refine wpList_plain rfl (fun K hK=>?_)
  go_simp
  refine hK _ _ ?_
  clear hK
  (try simp only[Act.put,z1,z2,z3])
  refine wpList_store_mid rfl 35 (.tmp 10) (.tmp 103) rfl gR 0 #[.int .i64 0,.slice none 0 0,.slice none 0 0,.slice none 0 0,.slice none 0 0,.slice none 0 0,.slice none 0 0] (by rfl) (by rfl) HTH.out size_fltE (by simp[Value.oneCell']) ?_
  (try simp only[Act.put,z1,z2,z3])
  have hgr:=World.rangeAt_setCells_same _ _ _ [.int .i64 0,.slice none 0 0,.slice none 0 0,.slice none 0 0,.slice none 0 0,.slice none 0 0,.slice none 0 0] HTH.out
  have hbw:Below w.heap.size w (World.setCells W13 gR 0 [.int .i64 0,.slice none 0 0,.slice none 0 0,.slice none 0 0,.slice none 0 0,.slice none 0 0,.slice none 0 0]):=below_setCellsV (by have:=HG.out;omega) _ _ _ (HBK.out W13 (HA1.out W13 HB13.out))
  obtain⟨W15,hW15⟩:=zx (World.setCells W13 gR 0 [.int .i64 0,.slice none 0 0,.slice none 0 0,.slice none 0 0,.slice none 0 0,.slice none 0 0,.slice none 0 0])
  rw[←hW15] at hgr hbw ⊢
  clear hW15
  have HGR:=zh hgr
  have HBW:=zh hbw
  clear hgr hbw
  go_wp2_with fail
  have hld:=run_loadVar_mid (P:=Tryz.prog) W15 gR 0 35 _ _ HGR.out Tryz.underlying35 rfl size_fltE
  exact bodyPost_ret (v:=.tuple #[.agg #[.int .i64 0,.slice none 0 0,.slice none 0 0,.slice none 0 0,.slice none 0 0,.slice none 0 0,.slice none 0 0],.int .i64 5]) (by simp[results,Tryz.results11,asAddr,hld]) rfl ⟨HBW.out,.inl ⟨by have:=H4M.out;omega,rfl⟩⟩
end Go.Proofs.YtgfaieppacabjaaGreat
