/- drydockref10.Equal on equal fleets, walked. -/
import Derived.BigQuiet
import Derived.Deep.QuietTactic
import Derived.Deep.MidRow
import Derived.Laws.StructEq
import Derived.Test.YtgfaieppacabjaaGreatMw22
import Derived.Test.YtgfaieppacabjaaGreatMw01
set_option linter.unusedSectionVars false
set_option maxRecDepth 100000
set_option maxHeartbeats 12800000
namespace Go.Proofs.YtgfaieppacabjaaGreat
open Go.RowKit
set_option linter.unusedVariables false
set_option linter.unusedSimpArgs false
theorem und52:Tryz.prog.underlying 52=some (.array 5 3):=by kernel_rfl
theorem eq52(a b c d f:Int) (w:World):(Op.equalIn 10000 52 (.agg #[.int .i64 a,.int .i64 b,.int .i64 c,.int .i64 d,.int .i64 f]) (.agg #[.int .i64 a,.int .i64 b,.int .i64 c,.int .i64 d,.int .i64 f])).run Tryz.prog w=.ok true w:=by
 have u3:=Tryz.underlying3
 have a3:=Tryz.isAgg3
 have z3:=Tryz.sizeOf3
 rw[show(10000:Nat)=9999+1 from rfl,Op.equalIn]
 simp only[Sem.run_bind,run_underlying und52,Result.andThen_ok]
 simp only[Std.Legacy.Range.forIn_eq_forIn_range',Std.Legacy.Range.size,Nat.sub_zero,Nat.add_sub_cancel,Nat.div_one,List.range'_succ,List.range'_zero,List.forIn_cons,List.forIn_nil]
 go_simp
theorem size_lawI:(Tryz.prog.info? 96).map (·.size)=some 4:=by kernel_rfl
theorem size_modI:(Tryz.prog.info? 98).map (·.size)=some 4:=by kernel_rfl
theorem size_dveI:(Tryz.prog.info? 102).map (·.size)=some 3:=by kernel_rfl
theorem size_volI:(Tryz.prog.info? 106).map (·.size)=some 2:=by kernel_rfl
theorem size_domI:(Tryz.prog.info? 100).map (·.size)=some 7:=by kernel_rfl
theorem size_polI:(Tryz.prog.info? 55).map (·.size)=some 17:=by kernel_rfl
theorem laws_frc{N:Nat} {F:FltM} (h:FleetOk N F) {j:Nat} {x:LawM} (hx:F.laws[j]?=some x):(∀y∈x.start,FrcOk y)∧(∀y∈x.exit,FrcOk y)∧∀l∈x.rates,∀y∈l,FrcOk y:=by
 obtain⟨r,hr,hl⟩:=h.laws
 rw[hl] at hx
 have hm:=List.mem_of_getElem? hx
 rw[List.mem_singleton] at hm
 subst hm
 refine⟨fun y hy=>?_,fun y hy=>?_,fun l hl y hy=>?_⟩
 ·rw[List.mem_singleton] at hy;subst hy;exact⟨rfl,by decide,by decide⟩
 ·rw[List.mem_singleton] at hy;subst hy;exact⟨rfl,by show 0<100+r;omega,by show 1 * (100+r)<4294967296;omega⟩
 ·rw[List.mem_singleton] at hl;subst hl
  rw[List.mem_singleton] at hy;subst hy;exact⟨rfl,by decide,by decide⟩
theorem doms_frc{N:Nat} {F:FltM} (h:FleetOk N F) {j:Nat} {x:DomM} (hx:F.doms[j]?=some x):x.shock=⟨false,0,1⟩:=by
 cases j with
 | zero =>
  have h0:=h.doms.root
  rw[hx] at h0
  injection h0 with h0
  subst h0
  rfl
 | succ j=>exact(h.doms.rest _ x hx (by omega)).2.2.2.2.2.2
theorem equal_any(N:Nat) (al am ad av ap ao bl bm bd bv bp bo:Value) (F:FltM) (w:World) (ha:FleetS w (Bl w.heap.size) al am ad av ap ao F) (hb:FleetS w (Bl w.heap.size) bl bm bd bv bp bo F) (hok:FleetOk N F) :
  Calls Tryz.prog 14 #[.agg #[.int .i64 F.ext,al,am,ad,av,ap,ao],.agg #[.int .i64 F.ext,bl,bm,bd,bv,bp,bo]] w fun e w'=>e=.returned (.bool true)∧Below w.heap.size w w':=by
 obtain⟨Al,cl,h1,-,g1⟩:=ha.1.form
 obtain⟨Am,cm,h2,-,g2⟩:=ha.2.1.form
 obtain⟨Ad,cd,h3,-,g3⟩:=ha.2.2.1.form
 obtain⟨Av,cv,h4,-,g4⟩:=ha.2.2.2.1.form
 obtain⟨Ap,cp,h5,-,g5⟩:=ha.2.2.2.2.1.form
 obtain⟨Ao,co,h6,-,g6⟩:=ha.2.2.2.2.2.form
 obtain⟨Cl,kl,f1,-⟩:=hb.1.form
 obtain⟨Cm,km,f2,-⟩:=hb.2.1.form
 obtain⟨Cd,kd,f3,-⟩:=hb.2.2.1.form
 obtain⟨Cv,kv,f4,-⟩:=hb.2.2.2.1.form
 obtain⟨Cp,kp,f5,-⟩:=hb.2.2.2.2.1.form
 obtain⟨Co,ko,f6,-⟩:=hb.2.2.2.2.2.form
 unfold maxLen at g1 g2 g3 g4 g5 g6
 obtain⟨EX,hEX⟩:=zx F.ext
 obtain⟨NL,hNL⟩:=zx F.laws.length
 obtain⟨NM,hNM⟩:=zx F.models.length
 obtain⟨ND,hND⟩:=zx F.doms.length
 obtain⟨NV,hNV⟩:=zx F.dves.length
 obtain⟨NP,hNP⟩:=zx F.pols.length
 obtain⟨NO,hNO⟩:=zx F.vols.length
 rw[←hNL] at h1 f1 g1
 rw[←hNM] at h2 f2 g2
 rw[←hND] at h3 f3 g3
 rw[←hNV] at h4 f4 g4
 rw[←hNP] at h5 f5 g5
 rw[←hNO] at h6 f6 g6
 subst h1 h2 h3 h4 h5 h6 f1 f2 f3 f4 f5 f6
 rw[←hEX]
 obtain⟨W1,hW1⟩:=zx ((w.alloc (.cells #[.int .i64 EX,.slice Al NL cl,.slice Am NM cm,.slice Ad ND cd,.slice Av NV cv,.slice Ap NP cp,.slice Ao NO co] 35)).alloc (.cells #[.int .i64 EX,.slice Cl NL kl,.slice Cm NM km,.slice Cd ND kd,.slice Cv NV kv,.slice Cp NP kp,.slice Co NO ko] 35))
 obtain⟨gA,hgA⟩:=zx w.heap.size
 obtain⟨gB,hgB⟩:=zx (w.heap.size+1)
 have hb1:Below w.heap.size w W1:=by rw[hW1];exact((Below.refl _ _).alloc (Nat.le_refl _) _).alloc (by simp) _
 have i1:W1.heap[gA]?=some (.cells #[.int .i64 EX,.slice Al NL cl,.slice Am NM cm,.slice Ad ND cd,.slice Av NV cv,.slice Ap NP cp,.slice Ao NO co] 35 (0,0)):=by rw[hW1,hgA];exact(Below.heap_alloc _ _ _ (by simp)).trans (heap_alloc_new _ _)
 have i2:W1.heap[gB]?=some (.cells #[.int .i64 EX,.slice Cl NL kl,.slice Cm NM km,.slice Cd ND kd,.slice Cv NV kv,.slice Cp NP kp,.slice Co NO ko] 35 (0,0)):=by rw[hW1,hgB];exact heap_alloc_at _ _ _ (by simp)
 have l1:=(Array.getElem?_eq_some_iff.1 i1).1
 have l2:=(Array.getElem?_eq_some_iff.1 i2).1
 have HK:=zh (show ∀w',Below W1.heap.size W1 w'→(w'.heap[gA]?=some (.cells #[.int .i64 EX,.slice Al NL cl,.slice Am NM cm,.slice Ad ND cd,.slice Av NV cv,.slice Ap NP cp,.slice Ao NO co] 35 (0,0))∧w'.heap[gB]?=some (.cells #[.int .i64 EX,.slice Cl NL kl,.slice Cm NM km,.slice Cd ND kd,.slice Cv NV kv,.slice Cp NP kp,.slice Co NO ko] 35 (0,0))∧Below w.heap.size w w') from fun w' hb=>⟨(hb.block gA l1).trans i1,(hb.block gB l2).trans i2,hb1.trans (hb.mono hb1.size)⟩)
 have HFA:=zh ha
 have HFB:=zh hb
 have HOK:=zh hok
 have HL:=zh (And.intro hNL (And.intro hNM (And.intro hND (And.intro hNV (And.intro hNP hNO)))))
 have HEX:=zh hEX
 have HW:=zh (And.intro hW1 (And.intro hgA hgB))
 have b0:(EX != EX)=false:=by simp
 have b1:((NL:Int) != (NL:Int))=false:=by simp
 have b2:((NM:Int) != (NM:Int))=false:=by simp
 have b3:((ND:Int) != (ND:Int))=false:=by simp
 have b4:((NV:Int) != (NV:Int))=false:=by simp
 have b5:((NP:Int) != (NP:Int))=false:=by simp
 have b6:((NO:Int) != (NO:Int))=false:=by simp
 clear ha hb hok hEX hNL hNM hND hNV hNP hNO hW1 hgA hgB hb1 i1 i2 l1 l2
 go_enter Tryz.func14,Tryz.ntmps14
 go_upto_region 1 with fail
 rw[←HW.out.1,←HW.out.2.1,show gA+1=gB by (have:=HW.out;omega)]
 have HB:=zh (Below.refl W1.heap.size W1)
 obtain⟨c0,c1,c2,c3,c4,c5,c6⟩:=cells7 (HK.out W1 (Below.refl _ _)).1
 obtain⟨d0,d1,d2,d3,d4,d5,d6⟩:=cells7 (HK.out W1 (Below.refl _ _)).2.1
 go_upto_region 3 with fail
 clear c0 c1 c2 c3 c4 c5 c6 d0 d1 d2 d3 d4 d5 d6 b0 b1 b2 b3 b4 b5 b6
 go_wp2_with fail
 go_loopg [5] NL (fun z v wr=>∃j:Nat,j≤NL∧z=NL - j∧v=.int .i64 (j:Int)∧Hid (Below W1.heap.size W1 wr))
 case atStart=>exact⟨0,by omega,rfl,rfl,HB⟩
 case round =>
  clear HB
  obtain⟨j,hj,rfl,rfl,HB⟩:=hrel
  obtain⟨W4,hW4⟩:=zx wr
  rw[←hW4] at HB ⊢
  clear hW4
  obtain⟨c0,c1,c2,c3,c4,c5,c6⟩:=cells7 (HK.out W4 HB.out).1
  by_cases hlt:j<NL
  ·have hjl:j<F.laws.length:=by have:=HL.out;omega
   have lj:(j:Int)<(NL:Int):=by omega
   obtain⟨b,off,cs,hAe,hR,-,hc,hcs⟩:=HFA.out.1.at_ (k:=j) hjl
   obtain⟨b',off',cs',hBe,hR',-,hc',hcs'⟩:=HFB.out.1.at_ (k:=j) hjl
   subst hAe;subst hBe
   obtain⟨x,hx⟩:∃x,F.laws[j]?=some x:=⟨_,List.getElem?_eq_getElem hjl⟩
   rw[(List.getElem?_eq_some_iff.1 hx).2] at hcs hcs'
   have HX:=zh hx
   clear hx hjl
   obtain⟨v1,v2,v3,rfl,i1,i2,i3⟩:=hcs
   obtain⟨u1,u2,u3,rfl,i4,i5,i6⟩:=hcs'
   obtain⟨E1,m1,p1,rfl⟩:=i1.form3
   obtain⟨E2,m2,p2,rfl⟩:=i2.form3
   obtain⟨E3,m3,p3,rfl⟩:=i3.form3
   obtain⟨F1,n1,q1,rfl⟩:=i4.form3
   obtain⟨F2,n2,q2,rfl⟩:=i5.form3
   obtain⟨F3,n3,q3,rfl⟩:=i6.form3
   obtain⟨hf1,hf2,hf3⟩:=laws_frc HOK.out HX.out
   have hr1:w.rangeAt b (off+j * 4) [.string x.name,.slice E1 m1 p1,.slice E2 m2 p2,.slice E3 m3 p3]:=fun i u hu=>hc i u hu
   have hr2:w.rangeAt b' (off'+j * 4) [.string x.name,.slice F1 n1 q1,.slice F2 n2 q2,.slice F3 n3 q3]:=fun i u hu=>hc' i u hu
   have HSR:=zh (show ∀w',Below W1.heap.size W1 w'→(fun w'=>w'.cell? ⟨gA,1,none⟩=some (.slice (some ⟨b,off,none⟩) NL cl)∧w'.cell? ⟨gB,1,none⟩=some (.slice (some ⟨b',off',none⟩) NL kl)∧w'.rangeAt b (off+j * 4) [.string x.name,.slice E1 m1 p1,.slice E2 m2 p2,.slice E3 m3 p3]∧w'.rangeAt b' (off'+j * 4) [.string x.name,.slice F1 n1 q1,.slice F2 n2 q2,.slice F3 n3 q3]) w' from fun w' hb=>by
    obtain⟨c0,c1,c2,c3,c4,c5,c6⟩:=cells7 (HK.out w' hb).1
    obtain⟨d0,d1,d2,d3,d4,d5,d6⟩:=cells7 (HK.out w' hb).2.1
    exact⟨c1,d1,range_same hr1 ((HK.out w' hb).2.2.block b hR),range_same hr2 ((HK.out w' hb).2.2.block b' hR')⟩)
   have HSF:=zh (fun(w':World) (hb:Below w.heap.size w w')=>slaw9_any _ _ _ _ _ _ x w' (SlS.below frcK i1 hb) (SlS.below rowFK i2 hb) (SlS.below frcK i3 hb) (SlS.below frcK i4 hb) (SlS.below rowFK i5 hb) (SlS.below frcK i6 hb) hf1 hf2 hf3)
   clear hc hc' hr1 hr2 hR hR' i1 i2 i3 i4 i5 i6 hf1 hf2 hf3
   go_upto_region 6 with fail
   clear c0 c1 c2 c3 c4 c5 c6
   refine region_tail (S:=(fun w'=>w'.cell? ⟨gA,1,none⟩=some (.slice (some ⟨b,off,none⟩) NL cl)∧w'.cell? ⟨gB,1,none⟩=some (.slice (some ⟨b',off',none⟩) NL kl)∧w'.rangeAt b (off+j * 4) [.string x.name,.slice E1 m1 p1,.slice E2 m2 p2,.slice E3 m3 p3]∧w'.rangeAt b' (off'+j * 4) [.string x.name,.slice F1 n1 q1,.slice F2 n2 q2,.slice F3 n3 q3])) [] (by kernel_rfl) (HSR.out _ HB.out.drew) (fun hHeld=>?_)
   refine tk 0 81 ?_
   refine tk 1 82 ?_
   refine tk 2 83 ?_
   refine tk 3 84 ?_
   refine takeT (i:=4) (d:=85) (v:=(.agg #[.string x.name,.slice E1 m1 p1,.slice E2 m2 p2,.slice E3 m3 p3])) rfl rfl (by kernel_rfl) (by kernel_rfl) (by kernel_rfl) (by kernel_rfl) (fun _ _ _ h=>h) (yieldsIf_load_mid (by rfl) 96 (.tmp 84) rfl b (off+j * 4) (by rfl) [.string x.name,.slice E1 m1 p1,.slice E2 m2 p2,.slice E3 m3 p3] _ (fun w hw=>hw.2.2.1) Tryz.underlying96 rfl size_lawI) (by assumption) ?_
   (try simp only[Act.put,z1,z2,z3])
   refine tk 5 86 ?_
   refine tk 6 87 ?_
   refine tk 7 88 ?_
   refine tk 8 89 ?_
   refine takeT (i:=9) (d:=90) (v:=(.agg #[.string x.name,.slice F1 n1 q1,.slice F2 n2 q2,.slice F3 n3 q3])) rfl rfl (by kernel_rfl) (by kernel_rfl) (by kernel_rfl) (by kernel_rfl) (fun _ _ _ h=>h) (yieldsIf_load_mid (by rfl) 96 (.tmp 89) rfl b' (off'+j * 4) (by rfl) [.string x.name,.slice F1 n1 q1,.slice F2 n2 q2,.slice F3 n3 q3] _ (fun w hw=>hw.2.2.2) Tryz.underlying96 rfl size_lawI) (by assumption) ?_
   (try simp only[Act.put,z1,z2,z3])
   refine readyT (rs:=[10]) (by kernel_rfl) (by simp) ?_
   refine AllReadyT.cons rfl (fun K hK=>?_) ?_
   ·go_simp
    (go_at_call 38;refine(HSF.out _ (HK.out _ HB.out.drew).2.2).mono ?_;rintro e w9 ⟨rfl,hb9⟩;have HX9:=zh (show Below W1.heap.size W1 w9 from HB.out.drew.trans (hb9.mono HB.out.drew.size));clear hb9)
    go_wp2_with fail
    refine hK.out _ _ ?_ (fun hHeld=>?_)
    ·exact HSR.out _ HX9.out
    clear hK K
    (try simp only[Act.put,z1,z2,z3])
    refine tk 11 92 ?_
    refine doneT (by kernel_rfl) ?_ _
    clear hHeld
    go_wp2_with fail
    go_roundg (NL - (j+1))
    case measure=>omega
    case rel=>exact⟨j+1,by omega,rfl,by go_num,HX9⟩
   exact AllReadyT.nil
  ·have hx:=hlt
   go_wp2_with fail
   clear c0 c1 c2 c3 c4 c5 c6
   go_loopg [6] NM (fun z v wr=>∃j:Nat,j≤NM∧z=NM - j∧v=.int .i64 (j:Int)∧Hid (Below W1.heap.size W1 wr))
   case atStart=>exact⟨0,by omega,rfl,rfl,HB⟩
   case round =>
    clear HB
    obtain⟨j,hj,rfl,rfl,HB⟩:=hrel
    obtain⟨W4,hW4⟩:=zx wr
    rw[←hW4] at HB ⊢
    clear hW4
    obtain⟨c0,c1,c2,c3,c4,c5,c6⟩:=cells7 (HK.out W4 HB.out).1
    by_cases hlt:j<NM
    ·have hjl:j<F.models.length:=by have:=HL.out;omega
     have lj:(j:Int)<(NM:Int):=by omega
     obtain⟨b,off,cs,hAe,hR,-,hc,hcs⟩:=HFA.out.2.1.at_ (k:=j) hjl
     obtain⟨b',off',cs',hBe,hR',-,hc',hcs'⟩:=HFB.out.2.1.at_ (k:=j) hjl
     subst hAe;subst hBe
     obtain⟨x,hx⟩:∃x,F.models[j]?=some x:=⟨_,List.getElem?_eq_getElem hjl⟩
     rw[(List.getElem?_eq_some_iff.1 hx).2] at hcs hcs'
     have HX:=zh hx
     clear hx hjl
     unfold ModK at hcs hcs'
     subst hcs hcs'
     have hr1:w.rangeAt b (off+j * 4) [.string x.name,.int .i64 x.ext,.int .i64 x.port,.int .i64 x.law]:=fun i u hu=>hc i u hu
     have hr2:w.rangeAt b' (off'+j * 4) [.string x.name,.int .i64 x.ext,.int .i64 x.port,.int .i64 x.law]:=fun i u hu=>hc' i u hu
     have HSR:=zh (show ∀w',Below W1.heap.size W1 w'→(fun w'=>w'.cell? ⟨gA,2,none⟩=some (.slice (some ⟨b,off,none⟩) NM cm)∧w'.cell? ⟨gB,2,none⟩=some (.slice (some ⟨b',off',none⟩) NM km)∧w'.rangeAt b (off+j * 4) [.string x.name,.int .i64 x.ext,.int .i64 x.port,.int .i64 x.law]∧w'.rangeAt b' (off'+j * 4) [.string x.name,.int .i64 x.ext,.int .i64 x.port,.int .i64 x.law]) w' from fun w' hb=>by
      obtain⟨c0,c1,c2,c3,c4,c5,c6⟩:=cells7 (HK.out w' hb).1
      obtain⟨d0,d1,d2,d3,d4,d5,d6⟩:=cells7 (HK.out w' hb).2.1
      exact⟨c2,d2,range_same hr1 ((HK.out w' hb).2.2.block b hR),range_same hr2 ((HK.out w' hb).2.2.block b' hR')⟩)
     clear hc hc' hr1 hr2 hR hR'
     go_upto_region 11 with fail
     clear c0 c1 c2 c3 c4 c5 c6
     refine region_tail (S:=(fun w'=>w'.cell? ⟨gA,2,none⟩=some (.slice (some ⟨b,off,none⟩) NM cm)∧w'.cell? ⟨gB,2,none⟩=some (.slice (some ⟨b',off',none⟩) NM km)∧w'.rangeAt b (off+j * 4) [.string x.name,.int .i64 x.ext,.int .i64 x.port,.int .i64 x.law]∧w'.rangeAt b' (off'+j * 4) [.string x.name,.int .i64 x.ext,.int .i64 x.port,.int .i64 x.law])) [] (by kernel_rfl) (HSR.out _ HB.out.drew) (fun hHeld=>?_)
     refine tk 0 100 ?_
     refine tk 1 101 ?_
     refine tk 2 102 ?_
     refine tk 3 103 ?_
     refine takeT (i:=4) (d:=104) (v:=(.agg #[.string x.name,.int .i64 x.ext,.int .i64 x.port,.int .i64 x.law])) rfl rfl (by kernel_rfl) (by kernel_rfl) (by kernel_rfl) (by kernel_rfl) (fun _ _ _ h=>h) (yieldsIf_load_mid (by rfl) 98 (.tmp 103) rfl b (off+j * 4) (by rfl) [.string x.name,.int .i64 x.ext,.int .i64 x.port,.int .i64 x.law] _ (fun w hw=>hw.2.2.1) Tryz.underlying98 rfl size_modI) (by assumption) ?_
     (try simp only[Act.put,z1,z2,z3])
     refine tk 5 105 ?_
     refine tk 6 106 ?_
     refine tk 7 107 ?_
     refine tk 8 108 ?_
     refine takeT (i:=9) (d:=109) (v:=(.agg #[.string x.name,.int .i64 x.ext,.int .i64 x.port,.int .i64 x.law])) rfl rfl (by kernel_rfl) (by kernel_rfl) (by kernel_rfl) (by kernel_rfl) (fun _ _ _ h=>h) (yieldsIf_load_mid (by rfl) 98 (.tmp 108) rfl b' (off'+j * 4) (by rfl) [.string x.name,.int .i64 x.ext,.int .i64 x.port,.int .i64 x.law] _ (fun w hw=>hw.2.2.2) Tryz.underlying98 rfl size_modI) (by assumption) ?_
     (try simp only[Act.put,z1,z2,z3])
     refine tk 10 110 ?_
     refine doneT (by kernel_rfl) ?_ _
     clear hHeld
     go_wp2_with fail
     go_roundg (NM - (j+1))
     case measure=>omega
     case rel=>exact⟨j+1,by omega,rfl,by go_num,(zh HB.out.drew)⟩
    ·have hx:=hlt
     go_wp2_with fail
     clear c0 c1 c2 c3 c4 c5 c6
     go_loopg [7] ND (fun z v wr=>∃j:Nat,j≤ND∧z=ND - j∧v=.int .i64 (j:Int)∧Hid (Below W1.heap.size W1 wr))
     case atStart=>exact⟨0,by omega,rfl,rfl,HB⟩
     case round =>
      clear HB
      obtain⟨j,hj,rfl,rfl,HB⟩:=hrel
      obtain⟨W4,hW4⟩:=zx wr
      rw[←hW4] at HB ⊢
      clear hW4
      obtain⟨c0,c1,c2,c3,c4,c5,c6⟩:=cells7 (HK.out W4 HB.out).1
      by_cases hlt:j<ND
      ·have hjl:j<F.doms.length:=by have:=HL.out;omega
       have lj:(j:Int)<(ND:Int):=by omega
       obtain⟨b,off,cs,hAe,hR,-,hc,hcs⟩:=HFA.out.2.2.1.at_ (k:=j) hjl
       obtain⟨b',off',cs',hBe,hR',-,hc',hcs'⟩:=HFB.out.2.2.1.at_ (k:=j) hjl
       subst hAe;subst hBe
       obtain⟨x,hx⟩:∃x,F.doms[j]?=some x:=⟨_,List.getElem?_eq_getElem hjl⟩
       rw[(List.getElem?_eq_some_iff.1 hx).2] at hcs hcs'
       have HX:=zh hx
       clear hx hjl
       obtain⟨v1,v2,rfl,i1,i2⟩:=hcs
       obtain⟨u1,u2,rfl,i3,i4⟩:=hcs'
       obtain⟨A1,N1,e1,rfl⟩:=i1.frm
       obtain⟨A2,N2,e2,rfl⟩:=i2.frm
       obtain⟨A3,N3,e3,rfl⟩:=i3.frm
       obtain⟨A4,N4,e4,rfl⟩:=i4.frm
       have hsh:=doms_frc HOK.out HX.out
       have hng:x.shock.neg=false:=by rw[hsh]
       rw[hng] at hc hc'
       have hr1:w.rangeAt b (off+j * 7) [.string x.name,.int .i64 x.level,.int .i64 x.parent,.int .i64 x.uplink,.bool false,.slice A1 N1 e1,.slice A2 N2 e2]:=fun i u hu=>hc i u hu
       have hr2:w.rangeAt b' (off'+j * 7) [.string x.name,.int .i64 x.level,.int .i64 x.parent,.int .i64 x.uplink,.bool false,.slice A3 N3 e3,.slice A4 N4 e4]:=fun i u hu=>hc' i u hu
       have HSR:=zh (show ∀w',Below W1.heap.size W1 w'→(fun w'=>w'.cell? ⟨gA,3,none⟩=some (.slice (some ⟨b,off,none⟩) ND cd)∧w'.cell? ⟨gB,3,none⟩=some (.slice (some ⟨b',off',none⟩) ND kd)∧w'.rangeAt b (off+j * 7) [.string x.name,.int .i64 x.level,.int .i64 x.parent,.int .i64 x.uplink,.bool false,.slice A1 N1 e1,.slice A2 N2 e2]∧w'.rangeAt b' (off'+j * 7) [.string x.name,.int .i64 x.level,.int .i64 x.parent,.int .i64 x.uplink,.bool false,.slice A3 N3 e3,.slice A4 N4 e4]) w' from fun w' hb=>by
        obtain⟨c0,c1,c2,c3,c4,c5,c6⟩:=cells7 (HK.out w' hb).1
        obtain⟨d0,d1,d2,d3,d4,d5,d6⟩:=cells7 (HK.out w' hb).2.1
        exact⟨c3,d3,range_same hr1 ((HK.out w' hb).2.2.block b hR),range_same hr2 ((HK.out w' hb).2.2.block b' hR')⟩)
       have HSF:=zh (fun(w':World) (hb:Below w.heap.size w w')=>sfrac9_any _ _ _ _ x.shock.num x.shock.den w' (i1.below hb) (i2.below hb) (i3.below hb) (i4.below hb) (by rw[hsh];decide) (by rw[hsh];decide))
       clear hc hc' hr1 hr2 hR hR' i1 i2 i3 i4 hsh hng
       go_upto_region 16 with fail
       clear c0 c1 c2 c3 c4 c5 c6
       go_cut [8,9] from 111 to 161 (fun v8 v9 wc=>∃gX gY:Nat,v8=.pointer (some ⟨gX,0,none⟩)∧v9=.pointer (some ⟨gY,0,none⟩)∧Hid (Below W1.heap.size W1 wc)∧Hid (wc.rangeAt gX 0 [.string x.name,.int .i64 x.level,.int .i64 x.parent,.int .i64 x.uplink,.bool false,.slice A1 N1 e1,.slice A2 N2 e2]∧wc.rangeAt gY 0 [.string x.name,.int .i64 x.level,.int .i64 x.parent,.int .i64 x.uplink,.bool false,.slice A3 N3 e3,.slice A4 N4 e4]∧gX<wc.heap.size∧gY<wc.heap.size))
       case first =>
        refine region_tail (S:=(fun w'=>w'.cell? ⟨gA,3,none⟩=some (.slice (some ⟨b,off,none⟩) ND cd)∧w'.cell? ⟨gB,3,none⟩=some (.slice (some ⟨b',off',none⟩) ND kd)∧w'.rangeAt b (off+j * 7) [.string x.name,.int .i64 x.level,.int .i64 x.parent,.int .i64 x.uplink,.bool false,.slice A1 N1 e1,.slice A2 N2 e2]∧w'.rangeAt b' (off'+j * 7) [.string x.name,.int .i64 x.level,.int .i64 x.parent,.int .i64 x.uplink,.bool false,.slice A3 N3 e3,.slice A4 N4 e4])) [] (by kernel_rfl) (HSR.out _ HB.out.drew) (fun hHeld=>?_)
        refine tk 0 118 ?_
        refine tk 1 119 ?_
        refine tk 2 120 ?_
        refine tk 3 121 ?_
        refine takeT (i:=4) (d:=122) (v:=(.agg #[.string x.name,.int .i64 x.level,.int .i64 x.parent,.int .i64 x.uplink,.bool false,.slice A1 N1 e1,.slice A2 N2 e2])) rfl rfl (by kernel_rfl) (by kernel_rfl) (by kernel_rfl) (by kernel_rfl) (fun _ _ _ h=>h) (yieldsIf_load_mid (by rfl) 100 (.tmp 121) rfl b (off+j * 7) (by rfl) [.string x.name,.int .i64 x.level,.int .i64 x.parent,.int .i64 x.uplink,.bool false,.slice A1 N1 e1,.slice A2 N2 e2] _ (fun w hw=>hw.2.2.1) Tryz.underlying100 rfl size_domI) (by assumption) ?_
        (try simp only[Act.put,z1,z2,z3])
        refine tk 5 123 ?_
        refine tk 6 124 ?_
        refine tk 7 125 ?_
        refine tk 8 126 ?_
        refine takeT (i:=9) (d:=127) (v:=(.agg #[.string x.name,.int .i64 x.level,.int .i64 x.parent,.int .i64 x.uplink,.bool false,.slice A3 N3 e3,.slice A4 N4 e4])) rfl rfl (by kernel_rfl) (by kernel_rfl) (by kernel_rfl) (by kernel_rfl) (fun _ _ _ h=>h) (yieldsIf_load_mid (by rfl) 100 (.tmp 126) rfl b' (off'+j * 7) (by rfl) [.string x.name,.int .i64 x.level,.int .i64 x.parent,.int .i64 x.uplink,.bool false,.slice A3 N3 e3,.slice A4 N4 e4] _ (fun w hw=>hw.2.2.2) Tryz.underlying100 rfl size_domI) (by assumption) ?_
        (try simp only[Act.put,z1,z2,z3])
        refine readyT (rs:=[10,11]) (by kernel_rfl) (by simp) ?_
        refine AllReadyT.cons rfl (fun K hK=>?_) ?_
        ·go_simp
         refine hK.out _ _ ?_ (fun hHeld=>?_)
         ·(first|exact HSR.out _ (HB.out.drew.alloc HB.out.drew.size _)|exact HSR.out _ ((HB.out.drew.alloc HB.out.drew.size _).alloc (by have:=HB.out.size;simp;omega) _))
         clear hK K
         (try simp only[Act.put,z1,z2,z3])
         refine readyT (rs:=[11]) (by kernel_rfl) (by simp) ?_
         refine AllReadyT.cons rfl (fun K hK=>?_) ?_
         ·go_simp
          refine hK.out _ _ ?_ (fun hHeld=>?_)
          ·(first|exact HSR.out _ (HB.out.drew.alloc HB.out.drew.size _)|exact HSR.out _ ((HB.out.drew.alloc HB.out.drew.size _).alloc (by have:=HB.out.size;simp;omega) _))
          clear hK K
          (try simp only[Act.put,z1,z2,z3])
          refine readyT (rs:=[12]) (by kernel_rfl) (by simp) ?_
          refine AllReadyT.cons rfl (fun K hK=>?_) ?_
          ·rw[if_pos (by rfl)]
           obtain⟨W5,hW5⟩:=zx (((W4.alloc (.cells #[.string ⟨#[]⟩,.int .i64 0,.int .i64 0,.int .i64 0,.bool false,.slice none 0 0,.slice none 0 0] 100)).alloc (.cells #[.string ⟨#[]⟩,.int .i64 0,.int .i64 0,.int .i64 0,.bool false,.slice none 0 0,.slice none 0 0] 100)).drew)
           obtain⟨gX,hgX⟩:=zx W4.heap.size
           obtain⟨gY,hgY⟩:=zx (W4.heap.size+1)
           rw[←hW5,←hgY,←hgX]
           have kx:W5.heap[gX]?=some (.cells #[.string ⟨#[]⟩,.int .i64 0,.int .i64 0,.int .i64 0,.bool false,.slice none 0 0,.slice none 0 0] 100 (0,0)):=by rw[hW5,hgX];exact(Below.heap_alloc _ _ _ (by simp)).trans (heap_alloc_new _ _)
           have ky:W5.heap[gY]?=some (.cells #[.string ⟨#[]⟩,.int .i64 0,.int .i64 0,.int .i64 0,.bool false,.slice none 0 0,.slice none 0 0] 100 (0,0)):=by rw[hW5,hgY];exact heap_alloc_at _ _ _ (by simp)
           have hs4:=HB.out.size
           have hb5:Below W1.heap.size W1 W5:=by rw[hW5];exact((HB.out.alloc hs4 _).alloc (by simp;omega) _).drew
           have HXY:=zh (show W1.heap.size≤gX∧W1.heap.size≤gY∧gX≠gY∧gX<W5.heap.size∧gY<W5.heap.size from⟨by omega,by omega,by omega,(Array.getElem?_eq_some_iff.1 kx).1,(Array.getElem?_eq_some_iff.1 ky).1⟩)
           have HKX:=zh (show W5.there gX 0 7 from there_new kx (Nat.le_refl 7))
           have HKY:=zh (show W5.there gY 0 7 from there_new ky (Nat.le_refl 7))
           have HB5:=zh hb5
           clear hW5 hgX hgY kx ky hs4 hb5
           refine wp_store_mid 100 (.tmp 8) (.tmp 122) rfl gX 0 #[.string x.name,.int .i64 x.level,.int .i64 x.parent,.int .i64 x.uplink,.bool false,.slice A1 N1 e1,.slice A2 N2 e2] (by rfl) (by rfl) HKX.out size_domI (by simp[Value.oneCell']) ?_
           simp only[List.toList_toArray]
           have hx:=World.rangeAt_setCells_same W5 gX 0 [.string x.name,.int .i64 x.level,.int .i64 x.parent,.int .i64 x.uplink,.bool false,.slice A1 N1 e1,.slice A2 N2 e2] HKX.out
           have hy:=World.there_setCells HKY.out gX 0 [.string x.name,.int .i64 x.level,.int .i64 x.parent,.int .i64 x.uplink,.bool false,.slice A1 N1 e1,.slice A2 N2 e2]
           have hb6:Below W1.heap.size W1 (World.setCells W5 gX 0 [.string x.name,.int .i64 x.level,.int .i64 x.parent,.int .i64 x.uplink,.bool false,.slice A1 N1 e1,.slice A2 N2 e2]):=below_setCellsV HXY.out.1 _ _ _ HB5.out
           have hs6:=setCells_sizeK (g:=gX) [.string x.name,.int .i64 x.level,.int .i64 x.parent,.int .i64 x.uplink,.bool false,.slice A1 N1 e1,.slice A2 N2 e2] 0 W5
           obtain⟨W6,hW6⟩:=zx (World.setCells W5 gX 0 [.string x.name,.int .i64 x.level,.int .i64 x.parent,.int .i64 x.uplink,.bool false,.slice A1 N1 e1,.slice A2 N2 e2])
           rw[←hW6] at hx hy hb6 hs6 ⊢
           have HRX:=zh hx
           have HTY:=zh hy
           have HB6:=zh hb6
           have HS6:=zh hs6
           clear hW6 hx hy hb6 hs6
           refine hK.out _ _ ?_ (fun hHeld=>?_)
           ·exact HSR.out _ HB6.out
           clear hK K
           (try simp only[Act.put,z1,z2,z3])
           refine readyT (rs:=[13]) (by kernel_rfl) (by simp) ?_
           refine AllReadyT.cons rfl (fun K hK=>?_) ?_
           ·rw[if_pos (by rfl)]
            refine wp_store_mid 100 (.tmp 9) (.tmp 127) rfl gY 0 #[.string x.name,.int .i64 x.level,.int .i64 x.parent,.int .i64 x.uplink,.bool false,.slice A3 N3 e3,.slice A4 N4 e4] (by rfl) (by rfl) HTY.out size_domI (by simp[Value.oneCell']) ?_
            simp only[List.toList_toArray]
            have hx:=World.rangeAt_setCells_apart HRX.out gY 0 [.string x.name,.int .i64 x.level,.int .i64 x.parent,.int .i64 x.uplink,.bool false,.slice A3 N3 e3,.slice A4 N4 e4] (.inl HXY.out.2.2.1)
            have hy:=World.rangeAt_setCells_same W6 gY 0 [.string x.name,.int .i64 x.level,.int .i64 x.parent,.int .i64 x.uplink,.bool false,.slice A3 N3 e3,.slice A4 N4 e4] HTY.out
            have hb7:Below W1.heap.size W1 (World.setCells W6 gY 0 [.string x.name,.int .i64 x.level,.int .i64 x.parent,.int .i64 x.uplink,.bool false,.slice A3 N3 e3,.slice A4 N4 e4]):=below_setCellsV HXY.out.2.1 _ _ _ HB6.out
            have hs7:=(setCells_sizeK (g:=gY) [.string x.name,.int .i64 x.level,.int .i64 x.parent,.int .i64 x.uplink,.bool false,.slice A3 N3 e3,.slice A4 N4 e4] 0 W6).trans HS6.out
            obtain⟨W7,hW7⟩:=zx (World.setCells W6 gY 0 [.string x.name,.int .i64 x.level,.int .i64 x.parent,.int .i64 x.uplink,.bool false,.slice A3 N3 e3,.slice A4 N4 e4])
            rw[←hW7] at hx hy hb7 hs7 ⊢
            have HX:=zh (And.intro hx hy)
            have HB8:=zh hb7
            have HSZ:=zh hs7
            clear hW7 hx hy hb7 hs7
            refine hK.out _ _ ?_ (fun hHeld=>?_)
            ·exact HSR.out _ HB8.out
            clear hK K
            (try simp only[Act.put,z1,z2,z3])
            refine doneT (by kernel_rfl) ?_ _
            clear hHeld
            go_wp2_with fail
            go_meet
            exact⟨gX,gY,rfl,rfl,HB8,zh ⟨HX.out.1,HX.out.2,by rw[HSZ.out];exact HXY.out.2.2.2.1,by rw[HSZ.out];exact HXY.out.2.2.2.2⟩⟩
           exact AllReadyT.nil
          exact AllReadyT.nil
         exact AllReadyT.nil
        refine AllReadyT.cons rfl (fun K hK=>?_) ?_
        ·go_simp
         refine hK.out _ _ ?_ (fun hHeld=>?_)
         ·(first|exact HSR.out _ (HB.out.drew.alloc HB.out.drew.size _)|exact HSR.out _ ((HB.out.drew.alloc HB.out.drew.size _).alloc (by have:=HB.out.size;simp;omega) _))
         clear hK K
         (try simp only[Act.put,z1,z2,z3])
         refine readyT (rs:=[10]) (by kernel_rfl) (by simp) ?_
         refine AllReadyT.cons rfl (fun K hK=>?_) ?_
         ·go_simp
          refine hK.out _ _ ?_ (fun hHeld=>?_)
          ·(first|exact HSR.out _ (HB.out.drew.alloc HB.out.drew.size _)|exact HSR.out _ ((HB.out.drew.alloc HB.out.drew.size _).alloc (by have:=HB.out.size;simp;omega) _))
          clear hK K
          (try simp only[Act.put,z1,z2,z3])
          refine readyT (rs:=[12]) (by kernel_rfl) (by simp) ?_
          refine AllReadyT.cons rfl (fun K hK=>?_) ?_
          ·rw[if_pos (by rfl)]
           obtain⟨W5,hW5⟩:=zx (((W4.alloc (.cells #[.string ⟨#[]⟩,.int .i64 0,.int .i64 0,.int .i64 0,.bool false,.slice none 0 0,.slice none 0 0] 100)).alloc (.cells #[.string ⟨#[]⟩,.int .i64 0,.int .i64 0,.int .i64 0,.bool false,.slice none 0 0,.slice none 0 0] 100)).drew)
           obtain⟨gX,hgX⟩:=zx (W4.heap.size+1)
           obtain⟨gY,hgY⟩:=zx W4.heap.size
           rw[←hW5,←hgX,←hgY]
           have kx:W5.heap[gX]?=some (.cells #[.string ⟨#[]⟩,.int .i64 0,.int .i64 0,.int .i64 0,.bool false,.slice none 0 0,.slice none 0 0] 100 (0,0)):=by rw[hW5,hgX];exact heap_alloc_at _ _ _ (by simp)
           have ky:W5.heap[gY]?=some (.cells #[.string ⟨#[]⟩,.int .i64 0,.int .i64 0,.int .i64 0,.bool false,.slice none 0 0,.slice none 0 0] 100 (0,0)):=by rw[hW5,hgY];exact(Below.heap_alloc _ _ _ (by simp)).trans (heap_alloc_new _ _)
           have hs4:=HB.out.size
           have hb5:Below W1.heap.size W1 W5:=by rw[hW5];exact((HB.out.alloc hs4 _).alloc (by simp;omega) _).drew
           have HXY:=zh (show W1.heap.size≤gX∧W1.heap.size≤gY∧gX≠gY∧gX<W5.heap.size∧gY<W5.heap.size from⟨by omega,by omega,by omega,(Array.getElem?_eq_some_iff.1 kx).1,(Array.getElem?_eq_some_iff.1 ky).1⟩)
           have HKX:=zh (show W5.there gX 0 7 from there_new kx (Nat.le_refl 7))
           have HKY:=zh (show W5.there gY 0 7 from there_new ky (Nat.le_refl 7))
           have HB5:=zh hb5
           clear hW5 hgX hgY kx ky hs4 hb5
           refine wp_store_mid 100 (.tmp 8) (.tmp 122) rfl gX 0 #[.string x.name,.int .i64 x.level,.int .i64 x.parent,.int .i64 x.uplink,.bool false,.slice A1 N1 e1,.slice A2 N2 e2] (by rfl) (by rfl) HKX.out size_domI (by simp[Value.oneCell']) ?_
           simp only[List.toList_toArray]
           have hx:=World.rangeAt_setCells_same W5 gX 0 [.string x.name,.int .i64 x.level,.int .i64 x.parent,.int .i64 x.uplink,.bool false,.slice A1 N1 e1,.slice A2 N2 e2] HKX.out
           have hy:=World.there_setCells HKY.out gX 0 [.string x.name,.int .i64 x.level,.int .i64 x.parent,.int .i64 x.uplink,.bool false,.slice A1 N1 e1,.slice A2 N2 e2]
           have hb6:Below W1.heap.size W1 (World.setCells W5 gX 0 [.string x.name,.int .i64 x.level,.int .i64 x.parent,.int .i64 x.uplink,.bool false,.slice A1 N1 e1,.slice A2 N2 e2]):=below_setCellsV HXY.out.1 _ _ _ HB5.out
           have hs6:=setCells_sizeK (g:=gX) [.string x.name,.int .i64 x.level,.int .i64 x.parent,.int .i64 x.uplink,.bool false,.slice A1 N1 e1,.slice A2 N2 e2] 0 W5
           obtain⟨W6,hW6⟩:=zx (World.setCells W5 gX 0 [.string x.name,.int .i64 x.level,.int .i64 x.parent,.int .i64 x.uplink,.bool false,.slice A1 N1 e1,.slice A2 N2 e2])
           rw[←hW6] at hx hy hb6 hs6 ⊢
           have HRX:=zh hx
           have HTY:=zh hy
           have HB6:=zh hb6
           have HS6:=zh hs6
           clear hW6 hx hy hb6 hs6
           refine hK.out _ _ ?_ (fun hHeld=>?_)
           ·exact HSR.out _ HB6.out
           clear hK K
           (try simp only[Act.put,z1,z2,z3])
           refine readyT (rs:=[13]) (by kernel_rfl) (by simp) ?_
           refine AllReadyT.cons rfl (fun K hK=>?_) ?_
           ·rw[if_pos (by rfl)]
            refine wp_store_mid 100 (.tmp 9) (.tmp 127) rfl gY 0 #[.string x.name,.int .i64 x.level,.int .i64 x.parent,.int .i64 x.uplink,.bool false,.slice A3 N3 e3,.slice A4 N4 e4] (by rfl) (by rfl) HTY.out size_domI (by simp[Value.oneCell']) ?_
            simp only[List.toList_toArray]
            have hx:=World.rangeAt_setCells_apart HRX.out gY 0 [.string x.name,.int .i64 x.level,.int .i64 x.parent,.int .i64 x.uplink,.bool false,.slice A3 N3 e3,.slice A4 N4 e4] (.inl HXY.out.2.2.1)
            have hy:=World.rangeAt_setCells_same W6 gY 0 [.string x.name,.int .i64 x.level,.int .i64 x.parent,.int .i64 x.uplink,.bool false,.slice A3 N3 e3,.slice A4 N4 e4] HTY.out
            have hb7:Below W1.heap.size W1 (World.setCells W6 gY 0 [.string x.name,.int .i64 x.level,.int .i64 x.parent,.int .i64 x.uplink,.bool false,.slice A3 N3 e3,.slice A4 N4 e4]):=below_setCellsV HXY.out.2.1 _ _ _ HB6.out
            have hs7:=(setCells_sizeK (g:=gY) [.string x.name,.int .i64 x.level,.int .i64 x.parent,.int .i64 x.uplink,.bool false,.slice A3 N3 e3,.slice A4 N4 e4] 0 W6).trans HS6.out
            obtain⟨W7,hW7⟩:=zx (World.setCells W6 gY 0 [.string x.name,.int .i64 x.level,.int .i64 x.parent,.int .i64 x.uplink,.bool false,.slice A3 N3 e3,.slice A4 N4 e4])
            rw[←hW7] at hx hy hb7 hs7 ⊢
            have HX:=zh (And.intro hx hy)
            have HB8:=zh hb7
            have HSZ:=zh hs7
            clear hW7 hx hy hb7 hs7
            refine hK.out _ _ ?_ (fun hHeld=>?_)
            ·exact HSR.out _ HB8.out
            clear hK K
            (try simp only[Act.put,z1,z2,z3])
            refine doneT (by kernel_rfl) ?_ _
            clear hHeld
            go_wp2_with fail
            go_meet
            exact⟨gX,gY,rfl,rfl,HB8,zh ⟨HX.out.1,HX.out.2,by rw[HSZ.out];exact HXY.out.2.2.2.1,by rw[HSZ.out];exact HXY.out.2.2.2.2⟩⟩
           exact AllReadyT.nil
          exact AllReadyT.nil
         exact AllReadyT.nil
        exact AllReadyT.nil
       case rest =>
        obtain⟨gX,gY,rfl,rfl,HBC,HRC⟩:=hcut
        have x0:wc.cell? ⟨gX,0,none⟩=some (.string x.name):=HRC.out.1 0 _ rfl
        have x1:wc.cell? ⟨gX,1,none⟩=some (.int .i64 x.level):=HRC.out.1 1 _ rfl
        have x2:wc.cell? ⟨gX,2,none⟩=some (.int .i64 x.parent):=HRC.out.1 2 _ rfl
        have x3:wc.cell? ⟨gX,3,none⟩=some (.int .i64 x.uplink):=HRC.out.1 3 _ rfl
        have x4:wc.cell? ⟨gX,4,none⟩=some (.bool false):=HRC.out.1 4 _ rfl
        have x5:wc.cell? ⟨gX,5,none⟩=some (.slice A1 N1 e1):=HRC.out.1 5 _ rfl
        have x6:wc.cell? ⟨gX,6,none⟩=some (.slice A2 N2 e2):=HRC.out.1 6 _ rfl
        have y0:wc.cell? ⟨gY,0,none⟩=some (.string x.name):=HRC.out.2.1 0 _ rfl
        have y1:wc.cell? ⟨gY,1,none⟩=some (.int .i64 x.level):=HRC.out.2.1 1 _ rfl
        have y2:wc.cell? ⟨gY,2,none⟩=some (.int .i64 x.parent):=HRC.out.2.1 2 _ rfl
        have y3:wc.cell? ⟨gY,3,none⟩=some (.int .i64 x.uplink):=HRC.out.2.1 3 _ rfl
        have y4:wc.cell? ⟨gY,4,none⟩=some (.bool false):=HRC.out.2.1 4 _ rfl
        have y5:wc.cell? ⟨gY,5,none⟩=some (.slice A3 N3 e3):=HRC.out.2.1 5 _ rfl
        have y6:wc.cell? ⟨gY,6,none⟩=some (.slice A4 N4 e4):=HRC.out.2.1 6 _ rfl
        go_wp2_with fail
        refine(HSF.out wc (HK.out wc HBC.out).2.2).mono ?_
        rintro e w9 ⟨rfl,hb9⟩
        have HX9:=zh (HBC.out.trans (hb9.mono HBC.out.size))
        clear hb9 x0 y0 x1 y1 x2 y2 x3 y3 x4 y4 x5 y5 x6 y6
        go_wp2_with fail
        go_roundg (ND - (j+1))
        case measure=>omega
        case rel=>exact⟨j+1,by omega,rfl,by go_num,HX9⟩
      ·have hx:=hlt
       go_wp2_with fail
       clear c0 c1 c2 c3 c4 c5 c6
       go_loopg [10] NV (fun z v wr=>∃j:Nat,j≤NV∧z=NV - j∧v=.int .i64 (j:Int)∧Hid (Below W1.heap.size W1 wr))
       case atStart=>exact⟨0,by omega,rfl,rfl,HB⟩
       case round =>
        clear HB
        obtain⟨j,hj,rfl,rfl,HB⟩:=hrel
        obtain⟨W4,hW4⟩:=zx wr
        rw[←hW4] at HB ⊢
        clear hW4
        obtain⟨c0,c1,c2,c3,c4,c5,c6⟩:=cells7 (HK.out W4 HB.out).1
        by_cases hlt:j<NV
        ·have hjl:j<F.dves.length:=by have:=HL.out;omega
         have lj:(j:Int)<(NV:Int):=by omega
         obtain⟨b,off,cs,hAe,hR,-,hc,hcs⟩:=HFA.out.2.2.2.1.at_ (k:=j) hjl
         obtain⟨b',off',cs',hBe,hR',-,hc',hcs'⟩:=HFB.out.2.2.2.1.at_ (k:=j) hjl
         subst hAe;subst hBe
         obtain⟨x,hx⟩:∃x,F.dves[j]?=some x:=⟨_,List.getElem?_eq_getElem hjl⟩
         rw[(List.getElem?_eq_some_iff.1 hx).2] at hcs hcs'
         have HX:=zh hx
         clear hx hjl
         unfold DveK at hcs hcs'
         subst hcs hcs'
         have hr1:w.rangeAt b (off+j * 3) [.string x.name,.int .i64 x.model,.int .i64 x.machine]:=fun i u hu=>hc i u hu
         have hr2:w.rangeAt b' (off'+j * 3) [.string x.name,.int .i64 x.model,.int .i64 x.machine]:=fun i u hu=>hc' i u hu
         have HSR:=zh (show ∀w',Below W1.heap.size W1 w'→(fun w'=>w'.cell? ⟨gA,4,none⟩=some (.slice (some ⟨b,off,none⟩) NV cv)∧w'.cell? ⟨gB,4,none⟩=some (.slice (some ⟨b',off',none⟩) NV kv)∧w'.rangeAt b (off+j * 3) [.string x.name,.int .i64 x.model,.int .i64 x.machine]∧w'.rangeAt b' (off'+j * 3) [.string x.name,.int .i64 x.model,.int .i64 x.machine]) w' from fun w' hb=>by
          obtain⟨c0,c1,c2,c3,c4,c5,c6⟩:=cells7 (HK.out w' hb).1
          obtain⟨d0,d1,d2,d3,d4,d5,d6⟩:=cells7 (HK.out w' hb).2.1
          exact⟨c4,d4,range_same hr1 ((HK.out w' hb).2.2.block b hR),range_same hr2 ((HK.out w' hb).2.2.block b' hR')⟩)
         clear hc hc' hr1 hr2 hR hR'
         go_upto_region 22 with fail
         clear c0 c1 c2 c3 c4 c5 c6
         refine region_tail (S:=(fun w'=>w'.cell? ⟨gA,4,none⟩=some (.slice (some ⟨b,off,none⟩) NV cv)∧w'.cell? ⟨gB,4,none⟩=some (.slice (some ⟨b',off',none⟩) NV kv)∧w'.rangeAt b (off+j * 3) [.string x.name,.int .i64 x.model,.int .i64 x.machine]∧w'.rangeAt b' (off'+j * 3) [.string x.name,.int .i64 x.model,.int .i64 x.machine])) [] (by kernel_rfl) (HSR.out _ HB.out.drew) (fun hHeld=>?_)
         refine tk 0 169 ?_
         refine tk 1 170 ?_
         refine tk 2 171 ?_
         refine tk 3 172 ?_
         refine takeT (i:=4) (d:=173) (v:=(.agg #[.string x.name,.int .i64 x.model,.int .i64 x.machine])) rfl rfl (by kernel_rfl) (by kernel_rfl) (by kernel_rfl) (by kernel_rfl) (fun _ _ _ h=>h) (yieldsIf_load_mid (by rfl) 102 (.tmp 172) rfl b (off+j * 3) (by rfl) [.string x.name,.int .i64 x.model,.int .i64 x.machine] _ (fun w hw=>hw.2.2.1) Tryz.underlying102 rfl size_dveI) (by assumption) ?_
         (try simp only[Act.put,z1,z2,z3])
         refine tk 5 174 ?_
         refine tk 6 175 ?_
         refine tk 7 176 ?_
         refine tk 8 177 ?_
         refine takeT (i:=9) (d:=178) (v:=(.agg #[.string x.name,.int .i64 x.model,.int .i64 x.machine])) rfl rfl (by kernel_rfl) (by kernel_rfl) (by kernel_rfl) (by kernel_rfl) (fun _ _ _ h=>h) (yieldsIf_load_mid (by rfl) 102 (.tmp 177) rfl b' (off'+j * 3) (by rfl) [.string x.name,.int .i64 x.model,.int .i64 x.machine] _ (fun w hw=>hw.2.2.2) Tryz.underlying102 rfl size_dveI) (by assumption) ?_
         (try simp only[Act.put,z1,z2,z3])
         refine tk 10 179 ?_
         refine doneT (by kernel_rfl) ?_ _
         clear hHeld
         go_wp2_with fail
         go_roundg (NV - (j+1))
         case measure=>omega
         case rel=>exact⟨j+1,by omega,rfl,by go_num,(zh HB.out.drew)⟩
        ·have hx:=hlt
         go_wp2_with fail
         clear c0 c1 c2 c3 c4 c5 c6
         go_loopg [11] NP (fun z v wr=>∃j:Nat,j≤NP∧z=NP - j∧v=.int .i64 (j:Int)∧Hid (Below W1.heap.size W1 wr))
         case atStart=>exact⟨0,by omega,rfl,rfl,HB⟩
         case round =>
          clear HB
          obtain⟨j,hj,rfl,rfl,HB⟩:=hrel
          obtain⟨W4,hW4⟩:=zx wr
          rw[←hW4] at HB ⊢
          clear hW4
          obtain⟨c0,c1,c2,c3,c4,c5,c6⟩:=cells7 (HK.out W4 HB.out).1
          by_cases hlt:j<NP
          ·have hjl:j<F.pols.length:=by have:=HL.out;omega
           have lj:(j:Int)<(NP:Int):=by omega
           obtain⟨b,off,cs,hAe,hR,-,hc,hcs⟩:=HFA.out.2.2.2.2.1.at_ (k:=j) hjl
           obtain⟨b',off',cs',hBe,hR',-,hc',hcs'⟩:=HFB.out.2.2.2.2.1.at_ (k:=j) hjl
           subst hAe;subst hBe
           obtain⟨x,hx⟩:∃x,F.pols[j]?=some x:=⟨_,List.getElem?_eq_getElem hjl⟩
           rw[(List.getElem?_eq_some_iff.1 hx).2] at hcs hcs'
           have HX:=zh hx
           clear hx hjl
           obtain⟨v1,v2,v3,v4,v5,v6,rfl,i1,i2,i3,i4,i5,i6⟩:=hcs
           obtain⟨u1,u2,u3,u4,u5,u6,rfl,j1,j2,j3,j4,j5,j6⟩:=hcs'
           obtain⟨A1,N1,e1,rfl⟩:∃A n c,v1=.slice A n c:=by obtain⟨A,c,e,-⟩:=i1.1;exact⟨A,_,c,e⟩
           obtain⟨A2,N2,e2,rfl⟩:=i2.form3
           obtain⟨A3,N3,e3,rfl⟩:=i3.frm
           obtain⟨A4,N4,e4,rfl⟩:=i4.frm
           obtain⟨A5,N5,e5,rfl⟩:=i5.frm
           obtain⟨A6,N6,e6,rfl⟩:=i6.frm
           obtain⟨D1,M1,f1,rfl⟩:∃A n c,u1=.slice A n c:=by obtain⟨A,c,e,-⟩:=j1.1;exact⟨A,_,c,e⟩
           obtain⟨D2,M2,f2,rfl⟩:=j2.form3
           obtain⟨D3,M3,f3,rfl⟩:=j3.frm
           obtain⟨D4,M4,f4,rfl⟩:=j4.frm
           obtain⟨D5,M5,f5,rfl⟩:=j5.frm
           obtain⟨D6,M6,f6,rfl⟩:=j6.frm
           obtain⟨-,-,-,-,-,-,-,-,-,-,hrep,htg,hhz⟩:=(HOK.out.pols j x HX.out).2.2
           have hn1:x.target.neg=false:=by rw[htg]
           have hn2:x.horizon.neg=false:=by rw[hhz]
           rw[hn1,hn2] at hc hc'
           have hr1:w.rangeAt b (off+j * 17) [.string x.name,.int .i64 x.k,.int .i64 x.m,.int .i64 x.q,.int .i64 0,.int .i64 0,.int .i64 0,.int .i64 x.s3,.int .i64 x.s4,.slice A1 N1 e1,.slice A2 N2 e2,.bool false,.slice A3 N3 e3,.slice A4 N4 e4,.bool false,.slice A5 N5 e5,.slice A6 N6 e6]:=fun i u hu=>hc i u hu
           have hr2:w.rangeAt b' (off'+j * 17) [.string x.name,.int .i64 x.k,.int .i64 x.m,.int .i64 x.q,.int .i64 0,.int .i64 0,.int .i64 0,.int .i64 x.s3,.int .i64 x.s4,.slice D1 M1 f1,.slice D2 M2 f2,.bool false,.slice D3 M3 f3,.slice D4 M4 f4,.bool false,.slice D5 M5 f5,.slice D6 M6 f6]:=fun i u hu=>hc' i u hu
           have HSR:=zh (show ∀w',Below W1.heap.size W1 w'→(fun w'=>w'.cell? ⟨gA,5,none⟩=some (.slice (some ⟨b,off,none⟩) NP cp)∧w'.cell? ⟨gB,5,none⟩=some (.slice (some ⟨b',off',none⟩) NP kp)∧w'.rangeAt b (off+j * 17) [.string x.name,.int .i64 x.k,.int .i64 x.m,.int .i64 x.q,.int .i64 0,.int .i64 0,.int .i64 0,.int .i64 x.s3,.int .i64 x.s4,.slice A1 N1 e1,.slice A2 N2 e2,.bool false,.slice A3 N3 e3,.slice A4 N4 e4,.bool false,.slice A5 N5 e5,.slice A6 N6 e6]∧w'.rangeAt b' (off'+j * 17) [.string x.name,.int .i64 x.k,.int .i64 x.m,.int .i64 x.q,.int .i64 0,.int .i64 0,.int .i64 0,.int .i64 x.s3,.int .i64 x.s4,.slice D1 M1 f1,.slice D2 M2 f2,.bool false,.slice D3 M3 f3,.slice D4 M4 f4,.bool false,.slice D5 M5 f5,.slice D6 M6 f6]) w' from fun w' hb=>by
            obtain⟨c0,c1,c2,c3,c4,c5,c6⟩:=cells7 (HK.out w' hb).1
            obtain⟨d0,d1,d2,d3,d4,d5,d6⟩:=cells7 (HK.out w' hb).2.1
            exact⟨c5,d5,range_same hr1 ((HK.out w' hb).2.2.block b hR),range_same hr2 ((HK.out w' hb).2.2.block b' hR')⟩)
           have HI:=zh (fun(w':World) (hb:Below w.heap.size w w')=>ints10_any _ _ x.models _ _ w' (i1.keep (fun b hb'=>hb.block b hb')) (j1.keep (fun b hb'=>hb.block b hb')))
           have HRP:=zh (fun(w':World) (hb:Below w.heap.size w w')=>sfracs9_any _ _ x.repair w' (SlS.below frcK i2 hb) (SlS.below frcK j2 hb) (fun y hy=>by rw[hrep] at hy;rw[List.eq_of_mem_replicate hy];exact⟨rfl,by decide,by decide⟩))
           have HTG:=zh (fun(w':World) (hb:Below w.heap.size w w')=>sfrac9_any _ _ _ _ x.target.num x.target.den w' (i3.below hb) (i4.below hb) (j3.below hb) (j4.below hb) (by rw[htg];decide) (by rw[htg];decide))
           have HHZ:=zh (fun(w':World) (hb:Below w.heap.size w w')=>sfrac9_any _ _ _ _ x.horizon.num x.horizon.den w' (i5.below hb) (i6.below hb) (j5.below hb) (j6.below hb) (by rw[hhz];decide) (by rw[hhz];decide))
           clear hc hc' hr1 hr2 hR hR' i1 i2 i3 i4 i5 i6 j1 j2 j3 j4 j5 j6 hrep htg hhz hn1 hn2
           go_upto_region 27 with fail
           clear c0 c1 c2 c3 c4 c5 c6
           go_cut [12,13] from 180 to 261 (fun v12 v13 wc=>∃gX gY:Nat,v12=.pointer (some ⟨gX,0,none⟩)∧v13=.pointer (some ⟨gY,0,none⟩)∧Hid (Below W1.heap.size W1 wc)∧Hid (wc.rangeAt gX 0 [.string x.name,.int .i64 x.k,.int .i64 x.m,.int .i64 x.q,.int .i64 0,.int .i64 0,.int .i64 0,.int .i64 x.s3,.int .i64 x.s4,.slice A1 N1 e1,.slice A2 N2 e2,.bool false,.slice A3 N3 e3,.slice A4 N4 e4,.bool false,.slice A5 N5 e5,.slice A6 N6 e6]∧wc.rangeAt gY 0 [.string x.name,.int .i64 x.k,.int .i64 x.m,.int .i64 x.q,.int .i64 0,.int .i64 0,.int .i64 0,.int .i64 x.s3,.int .i64 x.s4,.slice D1 M1 f1,.slice D2 M2 f2,.bool false,.slice D3 M3 f3,.slice D4 M4 f4,.bool false,.slice D5 M5 f5,.slice D6 M6 f6]∧gX<wc.heap.size∧gY<wc.heap.size))
           case first =>
            refine region_tail (S:=(fun w'=>w'.cell? ⟨gA,5,none⟩=some (.slice (some ⟨b,off,none⟩) NP cp)∧w'.cell? ⟨gB,5,none⟩=some (.slice (some ⟨b',off',none⟩) NP kp)∧w'.rangeAt b (off+j * 17) [.string x.name,.int .i64 x.k,.int .i64 x.m,.int .i64 x.q,.int .i64 0,.int .i64 0,.int .i64 0,.int .i64 x.s3,.int .i64 x.s4,.slice A1 N1 e1,.slice A2 N2 e2,.bool false,.slice A3 N3 e3,.slice A4 N4 e4,.bool false,.slice A5 N5 e5,.slice A6 N6 e6]∧w'.rangeAt b' (off'+j * 17) [.string x.name,.int .i64 x.k,.int .i64 x.m,.int .i64 x.q,.int .i64 0,.int .i64 0,.int .i64 0,.int .i64 x.s3,.int .i64 x.s4,.slice D1 M1 f1,.slice D2 M2 f2,.bool false,.slice D3 M3 f3,.slice D4 M4 f4,.bool false,.slice D5 M5 f5,.slice D6 M6 f6])) [] (by kernel_rfl) (HSR.out _ HB.out.drew) (fun hHeld=>?_)
            refine tk 0 187 ?_
            refine tk 1 188 ?_
            refine tk 2 189 ?_
            refine tk 3 190 ?_
            refine takeT (i:=4) (d:=191) (v:=(.agg #[.string x.name,.int .i64 x.k,.int .i64 x.m,.int .i64 x.q,.int .i64 0,.int .i64 0,.int .i64 0,.int .i64 x.s3,.int .i64 x.s4,.slice A1 N1 e1,.slice A2 N2 e2,.bool false,.slice A3 N3 e3,.slice A4 N4 e4,.bool false,.slice A5 N5 e5,.slice A6 N6 e6])) rfl rfl (by kernel_rfl) (by kernel_rfl) (by kernel_rfl) (by kernel_rfl) (fun _ _ _ h=>h) (yieldsIf_load_mid (by rfl) 55 (.tmp 190) rfl b (off+j * 17) (by rfl) [.string x.name,.int .i64 x.k,.int .i64 x.m,.int .i64 x.q,.int .i64 0,.int .i64 0,.int .i64 0,.int .i64 x.s3,.int .i64 x.s4,.slice A1 N1 e1,.slice A2 N2 e2,.bool false,.slice A3 N3 e3,.slice A4 N4 e4,.bool false,.slice A5 N5 e5,.slice A6 N6 e6] _ (fun w hw=>hw.2.2.1) Tryz.underlying55 rfl size_polI) (by assumption) ?_
            (try simp only[Act.put,z1,z2,z3])
            refine tk 5 192 ?_
            refine tk 6 193 ?_
            refine tk 7 194 ?_
            refine tk 8 195 ?_
            refine takeT (i:=9) (d:=196) (v:=(.agg #[.string x.name,.int .i64 x.k,.int .i64 x.m,.int .i64 x.q,.int .i64 0,.int .i64 0,.int .i64 0,.int .i64 x.s3,.int .i64 x.s4,.slice D1 M1 f1,.slice D2 M2 f2,.bool false,.slice D3 M3 f3,.slice D4 M4 f4,.bool false,.slice D5 M5 f5,.slice D6 M6 f6])) rfl rfl (by kernel_rfl) (by kernel_rfl) (by kernel_rfl) (by kernel_rfl) (fun _ _ _ h=>h) (yieldsIf_load_mid (by rfl) 55 (.tmp 195) rfl b' (off'+j * 17) (by rfl) [.string x.name,.int .i64 x.k,.int .i64 x.m,.int .i64 x.q,.int .i64 0,.int .i64 0,.int .i64 0,.int .i64 x.s3,.int .i64 x.s4,.slice D1 M1 f1,.slice D2 M2 f2,.bool false,.slice D3 M3 f3,.slice D4 M4 f4,.bool false,.slice D5 M5 f5,.slice D6 M6 f6] _ (fun w hw=>hw.2.2.2) Tryz.underlying55 rfl size_polI) (by assumption) ?_
            (try simp only[Act.put,z1,z2,z3])
            refine readyT (rs:=[10,11]) (by kernel_rfl) (by simp) ?_
            refine AllReadyT.cons rfl (fun K hK=>?_) ?_
            ·go_simp
             refine hK.out _ _ ?_ (fun hHeld=>?_)
             ·(first|exact HSR.out _ (HB.out.drew.alloc HB.out.drew.size _)|exact HSR.out _ ((HB.out.drew.alloc HB.out.drew.size _).alloc (by have:=HB.out.size;simp;omega) _))
             clear hK K
             (try simp only[Act.put,z1,z2,z3])
             refine readyT (rs:=[11]) (by kernel_rfl) (by simp) ?_
             refine AllReadyT.cons rfl (fun K hK=>?_) ?_
             ·go_simp
              refine hK.out _ _ ?_ (fun hHeld=>?_)
              ·(first|exact HSR.out _ (HB.out.drew.alloc HB.out.drew.size _)|exact HSR.out _ ((HB.out.drew.alloc HB.out.drew.size _).alloc (by have:=HB.out.size;simp;omega) _))
              clear hK K
              (try simp only[Act.put,z1,z2,z3])
              refine readyT (rs:=[12]) (by kernel_rfl) (by simp) ?_
              refine AllReadyT.cons rfl (fun K hK=>?_) ?_
              ·rw[if_pos (by rfl)]
               obtain⟨W5,hW5⟩:=zx (((W4.alloc (.cells #[.string ⟨#[]⟩,.int .i64 0,.int .i64 0,.int .i64 0,.int .i64 0,.int .i64 0,.int .i64 0,.int .i64 0,.int .i64 0,.slice none 0 0,.slice none 0 0,.bool false,.slice none 0 0,.slice none 0 0,.bool false,.slice none 0 0,.slice none 0 0] 55)).alloc (.cells #[.string ⟨#[]⟩,.int .i64 0,.int .i64 0,.int .i64 0,.int .i64 0,.int .i64 0,.int .i64 0,.int .i64 0,.int .i64 0,.slice none 0 0,.slice none 0 0,.bool false,.slice none 0 0,.slice none 0 0,.bool false,.slice none 0 0,.slice none 0 0] 55)).drew)
               obtain⟨gX,hgX⟩:=zx W4.heap.size
               obtain⟨gY,hgY⟩:=zx (W4.heap.size+1)
               rw[←hW5,←hgY,←hgX]
               have kx:W5.heap[gX]?=some (.cells #[.string ⟨#[]⟩,.int .i64 0,.int .i64 0,.int .i64 0,.int .i64 0,.int .i64 0,.int .i64 0,.int .i64 0,.int .i64 0,.slice none 0 0,.slice none 0 0,.bool false,.slice none 0 0,.slice none 0 0,.bool false,.slice none 0 0,.slice none 0 0] 55 (0,0)):=by rw[hW5,hgX];exact(Below.heap_alloc _ _ _ (by simp)).trans (heap_alloc_new _ _)
               have ky:W5.heap[gY]?=some (.cells #[.string ⟨#[]⟩,.int .i64 0,.int .i64 0,.int .i64 0,.int .i64 0,.int .i64 0,.int .i64 0,.int .i64 0,.int .i64 0,.slice none 0 0,.slice none 0 0,.bool false,.slice none 0 0,.slice none 0 0,.bool false,.slice none 0 0,.slice none 0 0] 55 (0,0)):=by rw[hW5,hgY];exact heap_alloc_at _ _ _ (by simp)
               have hs4:=HB.out.size
               have hb5:Below W1.heap.size W1 W5:=by rw[hW5];exact((HB.out.alloc hs4 _).alloc (by simp;omega) _).drew
               have HXY:=zh (show W1.heap.size≤gX∧W1.heap.size≤gY∧gX≠gY∧gX<W5.heap.size∧gY<W5.heap.size from⟨by omega,by omega,by omega,(Array.getElem?_eq_some_iff.1 kx).1,(Array.getElem?_eq_some_iff.1 ky).1⟩)
               have HKX:=zh (show W5.there gX 0 17 from there_new kx (Nat.le_refl 17))
               have HKY:=zh (show W5.there gY 0 17 from there_new ky (Nat.le_refl 17))
               have HB5:=zh hb5
               clear hW5 hgX hgY kx ky hs4 hb5
               refine wp_store_mid 55 (.tmp 12) (.tmp 191) rfl gX 0 #[.string x.name,.int .i64 x.k,.int .i64 x.m,.int .i64 x.q,.int .i64 0,.int .i64 0,.int .i64 0,.int .i64 x.s3,.int .i64 x.s4,.slice A1 N1 e1,.slice A2 N2 e2,.bool false,.slice A3 N3 e3,.slice A4 N4 e4,.bool false,.slice A5 N5 e5,.slice A6 N6 e6] (by rfl) (by rfl) HKX.out size_polI (by simp[Value.oneCell']) ?_
               simp only[List.toList_toArray]
               have hx:=World.rangeAt_setCells_same W5 gX 0 [.string x.name,.int .i64 x.k,.int .i64 x.m,.int .i64 x.q,.int .i64 0,.int .i64 0,.int .i64 0,.int .i64 x.s3,.int .i64 x.s4,.slice A1 N1 e1,.slice A2 N2 e2,.bool false,.slice A3 N3 e3,.slice A4 N4 e4,.bool false,.slice A5 N5 e5,.slice A6 N6 e6] HKX.out
               have hy:=World.there_setCells HKY.out gX 0 [.string x.name,.int .i64 x.k,.int .i64 x.m,.int .i64 x.q,.int .i64 0,.int .i64 0,.int .i64 0,.int .i64 x.s3,.int .i64 x.s4,.slice A1 N1 e1,.slice A2 N2 e2,.bool false,.slice A3 N3 e3,.slice A4 N4 e4,.bool false,.slice A5 N5 e5,.slice A6 N6 e6]
               have hb6:Below W1.heap.size W1 (World.setCells W5 gX 0 [.string x.name,.int .i64 x.k,.int .i64 x.m,.int .i64 x.q,.int .i64 0,.int .i64 0,.int .i64 0,.int .i64 x.s3,.int .i64 x.s4,.slice A1 N1 e1,.slice A2 N2 e2,.bool false,.slice A3 N3 e3,.slice A4 N4 e4,.bool false,.slice A5 N5 e5,.slice A6 N6 e6]):=below_setCellsV HXY.out.1 _ _ _ HB5.out
               have hs6:=setCells_sizeK (g:=gX) [.string x.name,.int .i64 x.k,.int .i64 x.m,.int .i64 x.q,.int .i64 0,.int .i64 0,.int .i64 0,.int .i64 x.s3,.int .i64 x.s4,.slice A1 N1 e1,.slice A2 N2 e2,.bool false,.slice A3 N3 e3,.slice A4 N4 e4,.bool false,.slice A5 N5 e5,.slice A6 N6 e6] 0 W5
               obtain⟨W6,hW6⟩:=zx (World.setCells W5 gX 0 [.string x.name,.int .i64 x.k,.int .i64 x.m,.int .i64 x.q,.int .i64 0,.int .i64 0,.int .i64 0,.int .i64 x.s3,.int .i64 x.s4,.slice A1 N1 e1,.slice A2 N2 e2,.bool false,.slice A3 N3 e3,.slice A4 N4 e4,.bool false,.slice A5 N5 e5,.slice A6 N6 e6])
               rw[←hW6] at hx hy hb6 hs6 ⊢
               have HRX:=zh hx
               have HTY:=zh hy
               have HB6:=zh hb6
               have HS6:=zh hs6
               clear hW6 hx hy hb6 hs6
               refine hK.out _ _ ?_ (fun hHeld=>?_)
               ·exact HSR.out _ HB6.out
               clear hK K
               (try simp only[Act.put,z1,z2,z3])
               refine readyT (rs:=[13]) (by kernel_rfl) (by simp) ?_
               refine AllReadyT.cons rfl (fun K hK=>?_) ?_
               ·rw[if_pos (by rfl)]
                refine wp_store_mid 55 (.tmp 13) (.tmp 196) rfl gY 0 #[.string x.name,.int .i64 x.k,.int .i64 x.m,.int .i64 x.q,.int .i64 0,.int .i64 0,.int .i64 0,.int .i64 x.s3,.int .i64 x.s4,.slice D1 M1 f1,.slice D2 M2 f2,.bool false,.slice D3 M3 f3,.slice D4 M4 f4,.bool false,.slice D5 M5 f5,.slice D6 M6 f6] (by rfl) (by rfl) HTY.out size_polI (by simp[Value.oneCell']) ?_
                simp only[List.toList_toArray]
                have hx:=World.rangeAt_setCells_apart HRX.out gY 0 [.string x.name,.int .i64 x.k,.int .i64 x.m,.int .i64 x.q,.int .i64 0,.int .i64 0,.int .i64 0,.int .i64 x.s3,.int .i64 x.s4,.slice D1 M1 f1,.slice D2 M2 f2,.bool false,.slice D3 M3 f3,.slice D4 M4 f4,.bool false,.slice D5 M5 f5,.slice D6 M6 f6] (.inl HXY.out.2.2.1)
                have hy:=World.rangeAt_setCells_same W6 gY 0 [.string x.name,.int .i64 x.k,.int .i64 x.m,.int .i64 x.q,.int .i64 0,.int .i64 0,.int .i64 0,.int .i64 x.s3,.int .i64 x.s4,.slice D1 M1 f1,.slice D2 M2 f2,.bool false,.slice D3 M3 f3,.slice D4 M4 f4,.bool false,.slice D5 M5 f5,.slice D6 M6 f6] HTY.out
                have hb7:Below W1.heap.size W1 (World.setCells W6 gY 0 [.string x.name,.int .i64 x.k,.int .i64 x.m,.int .i64 x.q,.int .i64 0,.int .i64 0,.int .i64 0,.int .i64 x.s3,.int .i64 x.s4,.slice D1 M1 f1,.slice D2 M2 f2,.bool false,.slice D3 M3 f3,.slice D4 M4 f4,.bool false,.slice D5 M5 f5,.slice D6 M6 f6]):=below_setCellsV HXY.out.2.1 _ _ _ HB6.out
                have hs7:=(setCells_sizeK (g:=gY) [.string x.name,.int .i64 x.k,.int .i64 x.m,.int .i64 x.q,.int .i64 0,.int .i64 0,.int .i64 0,.int .i64 x.s3,.int .i64 x.s4,.slice D1 M1 f1,.slice D2 M2 f2,.bool false,.slice D3 M3 f3,.slice D4 M4 f4,.bool false,.slice D5 M5 f5,.slice D6 M6 f6] 0 W6).trans HS6.out
                obtain⟨W7,hW7⟩:=zx (World.setCells W6 gY 0 [.string x.name,.int .i64 x.k,.int .i64 x.m,.int .i64 x.q,.int .i64 0,.int .i64 0,.int .i64 0,.int .i64 x.s3,.int .i64 x.s4,.slice D1 M1 f1,.slice D2 M2 f2,.bool false,.slice D3 M3 f3,.slice D4 M4 f4,.bool false,.slice D5 M5 f5,.slice D6 M6 f6])
                rw[←hW7] at hx hy hb7 hs7 ⊢
                have HX:=zh (And.intro hx hy)
                have HB8:=zh hb7
                have HSZ:=zh hs7
                clear hW7 hx hy hb7 hs7
                refine hK.out _ _ ?_ (fun hHeld=>?_)
                ·exact HSR.out _ HB8.out
                clear hK K
                (try simp only[Act.put,z1,z2,z3])
                refine doneT (by kernel_rfl) ?_ _
                clear hHeld
                go_wp2_with fail
                go_meet
                exact⟨gX,gY,rfl,rfl,HB8,zh ⟨HX.out.1,HX.out.2,by rw[HSZ.out];exact HXY.out.2.2.2.1,by rw[HSZ.out];exact HXY.out.2.2.2.2⟩⟩
               exact AllReadyT.nil
              exact AllReadyT.nil
             exact AllReadyT.nil
            refine AllReadyT.cons rfl (fun K hK=>?_) ?_
            ·go_simp
             refine hK.out _ _ ?_ (fun hHeld=>?_)
             ·(first|exact HSR.out _ (HB.out.drew.alloc HB.out.drew.size _)|exact HSR.out _ ((HB.out.drew.alloc HB.out.drew.size _).alloc (by have:=HB.out.size;simp;omega) _))
             clear hK K
             (try simp only[Act.put,z1,z2,z3])
             refine readyT (rs:=[10]) (by kernel_rfl) (by simp) ?_
             refine AllReadyT.cons rfl (fun K hK=>?_) ?_
             ·go_simp
              refine hK.out _ _ ?_ (fun hHeld=>?_)
              ·(first|exact HSR.out _ (HB.out.drew.alloc HB.out.drew.size _)|exact HSR.out _ ((HB.out.drew.alloc HB.out.drew.size _).alloc (by have:=HB.out.size;simp;omega) _))
              clear hK K
              (try simp only[Act.put,z1,z2,z3])
              refine readyT (rs:=[12]) (by kernel_rfl) (by simp) ?_
              refine AllReadyT.cons rfl (fun K hK=>?_) ?_
              ·rw[if_pos (by rfl)]
               obtain⟨W5,hW5⟩:=zx (((W4.alloc (.cells #[.string ⟨#[]⟩,.int .i64 0,.int .i64 0,.int .i64 0,.int .i64 0,.int .i64 0,.int .i64 0,.int .i64 0,.int .i64 0,.slice none 0 0,.slice none 0 0,.bool false,.slice none 0 0,.slice none 0 0,.bool false,.slice none 0 0,.slice none 0 0] 55)).alloc (.cells #[.string ⟨#[]⟩,.int .i64 0,.int .i64 0,.int .i64 0,.int .i64 0,.int .i64 0,.int .i64 0,.int .i64 0,.int .i64 0,.slice none 0 0,.slice none 0 0,.bool false,.slice none 0 0,.slice none 0 0,.bool false,.slice none 0 0,.slice none 0 0] 55)).drew)
               obtain⟨gX,hgX⟩:=zx (W4.heap.size+1)
               obtain⟨gY,hgY⟩:=zx W4.heap.size
               rw[←hW5,←hgX,←hgY]
               have kx:W5.heap[gX]?=some (.cells #[.string ⟨#[]⟩,.int .i64 0,.int .i64 0,.int .i64 0,.int .i64 0,.int .i64 0,.int .i64 0,.int .i64 0,.int .i64 0,.slice none 0 0,.slice none 0 0,.bool false,.slice none 0 0,.slice none 0 0,.bool false,.slice none 0 0,.slice none 0 0] 55 (0,0)):=by rw[hW5,hgX];exact heap_alloc_at _ _ _ (by simp)
               have ky:W5.heap[gY]?=some (.cells #[.string ⟨#[]⟩,.int .i64 0,.int .i64 0,.int .i64 0,.int .i64 0,.int .i64 0,.int .i64 0,.int .i64 0,.int .i64 0,.slice none 0 0,.slice none 0 0,.bool false,.slice none 0 0,.slice none 0 0,.bool false,.slice none 0 0,.slice none 0 0] 55 (0,0)):=by rw[hW5,hgY];exact(Below.heap_alloc _ _ _ (by simp)).trans (heap_alloc_new _ _)
               have hs4:=HB.out.size
               have hb5:Below W1.heap.size W1 W5:=by rw[hW5];exact((HB.out.alloc hs4 _).alloc (by simp;omega) _).drew
               have HXY:=zh (show W1.heap.size≤gX∧W1.heap.size≤gY∧gX≠gY∧gX<W5.heap.size∧gY<W5.heap.size from⟨by omega,by omega,by omega,(Array.getElem?_eq_some_iff.1 kx).1,(Array.getElem?_eq_some_iff.1 ky).1⟩)
               have HKX:=zh (show W5.there gX 0 17 from there_new kx (Nat.le_refl 17))
               have HKY:=zh (show W5.there gY 0 17 from there_new ky (Nat.le_refl 17))
               have HB5:=zh hb5
               clear hW5 hgX hgY kx ky hs4 hb5
               refine wp_store_mid 55 (.tmp 12) (.tmp 191) rfl gX 0 #[.string x.name,.int .i64 x.k,.int .i64 x.m,.int .i64 x.q,.int .i64 0,.int .i64 0,.int .i64 0,.int .i64 x.s3,.int .i64 x.s4,.slice A1 N1 e1,.slice A2 N2 e2,.bool false,.slice A3 N3 e3,.slice A4 N4 e4,.bool false,.slice A5 N5 e5,.slice A6 N6 e6] (by rfl) (by rfl) HKX.out size_polI (by simp[Value.oneCell']) ?_
               simp only[List.toList_toArray]
               have hx:=World.rangeAt_setCells_same W5 gX 0 [.string x.name,.int .i64 x.k,.int .i64 x.m,.int .i64 x.q,.int .i64 0,.int .i64 0,.int .i64 0,.int .i64 x.s3,.int .i64 x.s4,.slice A1 N1 e1,.slice A2 N2 e2,.bool false,.slice A3 N3 e3,.slice A4 N4 e4,.bool false,.slice A5 N5 e5,.slice A6 N6 e6] HKX.out
               have hy:=World.there_setCells HKY.out gX 0 [.string x.name,.int .i64 x.k,.int .i64 x.m,.int .i64 x.q,.int .i64 0,.int .i64 0,.int .i64 0,.int .i64 x.s3,.int .i64 x.s4,.slice A1 N1 e1,.slice A2 N2 e2,.bool false,.slice A3 N3 e3,.slice A4 N4 e4,.bool false,.slice A5 N5 e5,.slice A6 N6 e6]
               have hb6:Below W1.heap.size W1 (World.setCells W5 gX 0 [.string x.name,.int .i64 x.k,.int .i64 x.m,.int .i64 x.q,.int .i64 0,.int .i64 0,.int .i64 0,.int .i64 x.s3,.int .i64 x.s4,.slice A1 N1 e1,.slice A2 N2 e2,.bool false,.slice A3 N3 e3,.slice A4 N4 e4,.bool false,.slice A5 N5 e5,.slice A6 N6 e6]):=below_setCellsV HXY.out.1 _ _ _ HB5.out
               have hs6:=setCells_sizeK (g:=gX) [.string x.name,.int .i64 x.k,.int .i64 x.m,.int .i64 x.q,.int .i64 0,.int .i64 0,.int .i64 0,.int .i64 x.s3,.int .i64 x.s4,.slice A1 N1 e1,.slice A2 N2 e2,.bool false,.slice A3 N3 e3,.slice A4 N4 e4,.bool false,.slice A5 N5 e5,.slice A6 N6 e6] 0 W5
               obtain⟨W6,hW6⟩:=zx (World.setCells W5 gX 0 [.string x.name,.int .i64 x.k,.int .i64 x.m,.int .i64 x.q,.int .i64 0,.int .i64 0,.int .i64 0,.int .i64 x.s3,.int .i64 x.s4,.slice A1 N1 e1,.slice A2 N2 e2,.bool false,.slice A3 N3 e3,.slice A4 N4 e4,.bool false,.slice A5 N5 e5,.slice A6 N6 e6])
               rw[←hW6] at hx hy hb6 hs6 ⊢
               have HRX:=zh hx
               have HTY:=zh hy
               have HB6:=zh hb6
               have HS6:=zh hs6
               clear hW6 hx hy hb6 hs6
               refine hK.out _ _ ?_ (fun hHeld=>?_)
               ·exact HSR.out _ HB6.out
               clear hK K
               (try simp only[Act.put,z1,z2,z3])
               refine readyT (rs:=[13]) (by kernel_rfl) (by simp) ?_
               refine AllReadyT.cons rfl (fun K hK=>?_) ?_
               ·rw[if_pos (by rfl)]
                refine wp_store_mid 55 (.tmp 13) (.tmp 196) rfl gY 0 #[.string x.name,.int .i64 x.k,.int .i64 x.m,.int .i64 x.q,.int .i64 0,.int .i64 0,.int .i64 0,.int .i64 x.s3,.int .i64 x.s4,.slice D1 M1 f1,.slice D2 M2 f2,.bool false,.slice D3 M3 f3,.slice D4 M4 f4,.bool false,.slice D5 M5 f5,.slice D6 M6 f6] (by rfl) (by rfl) HTY.out size_polI (by simp[Value.oneCell']) ?_
                simp only[List.toList_toArray]
                have hx:=World.rangeAt_setCells_apart HRX.out gY 0 [.string x.name,.int .i64 x.k,.int .i64 x.m,.int .i64 x.q,.int .i64 0,.int .i64 0,.int .i64 0,.int .i64 x.s3,.int .i64 x.s4,.slice D1 M1 f1,.slice D2 M2 f2,.bool false,.slice D3 M3 f3,.slice D4 M4 f4,.bool false,.slice D5 M5 f5,.slice D6 M6 f6] (.inl HXY.out.2.2.1)
                have hy:=World.rangeAt_setCells_same W6 gY 0 [.string x.name,.int .i64 x.k,.int .i64 x.m,.int .i64 x.q,.int .i64 0,.int .i64 0,.int .i64 0,.int .i64 x.s3,.int .i64 x.s4,.slice D1 M1 f1,.slice D2 M2 f2,.bool false,.slice D3 M3 f3,.slice D4 M4 f4,.bool false,.slice D5 M5 f5,.slice D6 M6 f6] HTY.out
                have hb7:Below W1.heap.size W1 (World.setCells W6 gY 0 [.string x.name,.int .i64 x.k,.int .i64 x.m,.int .i64 x.q,.int .i64 0,.int .i64 0,.int .i64 0,.int .i64 x.s3,.int .i64 x.s4,.slice D1 M1 f1,.slice D2 M2 f2,.bool false,.slice D3 M3 f3,.slice D4 M4 f4,.bool false,.slice D5 M5 f5,.slice D6 M6 f6]):=below_setCellsV HXY.out.2.1 _ _ _ HB6.out
                have hs7:=(setCells_sizeK (g:=gY) [.string x.name,.int .i64 x.k,.int .i64 x.m,.int .i64 x.q,.int .i64 0,.int .i64 0,.int .i64 0,.int .i64 x.s3,.int .i64 x.s4,.slice D1 M1 f1,.slice D2 M2 f2,.bool false,.slice D3 M3 f3,.slice D4 M4 f4,.bool false,.slice D5 M5 f5,.slice D6 M6 f6] 0 W6).trans HS6.out
                obtain⟨W7,hW7⟩:=zx (World.setCells W6 gY 0 [.string x.name,.int .i64 x.k,.int .i64 x.m,.int .i64 x.q,.int .i64 0,.int .i64 0,.int .i64 0,.int .i64 x.s3,.int .i64 x.s4,.slice D1 M1 f1,.slice D2 M2 f2,.bool false,.slice D3 M3 f3,.slice D4 M4 f4,.bool false,.slice D5 M5 f5,.slice D6 M6 f6])
                rw[←hW7] at hx hy hb7 hs7 ⊢
                have HX:=zh (And.intro hx hy)
                have HB8:=zh hb7
                have HSZ:=zh hs7
                clear hW7 hx hy hb7 hs7
                refine hK.out _ _ ?_ (fun hHeld=>?_)
                ·exact HSR.out _ HB8.out
                clear hK K
                (try simp only[Act.put,z1,z2,z3])
                refine doneT (by kernel_rfl) ?_ _
                clear hHeld
                go_wp2_with fail
                go_meet
                exact⟨gX,gY,rfl,rfl,HB8,zh ⟨HX.out.1,HX.out.2,by rw[HSZ.out];exact HXY.out.2.2.2.1,by rw[HSZ.out];exact HXY.out.2.2.2.2⟩⟩
               exact AllReadyT.nil
              exact AllReadyT.nil
             exact AllReadyT.nil
            exact AllReadyT.nil
           case rest =>
            obtain⟨gX,gY,rfl,rfl,HBC,HRC⟩:=hcut
            have q52:=fun(w':World)=>eq52 0 0 0 x.s3 x.s4 w'
            have HXR:=zh (show ∀w',Below wc.heap.size wc w'→w'.rangeAt gX 0 [.string x.name,.int .i64 x.k,.int .i64 x.m,.int .i64 x.q,.int .i64 0,.int .i64 0,.int .i64 0,.int .i64 x.s3,.int .i64 x.s4,.slice A1 N1 e1,.slice A2 N2 e2,.bool false,.slice A3 N3 e3,.slice A4 N4 e4,.bool false,.slice A5 N5 e5,.slice A6 N6 e6] from fun w' hb=>range_same HRC.out.1 (hb.block gX HRC.out.2.2.1))
            have HYR:=zh (show ∀w',Below wc.heap.size wc w'→w'.rangeAt gY 0 [.string x.name,.int .i64 x.k,.int .i64 x.m,.int .i64 x.q,.int .i64 0,.int .i64 0,.int .i64 0,.int .i64 x.s3,.int .i64 x.s4,.slice D1 M1 f1,.slice D2 M2 f2,.bool false,.slice D3 M3 f3,.slice D4 M4 f4,.bool false,.slice D5 M5 f5,.slice D6 M6 f6] from fun w' hb=>range_same HRC.out.2.1 (hb.block gY HRC.out.2.2.2))
            have x0:wc.cell? ⟨gX,0,none⟩=some (.string x.name):=HXR.out wc (Below.refl _ _) 0 _ rfl
            have x1:wc.cell? ⟨gX,1,none⟩=some (.int .i64 x.k):=HXR.out wc (Below.refl _ _) 1 _ rfl
            have x2:wc.cell? ⟨gX,2,none⟩=some (.int .i64 x.m):=HXR.out wc (Below.refl _ _) 2 _ rfl
            have x3:wc.cell? ⟨gX,3,none⟩=some (.int .i64 x.q):=HXR.out wc (Below.refl _ _) 3 _ rfl
            have x4:wc.cell? ⟨gX,4,none⟩=some (.int .i64 0):=HXR.out wc (Below.refl _ _) 4 _ rfl
            have x5:wc.cell? ⟨gX,5,none⟩=some (.int .i64 0):=HXR.out wc (Below.refl _ _) 5 _ rfl
            have x6:wc.cell? ⟨gX,6,none⟩=some (.int .i64 0):=HXR.out wc (Below.refl _ _) 6 _ rfl
            have x7:wc.cell? ⟨gX,7,none⟩=some (.int .i64 x.s3):=HXR.out wc (Below.refl _ _) 7 _ rfl
            have x8:wc.cell? ⟨gX,8,none⟩=some (.int .i64 x.s4):=HXR.out wc (Below.refl _ _) 8 _ rfl
            have x9:wc.cell? ⟨gX,9,none⟩=some (.slice A1 N1 e1):=HXR.out wc (Below.refl _ _) 9 _ rfl
            have y0:wc.cell? ⟨gY,0,none⟩=some (.string x.name):=HYR.out wc (Below.refl _ _) 0 _ rfl
            have y1:wc.cell? ⟨gY,1,none⟩=some (.int .i64 x.k):=HYR.out wc (Below.refl _ _) 1 _ rfl
            have y2:wc.cell? ⟨gY,2,none⟩=some (.int .i64 x.m):=HYR.out wc (Below.refl _ _) 2 _ rfl
            have y3:wc.cell? ⟨gY,3,none⟩=some (.int .i64 x.q):=HYR.out wc (Below.refl _ _) 3 _ rfl
            have y4:wc.cell? ⟨gY,4,none⟩=some (.int .i64 0):=HYR.out wc (Below.refl _ _) 4 _ rfl
            have y5:wc.cell? ⟨gY,5,none⟩=some (.int .i64 0):=HYR.out wc (Below.refl _ _) 5 _ rfl
            have y6:wc.cell? ⟨gY,6,none⟩=some (.int .i64 0):=HYR.out wc (Below.refl _ _) 6 _ rfl
            have y7:wc.cell? ⟨gY,7,none⟩=some (.int .i64 x.s3):=HYR.out wc (Below.refl _ _) 7 _ rfl
            have y8:wc.cell? ⟨gY,8,none⟩=some (.int .i64 x.s4):=HYR.out wc (Below.refl _ _) 8 _ rfl
            have y9:wc.cell? ⟨gY,9,none⟩=some (.slice D1 M1 f1):=HYR.out wc (Below.refl _ _) 9 _ rfl
            go_wp2_with fail
            refine(HI.out wc (HK.out wc HBC.out).2.2).mono ?_
            rintro e w9 ⟨rfl,n9,rfl⟩
            have HB9:=zh (show Below wc.heap.size wc (wc.drewN n9) from Below.drewN' (Below.refl _ _) n9)
            obtain⟨w9,hw9⟩:=zx (wc.drewN n9)
            rw[←hw9] at HB9 ⊢
            clear hw9 x0 y0 x1 y1 x2 y2 x3 y3 x4 y4 x5 y5 x6 y6 x7 y7 x8 y8 x9 y9
            have x10:w9.cell? ⟨gX,10,none⟩=some (.slice A2 N2 e2):=HXR.out w9 HB9.out 10 _ rfl
            have y10:w9.cell? ⟨gY,10,none⟩=some (.slice D2 M2 f2):=HYR.out w9 HB9.out 10 _ rfl
            go_wp2_with fail
            refine(HRP.out w9 (HK.out w9 (HBC.out.trans (HB9.out.mono HBC.out.size))).2.2).mono ?_
            rintro e w10 ⟨rfl,hb10⟩
            have HB10:=zh (HB9.out.trans (hb10.mono HB9.out.size))
            clear hb10 x10 y10
            have x11:w10.cell? ⟨gX,11,none⟩=some (.bool false):=HXR.out w10 HB10.out 11 _ rfl
            have x12:w10.cell? ⟨gX,12,none⟩=some (.slice A3 N3 e3):=HXR.out w10 HB10.out 12 _ rfl
            have x13:w10.cell? ⟨gX,13,none⟩=some (.slice A4 N4 e4):=HXR.out w10 HB10.out 13 _ rfl
            have y11:w10.cell? ⟨gY,11,none⟩=some (.bool false):=HYR.out w10 HB10.out 11 _ rfl
            have y12:w10.cell? ⟨gY,12,none⟩=some (.slice D3 M3 f3):=HYR.out w10 HB10.out 12 _ rfl
            have y13:w10.cell? ⟨gY,13,none⟩=some (.slice D4 M4 f4):=HYR.out w10 HB10.out 13 _ rfl
            go_wp2_with fail
            refine(HTG.out w10 (HK.out w10 (HBC.out.trans (HB10.out.mono HBC.out.size))).2.2).mono ?_
            rintro e w11 ⟨rfl,hb11⟩
            have HB11:=zh (HB10.out.trans (hb11.mono HB10.out.size))
            clear hb11 x11 y11 x12 y12 x13 y13
            have x14:w11.cell? ⟨gX,14,none⟩=some (.bool false):=HXR.out w11 HB11.out 14 _ rfl
            have x15:w11.cell? ⟨gX,15,none⟩=some (.slice A5 N5 e5):=HXR.out w11 HB11.out 15 _ rfl
            have x16:w11.cell? ⟨gX,16,none⟩=some (.slice A6 N6 e6):=HXR.out w11 HB11.out 16 _ rfl
            have y14:w11.cell? ⟨gY,14,none⟩=some (.bool false):=HYR.out w11 HB11.out 14 _ rfl
            have y15:w11.cell? ⟨gY,15,none⟩=some (.slice D5 M5 f5):=HYR.out w11 HB11.out 15 _ rfl
            have y16:w11.cell? ⟨gY,16,none⟩=some (.slice D6 M6 f6):=HYR.out w11 HB11.out 16 _ rfl
            go_wp2_with fail
            refine(HHZ.out w11 (HK.out w11 (HBC.out.trans (HB11.out.mono HBC.out.size))).2.2).mono ?_
            rintro e w12 ⟨rfl,hb12⟩
            have HX9:=zh (HBC.out.trans ((HB11.out.trans (hb12.mono HB11.out.size)).mono HBC.out.size))
            clear hb12 x14 y14 x15 y15 x16 y16
            go_wp2_with fail
            go_roundg (NP - (j+1))
            case measure=>omega
            case rel=>exact⟨j+1,by omega,rfl,by go_num,HX9⟩
          ·have hx:=hlt
           go_wp2_with fail
           clear c0 c1 c2 c3 c4 c5 c6
           go_loopg [14] NO (fun z v wr=>∃j:Nat,j≤NO∧z=NO - j∧v=.int .i64 (j:Int)∧Hid (Below W1.heap.size W1 wr))
           case atStart=>exact⟨0,by omega,rfl,rfl,HB⟩
           case round =>
            clear HB
            obtain⟨j,hj,rfl,rfl,HB⟩:=hrel
            obtain⟨W4,hW4⟩:=zx wr
            rw[←hW4] at HB ⊢
            clear hW4
            obtain⟨c0,c1,c2,c3,c4,c5,c6⟩:=cells7 (HK.out W4 HB.out).1
            by_cases hlt:j<NO
            ·have hjl:j<F.vols.length:=by have:=HL.out;omega
             have lj:(j:Int)<(NO:Int):=by omega
             obtain⟨b,off,cs,hAe,hR,-,hc,hcs⟩:=HFA.out.2.2.2.2.2.at_ (k:=j) hjl
             obtain⟨b',off',cs',hBe,hR',-,hc',hcs'⟩:=HFB.out.2.2.2.2.2.at_ (k:=j) hjl
             subst hAe;subst hBe
             obtain⟨x,hx⟩:∃x,F.vols[j]?=some x:=⟨_,List.getElem?_eq_getElem hjl⟩
             rw[(List.getElem?_eq_some_iff.1 hx).2] at hcs hcs'
             have HX:=zh hx
             clear hx hjl
             unfold VolK at hcs hcs'
             subst hcs hcs'
             have hr1:w.rangeAt b (off+j * 2) [.string x.name,.int .i64 x.pol]:=fun i u hu=>hc i u hu
             have hr2:w.rangeAt b' (off'+j * 2) [.string x.name,.int .i64 x.pol]:=fun i u hu=>hc' i u hu
             have HSR:=zh (show ∀w',Below W1.heap.size W1 w'→(fun w'=>w'.cell? ⟨gA,6,none⟩=some (.slice (some ⟨b,off,none⟩) NO co)∧w'.cell? ⟨gB,6,none⟩=some (.slice (some ⟨b',off',none⟩) NO ko)∧w'.rangeAt b (off+j * 2) [.string x.name,.int .i64 x.pol]∧w'.rangeAt b' (off'+j * 2) [.string x.name,.int .i64 x.pol]) w' from fun w' hb=>by
              obtain⟨c0,c1,c2,c3,c4,c5,c6⟩:=cells7 (HK.out w' hb).1
              obtain⟨d0,d1,d2,d3,d4,d5,d6⟩:=cells7 (HK.out w' hb).2.1
              exact⟨c6,d6,range_same hr1 ((HK.out w' hb).2.2.block b hR),range_same hr2 ((HK.out w' hb).2.2.block b' hR')⟩)
             clear hc hc' hr1 hr2 hR hR'
             go_upto_region 33 with fail
             clear c0 c1 c2 c3 c4 c5 c6
             refine region_tail (S:=(fun w'=>w'.cell? ⟨gA,6,none⟩=some (.slice (some ⟨b,off,none⟩) NO co)∧w'.cell? ⟨gB,6,none⟩=some (.slice (some ⟨b',off',none⟩) NO ko)∧w'.rangeAt b (off+j * 2) [.string x.name,.int .i64 x.pol]∧w'.rangeAt b' (off'+j * 2) [.string x.name,.int .i64 x.pol])) [] (by kernel_rfl) (HSR.out _ HB.out.drew) (fun hHeld=>?_)
             refine tk 0 269 ?_
             refine tk 1 270 ?_
             refine tk 2 271 ?_
             refine tk 3 272 ?_
             refine takeT (i:=4) (d:=273) (v:=(.agg #[.string x.name,.int .i64 x.pol])) rfl rfl (by kernel_rfl) (by kernel_rfl) (by kernel_rfl) (by kernel_rfl) (fun _ _ _ h=>h) (yieldsIf_load_mid (by rfl) 106 (.tmp 272) rfl b (off+j * 2) (by rfl) [.string x.name,.int .i64 x.pol] _ (fun w hw=>hw.2.2.1) Tryz.underlying106 rfl size_volI) (by assumption) ?_
             (try simp only[Act.put,z1,z2,z3])
             refine tk 5 274 ?_
             refine tk 6 275 ?_
             refine tk 7 276 ?_
             refine tk 8 277 ?_
             refine takeT (i:=9) (d:=278) (v:=(.agg #[.string x.name,.int .i64 x.pol])) rfl rfl (by kernel_rfl) (by kernel_rfl) (by kernel_rfl) (by kernel_rfl) (fun _ _ _ h=>h) (yieldsIf_load_mid (by rfl) 106 (.tmp 277) rfl b' (off'+j * 2) (by rfl) [.string x.name,.int .i64 x.pol] _ (fun w hw=>hw.2.2.2) Tryz.underlying106 rfl size_volI) (by assumption) ?_
             (try simp only[Act.put,z1,z2,z3])
             refine tk 10 279 ?_
             refine doneT (by kernel_rfl) ?_ _
             clear hHeld
             go_wp2_with fail
             go_roundg (NO - (j+1))
             case measure=>omega
             case rel=>exact⟨j+1,by omega,rfl,by go_num,(zh HB.out.drew)⟩
            ·have hx:=hlt
             go_wp2_with fail
             go_ret
             exact⟨rfl,(HK.out W4 HB.out).2.2⟩
end Go.Proofs.YtgfaieppacabjaaGreat
