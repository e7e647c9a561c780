/- drydockref09.SameFrac, SameFracs, drydockref10.ints on equal rows, walked. -/
import Derived.BigQuiet
import Derived.Deep.QuietTactic
import Derived.Deep.MidRow
import Derived.Test.YtgfaieppacabjaaGreatMw15
import Derived.Test.YtgfaieppacabjaaGreatMw19
import Derived.Test.YtgfaieppacabjaaGreatMw18
import Derived.Test.YtgfaieppacabjaaGreatMw01
set_option linter.unusedSectionVars false
set_option maxRecDepth 100000
set_option maxHeartbeats 12800000
namespace Go.Proofs.YtgfaieppacabjaaGreat
open Go.RowKit
set_option linter.unusedVariables false
set_option linter.unusedSimpArgs false
theorem cmpI_self(n:Nat):cmpI n n=0:=by unfold cmpI;simp
theorem sfrac9_any(xn xd yn yd:Value) (n d:Nat) (w:World) (hxn:LS w (Bl w.heap.size) xn (natL n)) (hxd:LS w (Bl w.heap.size) xd (natL d)) (hyn:LS w (Bl w.heap.size) yn (natL n)) (hyd:LS w (Bl w.heap.size) yd (natL d)) (h0:0<d) (h1:n * d<4294967296) :
  Calls Tryz.prog 39 #[.agg #[.bool false,xn,xd],.agg #[.bool false,yn,yd]] w fun e w'=>e=.returned (.bool true)∧Below w.heap.size w w':=by
 have hV1:=fun(w':World) (hb:Below w.heap.size w w')=>rvalid_any false xn xd n d w' (hxn.below hb) (hxd.below hb) h0
 have hV2:=fun(w':World) (hb:Below w.heap.size w w')=>rvalid_any false yn yd n d w' (hyn.below hb) (hyd.below hb) h0
 have hS:=fun(w':World) (hb:Below w.heap.size w w')=>rsame_any xn xd yn yd n d n d w' (hxn.below hb) (hxd.below hb) (hyn.below hb) (hyd.below hb) h0 h0 h1 h1
 obtain⟨An,Nn,cn,rfl⟩:=hxn.frm
 obtain⟨Ad,Nd,cd,rfl⟩:=hxd.frm
 obtain⟨Bn,Mn,dn,rfl⟩:=hyn.frm
 obtain⟨Bd,Md,dd,rfl⟩:=hyd.frm
 obtain⟨W1,hW1⟩:=zx ((w.alloc (.cells #[.bool false,.slice An Nn cn,.slice Ad Nd cd] 26)).alloc (.cells #[.bool false,.slice Bn Mn dn,.slice Bd Md dd] 26))
 obtain⟨g1,hg1⟩:=zx w.heap.size
 obtain⟨g2,hg2⟩:=zx (w.heap.size+1)
 have hb1:Below w.heap.size w W1:=by rw[hW1];exact((Below.refl _ _).alloc (Nat.le_refl _) _).alloc (by simp) _
 have k1:W1.heap[g1]?=some (.cells #[.bool false,.slice An Nn cn,.slice Ad Nd cd] 26 (0,0)):=by rw[hW1,hg1];exact(Below.heap_alloc _ _ _ (by simp)).trans (heap_alloc_new _ _)
 have k2:W1.heap[g2]?=some (.cells #[.bool false,.slice Bn Mn dn,.slice Bd Md dd] 26 (0,0)):=by rw[hW1,hg2];exact heap_alloc_at _ _ _ (by simp)
 have l1:=(Array.getElem?_eq_some_iff.1 k1).1
 have l2:=(Array.getElem?_eq_some_iff.1 k2).1
 have HK:=zh (show ∀w',Below W1.heap.size W1 w'→(w'.heap[g1]?=some (.cells #[.bool false,.slice An Nn cn,.slice Ad Nd cd] 26 (0,0))∧w'.heap[g2]?=some (.cells #[.bool false,.slice Bn Mn dn,.slice Bd Md dd] 26 (0,0))∧Below w.heap.size w w') from fun w' hb=>⟨(hb.block g1 l1).trans k1,(hb.block g2 l2).trans k2,hb1.trans (hb.mono hb1.size)⟩)
 have HV1:=zh hV1
 have HV2:=zh hV2
 have HS:=zh hS
 have HW:=zh (And.intro hW1 (And.intro hg1 hg2))
 clear hxn hxd hyn hyd h1 h0 hV1 hV2 hS hb1 hW1 hg1 hg2 k1 k2 l1 l2
 go_enter Tryz.func39,Tryz.ntmps39
 go_upto_region 1 with fail
 rw[←HW.out.1,←HW.out.2.1,show g1+1=g2 by (have:=HW.out;omega)]
 obtain⟨c0,c1,c2⟩:=cells3v (HK.out W1 (Below.refl _ _)).1
 go_wp2_with fail
 refine(HV1.out W1 (HK.out W1 (Below.refl _ _)).2.2).mono ?_
 rintro e w2 ⟨rfl,hb2⟩
 have HB2:=zh hb2
 clear hb2 c0 c1 c2
 obtain⟨c0,c1,c2⟩:=cells3v (HK.out w2 HB2.out).2.1
 go_wp2_with fail
 refine(HV2.out w2 (HK.out w2 HB2.out).2.2).mono ?_
 rintro e w3 ⟨rfl,hb3⟩
 have HB3:=zh (HB2.out.trans (hb3.mono HB2.out.size))
 clear hb3 c0 c1 c2
 obtain⟨c0,c1,c2⟩:=cells3v (HK.out w3 HB3.out).1
 obtain⟨d0,d1,d2⟩:=cells3v (HK.out w3 HB3.out).2.1
 go_wp2_with fail
 refine(HS.out w3 (HK.out w3 HB3.out).2.2).mono ?_
 rintro e w4 ⟨rfl,hb4⟩
 rw[cmpI_self]
 have HB4:=zh (HB3.out.trans (hb4.mono HB3.out.size))
 clear hb4 c0 c1 c2 d0 d1 d2
 go_wp2_with fail
 go_ret
 exact⟨by simp,(HK.out w4 HB4.out).2.2⟩
theorem cells4L{W:World} {g:Nat} {a b c d:Value} {t:TypeId} (k:W.heap[g]?=some (.cells #[a,b,c,d] t (0,0))):W.cell? ⟨g,0,none⟩=some a∧W.cell? ⟨g,1,none⟩=some b∧W.cell? ⟨g,2,none⟩=some c∧W.cell? ⟨g,3,none⟩=some d:=by
 refine⟨?_,?_,?_,?_⟩ <;> (rw[cell_of_row _ _ _ _ _ _ k];rfl)
def FrcOk(x:Frc):Prop:=x.neg=false∧0<x.den∧x.num * x.den<4294967296
theorem sfracs9_any(va vb:Value) (l:List Frc) (w:World) (ha:SlS 3 FrcK w (Bl w.heap.size) va l) (hb:SlS 3 FrcK w (Bl w.heap.size) vb l) (hok:∀x∈l,FrcOk x) :
  Calls Tryz.prog 41 #[va,vb] w fun e w'=>e=.returned (.bool true)∧Below w.heap.size w w':=by
 obtain⟨A,c,rfl,h1,h2⟩:=ha.form
 obtain⟨B,d,rfl,g1,g2⟩:=hb.form
 unfold maxLen at h2 g2
 have HA:=zh ha
 have HB:=zh hb
 obtain⟨LN,hL⟩:=zx l.length
 rw[←hL] at HA HB h1 h2 g1 g2 ⊢
 have HL:=zh hL
 have HOK:=zh hok
 clear ha hb hL hok
 have b1:((LN:Int) != (LN:Int))=false:=by simp
 go_enter Tryz.func41,Tryz.ntmps41
 go_wp2_with fail
 go_loopg [5] LN (fun z v5 wr=>∃j:Nat,j≤LN∧z=LN - j∧v5=.int .i64 (j:Int)∧Hid (Below w.heap.size w wr))
 case atStart=>exact⟨0,by omega,rfl,rfl,zh (Below.refl _ _)⟩
 case round =>
  obtain⟨j,hj,rfl,rfl,HW⟩:=hrel
  obtain⟨W1,hW1⟩:=zx wr
  rw[←hW1] at HW ⊢
  clear hW1
  by_cases hlt:j<LN
  ·have hjl:j<l.length:=by rw[←HL.out];exact hlt
   obtain⟨b,off,cs,hAe,hR,-,hc,hcs⟩:=HA.out.at_ (k:=j) hjl
   obtain⟨b',off',cs',hBe,hR',-,hc',hcs'⟩:=HB.out.at_ (k:=j) hjl
   subst hAe;subst hBe
   obtain⟨x,hx⟩:=zx (l[j])
   rw[←hx] at hcs hcs'
   have hok:=HOK.out x (by rw[hx];exact List.getElem_mem _)
   obtain⟨vn,vd,rfl,i1,i2⟩:=hcs
   obtain⟨un,ud,rfl,i3,i4⟩:=hcs'
   obtain⟨A1,N1,c1,rfl⟩:=i1.frm
   obtain⟨A2,N2,c2,rfl⟩:=i2.frm
   obtain⟨A3,N3,c3,rfl⟩:=i3.frm
   obtain⟨A4,N4,c4,rfl⟩:=i4.frm
   rw[hok.1] at hc hc'
   have hr1:w.rangeAt b (off+j * 3) [.bool false,.slice A1 N1 c1,.slice A2 N2 c2]:=fun i u hu=>hc i u hu
   have hr2:w.rangeAt b' (off'+j * 3) [.bool false,.slice A3 N3 c3,.slice A4 N4 c4]:=fun i u hu=>hc' i u hu
   have HSR:=zh (show ∀w',Below W1.heap.size W1 w'→(w'.rangeAt b (off+j * 3) [.bool false,.slice A1 N1 c1,.slice A2 N2 c2]∧w'.rangeAt b' (off'+j * 3) [.bool false,.slice A3 N3 c3,.slice A4 N4 c4]) from fun w' hb=>⟨range_same hr1 ((HW.out.trans (hb.mono HW.out.size)).block b hR),range_same hr2 ((HW.out.trans (hb.mono HW.out.size)).block b' hR')⟩)
   have hS:=sfrac9_any _ _ _ _ x.num x.den W1.drew (i1.below (HW.out.trans ((Below.refl _ _).drew))) (i2.below (HW.out.trans ((Below.refl _ _).drew))) (i3.below (HW.out.trans ((Below.refl _ _).drew))) (i4.below (HW.out.trans ((Below.refl _ _).drew))) hok.2.1 hok.2.2
   have HS:=zh hS
   have HLT:=zh hlt
   have lj:(j:Int)<(LN:Int):=by omega
   clear hc hc' hr1 hr2 hjl hR hR' hx hok i1 i2 i3 i4 hS
   go_upto_region 6 with fail
   refine region_tail (S:=(fun w'=>w'.rangeAt b (off+j * 3) [.bool false,.slice A1 N1 c1,.slice A2 N2 c2]∧w'.rangeAt b' (off'+j * 3) [.bool false,.slice A3 N3 c3,.slice A4 N4 c4])) [] (by kernel_rfl) (HSR.out _ (Below.refl _ _).drew) (fun hHeld=>?_)
   refine tk 0 17 ?_
   refine tk 1 18 ?_
   refine tk 2 19 ?_
   refine takeT (i:=3) (d:=20) (v:=(.agg #[.bool false,.slice A1 N1 c1,.slice A2 N2 c2])) rfl rfl (by kernel_rfl) (by kernel_rfl) (by kernel_rfl) (by kernel_rfl) (fun _ _ _ h=>h) (yieldsIf_load_mid (by rfl) 26 (.tmp 19) rfl b (off+j * 3) (by rfl) [.bool false,.slice A1 N1 c1,.slice A2 N2 c2] _ (fun w hw=>hw.1) Tryz.underlying26 rfl size_frac7) (by assumption) ?_
   (try simp only[Act.put,z1,z2,z3])
   refine tk 4 21 ?_
   refine tk 5 22 ?_
   refine tk 6 23 ?_
   refine takeT (i:=7) (d:=24) (v:=(.agg #[.bool false,.slice A3 N3 c3,.slice A4 N4 c4])) rfl rfl (by kernel_rfl) (by kernel_rfl) (by kernel_rfl) (by kernel_rfl) (fun _ _ _ h=>h) (yieldsIf_load_mid (by rfl) 26 (.tmp 23) rfl b' (off'+j * 3) (by rfl) [.bool false,.slice A3 N3 c3,.slice A4 N4 c4] _ (fun w hw=>hw.2) Tryz.underlying26 rfl size_frac7) (by assumption) ?_
   (try simp only[Act.put,z1,z2,z3])
   refine readyT (rs:=[8]) (by kernel_rfl) (by simp) ?_
   refine AllReadyT.cons rfl (fun K hK=>?_) ?_
   ·go_simp
    (go_at_call 39;refine HS.out.mono ?_;rintro e w9 ⟨rfl,hb9⟩;have HX9:=zh (show Below W1.heap.size W1 w9 from((Below.refl _ _).drew:Below W1.heap.size W1 W1.drew).trans hb9);clear hb9)
    go_wp2_with fail
    refine hK.out _ _ ?_ (fun hHeld=>?_)
    ·exact HSR.out _ HX9.out
    clear hK K
    (try simp only[Act.put,z1,z2,z3])
    refine tk 9 26 ?_
    refine doneT (by kernel_rfl) ?_ _
    clear hHeld
    have HW9:=zh (HW.out.trans (HX9.out.mono HW.out.size))
    go_wp2_with fail
    go_roundg (LN - (j+1))
    case measure=>omega
    case rel=>exact⟨j+1,by omega,rfl,by go_num,HW9⟩
   exact AllReadyT.nil
  ·go_wp2_with fail
   go_ret
   exact⟨rfl,HW.out⟩
theorem slaw9_any(s1 r1 e1 s2 r2 e2:Value) (x:LawM) (w:World) (hs1:SlS 3 FrcK w (Bl w.heap.size) s1 x.start) (hr1:SlS 1 RowFK w (Bl w.heap.size) r1 x.rates) (he1:SlS 3 FrcK w (Bl w.heap.size) e1 x.exit)
  (hs2:SlS 3 FrcK w (Bl w.heap.size) s2 x.start) (hr2:SlS 1 RowFK w (Bl w.heap.size) r2 x.rates) (he2:SlS 3 FrcK w (Bl w.heap.size) e2 x.exit) (ho1:∀y∈x.start,FrcOk y) (ho2:∀y∈x.exit,FrcOk y) (ho3:∀l∈x.rates,∀y∈l,FrcOk y) :
  Calls Tryz.prog 38 #[.agg #[.string x.name,s1,r1,e1],.agg #[.string x.name,s2,r2,e2]] w fun e w'=>e=.returned (.bool true)∧Below w.heap.size w w':=by
 have hS:=fun(w':World) (hb:Below w.heap.size w w')=>sfracs9_any s1 s2 x.start w' (SlS.below frcK hs1 hb) (SlS.below frcK hs2 hb) ho1
 have hE:=fun(w':World) (hb:Below w.heap.size w w')=>sfracs9_any e1 e2 x.exit w' (SlS.below frcK he1 hb) (SlS.below frcK he2 hb) ho2
 obtain⟨A1,n1,k1,rfl⟩:=hs1.form3
 obtain⟨A2,k2,hv2,g1,g2⟩:=hr1.form
 obtain⟨A3,n3,k3,rfl⟩:=he1.form3
 obtain⟨B1,m1,q1,rfl⟩:=hs2.form3
 obtain⟨B2,q2,hw2,g3,g4⟩:=hr2.form
 obtain⟨B3,m3,q3,rfl⟩:=he2.form3
 unfold maxLen at g2 g4
 obtain⟨LN,hL⟩:=zx x.rates.length
 rw[←hL] at hv2 hw2 g1 g2 g3 g4
 subst hv2 hw2
 obtain⟨XN,hXN⟩:=zx x.name
 rw[←hXN]
 obtain⟨W1,hW1⟩:=zx ((w.alloc (.cells #[.string XN,.slice A1 n1 k1,.slice A2 LN k2,.slice A3 n3 k3] 96)).alloc (.cells #[.string XN,.slice B1 m1 q1,.slice B2 LN q2,.slice B3 m3 q3] 96))
 obtain⟨ga,hga⟩:=zx w.heap.size
 obtain⟨gb,hgb⟩:=zx (w.heap.size+1)
 have hb1:Below w.heap.size w W1:=by rw[hW1];exact((Below.refl _ _).alloc (Nat.le_refl _) _).alloc (by simp) _
 have i1:W1.heap[ga]?=some (.cells #[.string XN,.slice A1 n1 k1,.slice A2 LN k2,.slice A3 n3 k3] 96 (0,0)):=by rw[hW1,hga];exact(Below.heap_alloc _ _ _ (by simp)).trans (heap_alloc_new _ _)
 have i2:W1.heap[gb]?=some (.cells #[.string XN,.slice B1 m1 q1,.slice B2 LN q2,.slice B3 m3 q3] 96 (0,0)):=by rw[hW1,hgb];exact heap_alloc_at _ _ _ (by simp)
 have l1:=(Array.getElem?_eq_some_iff.1 i1).1
 have l2:=(Array.getElem?_eq_some_iff.1 i2).1
 have HK:=zh (show ∀w',Below W1.heap.size W1 w'→(w'.heap[ga]?=some (.cells #[.string XN,.slice A1 n1 k1,.slice A2 LN k2,.slice A3 n3 k3] 96 (0,0))∧w'.heap[gb]?=some (.cells #[.string XN,.slice B1 m1 q1,.slice B2 LN q2,.slice B3 m3 q3] 96 (0,0))∧Below w.heap.size w w') from fun w' hb=>⟨(hb.block ga l1).trans i1,(hb.block gb l2).trans i2,hb1.trans (hb.mono hb1.size)⟩)
 have HS:=zh hS
 have HE:=zh hE
 have HR1:=zh hr1
 have HR2:=zh hr2
 have HOK:=zh ho3
 have HL:=zh hL
 have HW:=zh (And.intro hW1 (And.intro hga hgb))
 have b1:((LN:Int) != (LN:Int))=false:=by simp
 clear hs1 hr1 he1 hs2 hr2 he2 ho1 ho2 ho3 hS hE hL hXN hW1 hga hgb hb1 i1 i2 l1 l2
 go_enter Tryz.func38,Tryz.ntmps38
 go_upto_region 1 with fail
 rw[←HW.out.1,←HW.out.2.1,show ga+1=gb by (have:=HW.out;omega)]
 obtain⟨c0,c1,c2,c3⟩:=cells4L (HK.out W1 (Below.refl _ _)).1
 obtain⟨d0,d1,d2,d3⟩:=cells4L (HK.out W1 (Below.refl _ _)).2.1
 go_wp2_with fail
 refine(HS.out W1 (HK.out W1 (Below.refl _ _)).2.2).mono ?_
 rintro e w2 ⟨rfl,hb2⟩
 have HB2:=zh hb2
 clear hb2 c0 c1 c2 c3 d0 d1 d2 d3
 obtain⟨c0,c1,c2,c3⟩:=cells4L (HK.out w2 HB2.out).1
 obtain⟨d0,d1,d2,d3⟩:=cells4L (HK.out w2 HB2.out).2.1
 go_wp2_with fail
 refine(HE.out w2 (HK.out w2 HB2.out).2.2).mono ?_
 rintro e w3 ⟨rfl,hb3⟩
 have HB3:=zh (HB2.out.trans (hb3.mono HB2.out.size))
 clear hb3 c0 c1 c2 c3 d0 d1 d2 d3
 obtain⟨c0,c1,c2,c3⟩:=cells4L (HK.out w3 HB3.out).1
 obtain⟨d0,d1,d2,d3⟩:=cells4L (HK.out w3 HB3.out).2.1
 go_wp2_with fail
 clear c0 c1 c2 c3 d0 d1 d2 d3
 go_loopg [5] LN (fun z v5 wr=>∃j:Nat,j≤LN∧z=LN - j∧v5=.int .i64 (j:Int)∧Hid (Below W1.heap.size W1 wr))
 case atStart=>exact⟨0,by omega,rfl,rfl,HB3⟩
 case round =>
  obtain⟨j,hj,rfl,rfl,HB⟩:=hrel
  obtain⟨W4,hW4⟩:=zx wr
  rw[←hW4] at HB ⊢
  clear hW4
  obtain⟨c0,c1,c2,c3⟩:=cells4L (HK.out W4 HB.out).1
  by_cases hlt:j<LN
  ·have hjl:j<x.rates.length:=by rw[←HL.out];exact hlt
   obtain⟨b,off,cs,hAe,hR,-,hc,hcs⟩:=HR1.out.at_ (k:=j) hjl
   obtain⟨b',off',cs',hBe,hR',-,hc',hcs'⟩:=HR2.out.at_ (k:=j) hjl
   subst hAe;subst hBe
   obtain⟨y,hy⟩:=zx (x.rates[j])
   rw[←hy] at hcs hcs'
   have hok:=HOK.out y (by rw[hy];exact List.getElem_mem _)
   obtain⟨v1,rfl,i1⟩:=hcs
   obtain⟨v2,rfl,i2⟩:=hcs'
   obtain⟨C1,N1,p1,rfl⟩:=i1.form3
   obtain⟨C2,N2,p2,rfl⟩:=i2.form3
   have f1:w.cell? ⟨b,off+j,none⟩=some (.slice C1 N1 p1):=by have:=hc 0 _ rfl;simpa using this
   have f2:w.cell? ⟨b',off'+j,none⟩=some (.slice C2 N2 p2):=by have:=hc' 0 _ rfl;simpa using this
   have HSR:=zh (show ∀w',Below W1.heap.size W1 w'→(fun w'=>w'.cell? ⟨ga,2,none⟩=some (.slice (some ⟨b,off,none⟩) LN k2)∧w'.cell? ⟨gb,2,none⟩=some (.slice (some ⟨b',off',none⟩) LN q2)∧w'.cell? ⟨b,off+j,none⟩=some (.slice C1 N1 p1)∧w'.cell? ⟨b',off'+j,none⟩=some (.slice C2 N2 p2)) w' from fun w' hb=>by
    obtain⟨c0,c1,c2,c3⟩:=cells4L (HK.out w' hb).1
    obtain⟨d0,d1,d2,d3⟩:=cells4L (HK.out w' hb).2.1
    exact⟨c2,d2,((HK.out w' hb).2.2.cell (p:=⟨b,off+j,none⟩) hR).trans f1,((HK.out w' hb).2.2.cell (p:=⟨b',off'+j,none⟩) hR').trans f2⟩)
   have HSF:=zh (fun(w':World) (hb:Below w.heap.size w w')=>sfracs9_any _ _ y w' (SlS.below frcK i1 hb) (SlS.below frcK i2 hb) hok)
   have lj:(j:Int)<(LN:Int):=by omega
   clear hc hc' f1 f2 hjl hR hR' hy hok i1 i2
   go_upto_region 6 with fail
   clear c0 c1 c2 c3
   refine region_tail (S:=(fun w'=>w'.cell? ⟨ga,2,none⟩=some (.slice (some ⟨b,off,none⟩) LN k2)∧w'.cell? ⟨gb,2,none⟩=some (.slice (some ⟨b',off',none⟩) LN q2)∧w'.cell? ⟨b,off+j,none⟩=some (.slice C1 N1 p1)∧w'.cell? ⟨b',off'+j,none⟩=some (.slice C2 N2 p2))) [] (by kernel_rfl) (HSR.out _ HB.out.drew) (fun hHeld=>?_)
   refine tk 0 43 ?_
   refine tk 1 44 ?_
   refine tk 2 45 ?_
   refine tk 3 46 ?_
   refine tk 4 47 ?_
   refine tk 5 48 ?_
   refine tk 6 49 ?_
   refine tk 7 50 ?_
   refine tk 8 51 ?_
   refine tk 9 52 ?_
   refine readyT (rs:=[10]) (by kernel_rfl) (by simp) ?_
   refine AllReadyT.cons rfl (fun K hK=>?_) ?_
   ·go_simp
    (go_at_call 41;refine(HSF.out _ (HK.out _ HB.out.drew).2.2).mono ?_;rintro e w9 ⟨rfl,hb9⟩;have HX9:=zh (show Below W1.heap.size W1 w9 from HB.out.drew.trans (hb9.mono HB.out.drew.size));clear hb9)
    go_wp2_with fail
    refine hK.out _ _ ?_ (fun hHeld=>?_)
    ·exact HSR.out _ HX9.out
    clear hK K
    (try simp only[Act.put,z1,z2,z3])
    refine tk 11 54 ?_
    refine doneT (by kernel_rfl) ?_ _
    clear hHeld
    go_wp2_with fail
    go_roundg (LN - (j+1))
    case measure=>omega
    case rel=>exact⟨j+1,by omega,rfl,by go_num,HX9⟩
   exact AllReadyT.nil
  ·go_wp2_with fail
   go_ret
   exact⟨rfl,(HK.out W4 HB.out).2.2⟩
theorem ints10_any(va vb:Value) (xs:List Int) (R R':Nat→Prop) (w:World) (ha:IntS w R va xs) (hb:IntS w R' vb xs) :
  Calls Tryz.prog 40 #[va,vb] w fun e w'=>e=.returned (.bool true)∧∃n,w'=w.drewN n:=by
 obtain⟨A,c,rfl,h1,h2⟩:=ha.form7
 obtain⟨B,d,rfl,g1,g2⟩:=hb.form7
 unfold maxLen at h2 g2
 have HA:=zh ha
 have HB:=zh hb
 clear ha hb
 go_enter Tryz.func40,Tryz.ntmps40
 go_wp2
 go_loopw [5] (fun i wr=>∃j:Nat,j≤xs.length∧i=.int .i64 j∧Hid (∃n,wr=w.drewN n)) (fun i _=>xs.length - (intOf i).toNat)
 case atStart=>exact⟨0,by omega,rfl,0,rfl⟩
 case round =>
  obtain⟨j,hj,rfl,hw⟩:=hrel
  obtain⟨n,rfl⟩:=hw.out
  clear hw
  by_cases hlt:j<xs.length
  ·obtain⟨b,off,rfl,hR,hc,hx⟩:=HA.out.at7 hlt
   obtain⟨b',off',rfl,hR',hc',hx'⟩:=HB.out.at7 hlt
   have he1:(xs[j] != xs[j])=false:=by simp
   generalize xs[j]=x at *
   go_wp2_with fail
   go_quiet (fail)
   go_wp2
   go_roundw
   case rel=>exact⟨j+1,by omega,by go_num,⟨_,rfl⟩⟩
   case measure=>simp[intOf];omega
  ·obtain rfl:j=xs.length:=by omega
   go_wp2
   go_ret
   exact⟨rfl,⟨_,rfl⟩⟩
end Go.Proofs.YtgfaieppacabjaaGreat
