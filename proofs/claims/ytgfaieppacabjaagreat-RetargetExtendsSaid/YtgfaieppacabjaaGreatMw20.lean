/- plain.Fleet, walked (under way). -/
import Derived.BigQuiet
import Derived.Deep.QuietTactic
import Derived.Deep.MidRow
import Derived.Test.YtgfaieppacabjaaGreatMw14
import Derived.Test.YtgfaieppacabjaaGreatMw10
import Derived.Test.YtgfaieppacabjaaGreatMw19
import Derived.Test.YtgfaieppacabjaaGreatMw01
set_option linter.unusedSectionVars false
set_option maxRecDepth 100000
set_option maxHeartbeats 12800000
namespace Go.Proofs.YtgfaieppacabjaaGreat
open Go.RowKit
set_option linter.unusedVariables false
set_option linter.unusedSimpArgs false
theorem info_fracs:(Tryz.prog.info? 53).map (fun i=>(i.zero,i.size,i.bytes))=some (some (.slice none 0 0),1,24):=by kernel_rfl
theorem mk_rates:∃cs:Array Value,cs.size=1 * 1∧∀w:World,(Instr.makeSlice 94 (.int .i64 1) (.int .i64 1)).run Tryz.prog w=.ok (.slice (some ⟨w.heap.size,0,none⟩) 1 1) (w.alloc (.cells cs 53)):=by
 obtain⟨i0,hi0,hz0,hz1,hz2⟩:=info_parts info_fracs
 refine⟨madeCells (Value.slice none 0 0).cells (1 * 1),size_madeCells _ _,fun w=>?_⟩
 have h:=run_make (P:=Tryz.prog) w 94 53 i0 _ Tryz.underlying94 hi0 hz0 .i64 .i64 1 1 (by omega) (by omega) (by rw[hz2];omega) (by omega)
 rw[hz1] at h
 simpa using h
theorem size_domE:(Tryz.prog.info? 100).map (·.size)=some 7:=by kernel_rfl
theorem size_polE:(Tryz.prog.info? 55).map (·.size)=some 17:=by kernel_rfl
theorem size_fltE:(Tryz.prog.info? 35).map (·.size)=some 7:=by kernel_rfl
theorem rangeAt_drop{w:World} {b o:Nat} {cs:List Value} (h:w.rangeAt b o cs) (k:Nat):w.rangeAt b (o+k) (cs.drop k):=fun j v hv=>by
 rw[List.getElem?_drop] at hv
 rw[Nat.add_assoc]
 exact h _ v hv
theorem rangeAt_take{w:World} {b o:Nat} {cs:List Value} (h:w.rangeAt b o cs) (k:Nat):w.rangeAt b o (cs.take k):=fun j v hv=>by
 rw[List.getElem?_take] at hv
 split at hv
 ·exact h _ v hv
 ·simp at hv
theorem own_stay{α:Type} {size:Nat} {K:World→(Nat→Prop)→List Value→α→Prop} (hK:Steady K) {w w':World} {T:TypeId} {B B':Nat} {v:Value} {es:List α} {R R':Nat→Prop} (h:OwnK size K w B T v es R) (hB:B'≤B) (hk:∀b,B'≤b→b<w.heap.size→w'.heap[b]?=w.heap[b]?) (hR:∀b,R b→B'≤b∧b<w.heap.size) (hr:∀b,R b→R' b):OwnK size K w' B' T v es R':=by
 obtain⟨cs,h1,h2⟩:=h
 refine⟨cs,⟨h1.1,?_⟩,fun k x hx=>?_⟩
 ·rcases h1.2 with h3 | ⟨g,cap,cur,e1,e2,e3,e4⟩
  ·exact .inl h3
  ·exact .inr ⟨g,cap,cur,e1,Nat.le_trans hB e2,(hk g (Nat.le_trans hB e2) (Array.getElem?_eq_some_iff.1 e3).1).trans e3,e4⟩
 ·obtain⟨c,g1,g2,g3⟩:=h2 k x hx
  exact⟨c,g1,g2,hK.mono hr (hK.keep (fun b hb=>hk b (hR b hb).1 (hR b hb).2) g3)⟩
def TightR(w:World) (g B:Nat) (ps:List PolM) (j:Nat):Prop:=∀k x,k<j→ps[k]?=some x→∃q,w.cell? ⟨g,k * 17+10,none⟩=some (.slice (some ⟨q,0,none⟩) x.repair.length x.repair.length)∧OwnK 3 FrcK w B 26 (.slice (some ⟨q,0,none⟩) x.repair.length x.repair.length) x.repair (fun b=>B≤b∧b<w.heap.size∧b≠q)
theorem TightR.onward{w w':World} {g B j:Nat} {ps:List PolM} (h:TightR w g B ps j) (hc:∀k,k<j→w'.cell? ⟨g,k * 17+10,none⟩=w.cell? ⟨g,k * 17+10,none⟩) {hot:List (Option Nat)} (hh:HotBy hot w w') (hn:∀k,some k∈hot→k<B):TightR w' g B ps j:=fun k x hk hx=>by
 obtain⟨q,h1,h2⟩:=h k x hk hx
 refine⟨q,(hc k hk).trans h1,own_stay frcK h2 (Nat.le_refl _) (fun b hb hl=>hh.block b hl (fun e=>by have:=hn b e;omega)) (fun b hb=>⟨hb.1,hb.2.1⟩) (fun b hb=>⟨hb.1,Nat.lt_of_lt_of_le hb.2.1 hh.size,hb.2.2⟩)⟩
structure Copied (Z:Nat→Prop) (w:World) (ul um ud uv:Value) (gP kP:Nat) (uo:Value) (F:FltM):Prop where
 laws:SlS 4 LawK w (NotG Z w gP gP gP) ul F.laws
 models:SlS 4 ModK w (NotG Z w gP gP gP) um F.models
 doms:SlS 7 DomK w (NotG Z w gP gP gP) ud F.doms
 dves:SlS 3 DveK w (NotG Z w gP gP gP) uv F.dves
 vols:SlS 2 VolK w (NotG Z w gP gP gP) uo F.vols
 pols:RowA 17 PolK w 55 gP kP F.pols (NotG Z w gP gP gP)
 tight:∃B,gP<B∧TightR w gP B F.pols F.pols.length
theorem setY{w:World} {a g o:Nat} {x y u:Value} (h:w.cell? ⟨a,9,none⟩=some x∧w.cell? ⟨a,10,none⟩=some y) (ha:a≠g):(w.setCell ⟨g,o,none⟩ u).cell? ⟨a,9,none⟩=some x∧(w.setCell ⟨g,o,none⟩ u).cell? ⟨a,10,none⟩=some y:=by
 have e:∀i,(w.setCell ⟨g,o,none⟩ u).cell? ⟨a,i,none⟩=w.cell? ⟨a,i,none⟩:=fun i=>World.cell?_setCell_far w _ _ u (fun h=>ha h.symm)
 exact⟨(e 9).trans h.1,(e 10).trans h.2⟩
theorem setZ{w:World} {a g o m n:Nat} {xs ys us:List Value} (h:w.rangeAt a m xs∧w.rangeAt a n ys) (ha:a≠g):(w.setCells g o us).rangeAt a m xs∧(w.setCells g o us).rangeAt a n ys :=
 ⟨World.rangeAt_setCells_apart h.1 _ _ _ (.inl ha),World.rangeAt_setCells_apart h.2 _ _ _ (.inl ha)⟩
theorem set11{w:World} {a b g o:Nat} {x y z u:Value} (h:w.cell? ⟨a,1,none⟩=some x∧w.cell? ⟨b,1,none⟩=some y∧w.cell? ⟨b,3,none⟩=some z) (ha:a≠g) (hb:b≠g) :
  (w.setCell ⟨g,o,none⟩ u).cell? ⟨a,1,none⟩=some x∧(w.setCell ⟨g,o,none⟩ u).cell? ⟨b,1,none⟩=some y∧(w.setCell ⟨g,o,none⟩ u).cell? ⟨b,3,none⟩=some z:=by
 have e:∀k i,k≠g→(w.setCell ⟨g,o,none⟩ u).cell? ⟨k,i,none⟩=w.cell? ⟨k,i,none⟩:=fun k i hk=>by unfold World.cell?;rw[Below.heap_setCell w ⟨g,o,none⟩ u k hk]
 exact⟨(e a 1 ha).trans h.1,(e b 1 hb).trans h.2.1,(e b 3 hb).trans h.2.2⟩
theorem pfleet_any(Z:Nat→Prop) (N:Nat) (vl vm vd vv vp vo:Value) (F:FltM) (w:World) (hf:FleetS w (BlZ Z w.heap.size) vl vm vd vv vp vo F) (hok:FleetOk N F) (hN:N≤100000) (hZ:∀b,Z b→b<w.heap.size) :
  Calls Tryz.prog 33 #[.agg #[.int .i64 F.ext,vl,vm,vd,vv,vp,vo]] w fun e w'=>∃(ul um ud uv uo:Value) (gP kP:Nat),e=.returned (.agg #[.int .i64 F.ext,ul,um,ud,uv,.slice (some ⟨gP,0,none⟩) F.pols.length kP,uo])∧Copied Z w' ul um ud uv gP kP uo F∧w.heap.size≤gP∧Below w.heap.size w w':=by
 obtain⟨Al,nl,cl,rfl⟩:=hf.1.form3
 obtain⟨Am,nm,cm,rfl⟩:=hf.2.1.form3
 obtain⟨Ad,nd,cd,rfl⟩:=hf.2.2.1.form3
 obtain⟨Av,nv,cv,rfl⟩:=hf.2.2.2.1.form3
 obtain⟨Ap,np,cp,rfl⟩:=hf.2.2.2.2.1.form3
 obtain⟨Ao,no,co,rfl⟩:=hf.2.2.2.2.2.form3
 obtain⟨EX,hEX⟩:=zx F.ext
 obtain⟨W1,hW1⟩:=zx ((w.alloc (.cells #[.int .i64 EX,.slice Al nl cl,.slice Am nm cm,.slice Ad nd cd,.slice Av nv cv,.slice Ap np cp,.slice Ao no co] 35)).alloc (.cells #[.int .i64 0,.slice none 0 0,.slice none 0 0,.slice none 0 0,.slice none 0 0,.slice none 0 0,.slice none 0 0] 35))
 obtain⟨gF,hgF⟩:=zx w.heap.size
 obtain⟨gR,hgR⟩:=zx (w.heap.size+1)
 have hb1:Below w.heap.size w W1:=by rw[hW1];exact((Below.refl _ _).alloc (Nat.le_refl _) _).alloc (by simp) _
 have hfk:FltB W1 gF EX (.slice Al nl cl) (.slice Am nm cm) (.slice Ad nd cd) (.slice Av nv cv) (.slice Ap np cp) (.slice Ao no co):=by
  rw[hW1,hgF];exact(Below.heap_alloc _ _ _ (by simp)).trans (heap_alloc_new w _)
 have hrk:W1.heap[gR]?=some (.cells #[.int .i64 0,.slice none 0 0,.slice none 0 0,.slice none 0 0,.slice none 0 0,.slice none 0 0,.slice none 0 0] 35 (0,0)):=by
  rw[hW1];exact heap_alloc_at _ _ _ (by rw[hgR];simp)
 have hf1:FleetS W1 (BlZ Z w.heap.size) (.slice Al nl cl) (.slice Am nm cm) (.slice Ad nd cd) (.slice Av nv cv) (.slice Ap np cp) (.slice Ao no co) F:=hf.keep (fun b hb=>hb1.block b hb.1)
 have hlw:0<F.laws.length∧F.laws.length≤100000:=by obtain⟨r,-,h⟩:=hok.laws;rw[h];exact⟨by simp,by simp⟩
 have HCL:=zh (clone_law _ F.laws W1 (BlZ Z w.heap.size) hf1.1 (fun b hb=>Nat.lt_of_lt_of_le hb.1 hb1.size) hlw.1 hlw.2)
 have HF1:=zh hf1
 have HZ:=zh hZ
 clear hZ
 have HB1:=zh hb1
 have HFK:=zh hfk
 have HRK:=zh hrk
 have HOK:=zh hok
 have HEX:=zh hEX
 have HW1:=zh hW1
 have HG:=zh (show gF=w.heap.size∧gR=w.heap.size+1 from⟨hgF,hgR⟩)
 rw[←hEX]
 clear hf hok hb1 hfk hrk hf1 hlw hEX hW1 hgF hgR
 go_enter Tryz.func33,Tryz.ntmps33
 go_upto_region 1 with fail
 rw[←HW1.out,←HG.out.2,←HG.out.1]
 obtain⟨c0,c1,c2,c3,c4,c5,c6⟩:=cells7 HFK.out
 go_wp2_with fail
 refine HCL.out.mono ?_
 rintro e w2 ⟨u1,rfl,ho1,hb2⟩
 have HB2:=zh hb2
 have HF2:=zh (FltB.below HFK.out hb2)
 obtain⟨r0,hr0,hlaw⟩:=HOK.out.laws
 obtain⟨l0,hl0⟩:∃l:LawM,l=⟨{ data:=#[100,105,115,107] },[⟨false,1,1⟩],[[⟨false,0,1⟩]],[⟨false,1,100+r0⟩]⟩:=⟨_,rfl⟩
 rw[←hl0] at hlaw
 have hone:F.laws.length=1:=by rw[hlaw];rfl
 obtain⟨gA,k1,rfl,hgA,hra⟩:=OwnK.rowA lawK ho1 (by rw[hlaw];simp) (fun b hb=>by have hb1':=hb.1;have:=HB1.out.size;omega)
 rw[hone]
 have HLW:=zh (And.intro hlaw (And.intro hl0 hr0))
 have HGA:=zh (show W1.heap.size≤gA∧gF<W1.heap.size∧gR<W1.heap.size from⟨hgA,HFK.out.lt,(Array.getElem?_eq_some_iff.1 HRK.out).1⟩)
 have HO1:=zh hra
 clear ho1 hb2 c0 c1 c2 c3 c4 c5 c6 HCL hra hone hlaw hl0 hr0 hgA
 obtain⟨c0,c1,c2,c3,c4,c5,c6⟩:=cells7 HF2.out
 have z1:w2.frozen? ⟨gF,1,none⟩=false:=frozen_of_row _ _ _ _ _ HF2.out
 go_upto_region 2 with fail
 obtain⟨W3,hW3⟩:=zx (w2.setCell ⟨gF,1,none⟩ (.slice (some ⟨gA,0,none⟩) 1 k1))
 rw[←hW3]
 have HF3:=zh (show FltB W3 gF EX (.slice (some ⟨gA,0,none⟩) 1 k1) (.slice Am nm cm) (.slice Ad nd cd) (.slice Av nv cv) (.slice Ap np cp) (.slice Ao no co) from by rw[hW3];exact FltB.sett1 HF2.out _)
 have HH3:=zh (show HotBy [some gF] W1 W3 from(HotBy.below HB2.out).trans (by rw[hW3];exact HotBy.setCell _ _ _ _ (by simp)))
 have HA3:=zh (show RowA 4 LawK W3 96 gA k1 F.laws (NotG Z W3 gF gR gA) from by
  have h1:=HG.out
  have h2:=HGA.out
  have h3:=HB1.out.size
  have h4:=HB2.out.size
  have hsz:W3.heap.size=w2.heap.size:=by rw[hW3];simp
  refine RowA.mono lawK (HO1.out.keep lawK (fun b hb=>?_) ?_) (fun b hb=>?_) (fun e=>e.2.2.2.1 rfl)
  ·rw[hW3]
   exact Below.heap_setCell _ _ _ _ (by have hb1':=hb.1;show b≠gF;omega)
  ·rw[hW3]
   exact Below.heap_setCell _ _ _ _ (show gA≠gF by omega)
  ·have hb1':=hb.1
   exact⟨by omega,by omega,by omega,by omega,hb.2⟩)
 clear hW3 c0 c1 c2 c3 c4 c5 c6 z1 HO1
 obtain⟨c0,c1,c2,c3,c4,c5,c6⟩:=cells7 HF3.out
 go_wp2_with fail
 clear c0 c1 c2 c3 c4 c5 c6
 go_loopg [20] 1 (fun z v20 wr=>∃j:Nat,j≤1∧z=1 - j∧v20=.int .i64 (j:Int)∧Hid (HotBy [some gF] W1 wr)∧Hid (FltB wr gF EX (.slice (some ⟨gA,0,none⟩) 1 k1) (.slice Am nm cm) (.slice Ad nd cd) (.slice Av nv cv) (.slice Ap np cp) (.slice Ao no co))∧Hid (RowA 4 LawK wr 96 gA k1 F.laws (NotG Z wr gF gR gA)))
 case atStart=>exact⟨0,by omega,rfl,rfl,HH3,HF3,HA3⟩
 case round =>
  obtain⟨j,hj,rfl,rfl,HH,HF,HO⟩:=hrel
  obtain⟨W4,hW4⟩:=zx wr
  rw[←hW4] at HH HF HO ⊢
  clear hW4
  by_cases hlt:j<1
  ·have hj0:j=0:=by omega
   subst hj0
   obtain⟨cs,hcl,hc,hK⟩:=HO.out.at_ (k:=0) (x:=l0) (by rw[HLW.out.1];rfl)
   obtain⟨vs,vr,ve,rfl,hs1,hs2,hs3⟩:=hK
   obtain⟨B1,n1,m1,rfl⟩:=hs1.form3
   obtain⟨B2,m2,hv2,-,-⟩:=hs2.form
   have hn2:l0.rates.length=1:=by rw[HLW.out.2.1];rfl
   rw[hn2] at hv2
   subst hv2
   obtain⟨B3,n3,m3,rfl⟩:=hs3.form3
   have e0:=hc 0 _ rfl
   have e1:=hc 1 _ rfl
   have e2:=hc 2 _ rfl
   have e3:=hc 3 _ rfl
   simp only[Nat.zero_mul,Nat.add_zero] at e0 e1 e2 e3
   obtain⟨cs5,hz5,hmk5⟩:=mk_rates
   obtain⟨c0,c1,c2,c3,c4,c5,c6⟩:=cells7 HF.out
   go_upto_region 7 with fail
   obtain⟨W5,hW5⟩:=zx ((W4.alloc (.cells #[.string l0.name,.slice B1 n1 m1,.slice B2 1 m2,.slice B3 n3 m3] 96)).alloc (.cells cs5 53))
   obtain⟨gL,hgL⟩:=zx W4.heap.size
   obtain⟨gK,hgK⟩:=zx (W4.heap.size+1)
   rw[←hW5,←hgK,←hgL]
   have hb5:Below W4.heap.size W4 W5:=by rw[hW5];exact((Below.refl _ _).alloc (Nat.le_refl _) _).alloc (by simp) _
   have hk5:W5.heap[gK]?=some (.cells cs5 53 (0,0)):=by rw[hW5];exact heap_alloc_at _ _ _ (by rw[hgK];simp)
   have hl5:W5.heap[gL]?=some (.cells #[.string l0.name,.slice B1 n1 m1,.slice B2 1 m2,.slice B3 n3 m3] 96 (0,0)):=by rw[hW5,hgL];exact(Below.heap_alloc _ _ _ (by simp)).trans (heap_alloc_new W4 _)
   have HB5:=zh hb5
   have HL5:=zh hl5
   have HK5:=zh (show FillTo 1 RowFK W5 W4.heap.size 53 gK 1 0 l0.rates from FillTo.start (by omega) hk5 hz5)
   have HGG:=zh (And.intro hgL hgK)
   have HS1:=zh hs1
   have HS2:=zh hs2
   have HS3:=zh hs3
   clear hb5 hk5 hl5 hW5 hgL hgK hmk5 hz5 e0 e1 e2 e3 hs1 hs2 hs3 hn2 hc hcl
   clear c0 c1 c2 c3 c4 c5 c6
   go_loopg [32] 1 (fun z v32 wr=>∃i:Nat,i≤1∧z=1 - i∧v32=.int .i64 (i:Int)∧Hid (Below W4.heap.size W4 wr)∧Hid (wr.heap[gL]?=some (.cells #[.string l0.name,.slice B1 n1 m1,.slice B2 1 m2,.slice B3 n3 m3] 96 (0,0)))∧Hid (FillTo 1 RowFK wr W4.heap.size 53 gK 1 i l0.rates))
   case atStart=>exact⟨0,by omega,rfl,rfl,HB5,HL5,HK5⟩
   case round =>
    obtain⟨i,hi,rfl,rfl,HB,HL,HK⟩:=hrel
    obtain⟨W6,hW6⟩:=zx wr
    rw[←hW6] at HB HL HK ⊢
    clear hW6
    by_cases hlt2:i<1
    ·have hi0:i=0:=by omega
     subst hi0
     obtain⟨b2,off2,cs2,e2,hR2,hcl2,hc2,hK2⟩:=HS2.out.at_ (k:=0) (by rw[HLW.out.2.1];simp)
     obtain⟨r1,hr1⟩:=zx (l0.rates[0]'(by rw[HLW.out.2.1];simp))
     rw[←hr1] at hK2
     obtain⟨vw,rfl,hsw⟩:=hK2
     have hr1l:l0.rates[0]?=some r1:=by rw[hr1];exact List.getElem?_eq_getElem _
     have hr1n:r1.length=1:=by
      have h1:=HLW.out.2.1
      rw[h1] at hr1l
      simp at hr1l
      rw[←hr1l];rfl
     subst e2
     have x0:W6.cell? ⟨b2,off2,none⟩=some vw:=by
      have h1:=hc2 0 vw rfl
      simp only[Nat.zero_mul,Nat.add_zero] at h1
      exact(HB.out.cell (p:=⟨b2,off2,none⟩) hR2.1).trans h1
     obtain⟨B4,n4,m4,rfl⟩:=hsw.form3
     have HW:=zh (show SlS 3 FrcK W6 (Bl W6.heap.size) (.slice B4 n4 m4) r1 from(SlS.keep frcK hsw (fun b hb=>HB.out.block b hb.1)).mono frcK (fun b hb=>Nat.lt_of_lt_of_le hb.1 HB.out.size))
     have HR1:=zh (And.intro hr1l hr1n)
     clear hc2 hR2 hcl2 hsw hr1l hr1n hr1
     go_wp2_with fail
     refine(pfracs_any _ r1 W6 HW.out (by rw[HR1.out.2];omega) (fun x _=>⟨by have:=natL_length x.num;omega,by have:=natL_length x.den;omega⟩)).mono ?_
     rintro e w7 ⟨g7,rfl,hg7,ho7,hb7⟩
     rw[HR1.out.2] at ho7 ⊢
     have HB7:=zh (HB.out.trans (hb7.mono HB.out.size))
     have hf7:=HK.out.below rowFK hb7
     have hgl:=(Array.getElem?_eq_some_iff.1 HL.out).1
     have hl7:=(hb7.block gL hgl).trans HL.out
     obtain⟨y1,y2⟩:=hf7.there (i:=0) (by omega) 0 (by omega)
     simp only[Nat.zero_mul,Nat.add_zero] at y1 y2
     obtain⟨y0,hy0⟩:=Option.isSome_iff_exists.1 y1
     have hgk:=HGG.out
     have hgs:=HB.out.size
     have h5s:=HB5.out.size
     have hkl:=HK.out.lt
     have hsl7:SlS 3 FrcK w7 (fun b=>W6.heap.size≤b∧b<w7.heap.size) (.slice (some ⟨g7,0,none⟩) 1 1) r1:=OwnK.slS frcK ho7 (fun b hb=>⟨hb.1,hb.2.1⟩) (fun b hb=>OwnK.lt ho7 b hb)
     have HF8:=zh (show FillTo 1 RowFK (w7.setCell ⟨gK,0,none⟩ (.slice (some ⟨g7,0,none⟩) 1 1)) W4.heap.size 53 gK 1 1 l0.rates from hf7.store rowFK (j:=0) (by omega) [.slice (some ⟨g7,0,none⟩) 1 1] rfl HR1.out.1 (R:=fun b=>W6.heap.size≤b∧b<w7.heap.size) ⟨_,rfl,hsl7⟩ (fun b hb=>⟨by omega,hb.2,by omega⟩))
     have HB8:=zh (show Below W4.heap.size W4 (w7.setCell ⟨gK,0,none⟩ (.slice (some ⟨g7,0,none⟩) 1 1)) from HB7.out.setCell (show W4.heap.size≤gK by omega) _)
     have HL8:=zh ((Below.heap_setCell w7 ⟨gK,0,none⟩ (.slice (some ⟨g7,0,none⟩) 1 1) gL (show gL≠gK by omega)).trans hl7)
     clear ho7 hb7 hg7 hf7 hl7 hsl7 hgk hgs h5s hkl hgl x0 y1
     go_wp2_with fail
     go_roundg 0
     case measure=>omega
     case rel=>exact⟨1,by omega,rfl,by go_num,HB8,HL8,HF8⟩
    ·have hi1:i=1:=by omega
     subst hi1
     have h1:=HGA.out
     have h2:=HH.out.size
     have h3:=HB.out.size
     have h4:=HGG.out
     have h5:=HO.out.lt
     have h6:=(Array.getElem?_eq_some_iff.1 HL.out).1
     have HL1:=zh (show l0.start.length=1∧l0.exit.length=1 by rw[HLW.out.2.1];exact⟨rfl,rfl⟩)
     have HKC:=zh (show 0+4≤k1 * 4 by have h8:=HO.out.room;rw[HLW.out.1] at h8;simp at h8;omega)
     have HGN:=zh (show gF≠gA∧gL≠gA by omega)
     have HKW:=zh (show ∀(v:Value) (xs:List Frc),SlS 3 FrcK W4 (NotG Z W4 gF gR gA) v xs→∀w',Below W6.heap.size W6 w'→SlS 3 FrcK w' (Bl w'.heap.size) v xs from fun v xs hs w' hb=>(SlS.keep frcK hs (fun b hb'=>(HB.out.trans (hb.mono h3)).block b hb'.1)).mono frcK (fun b hb'=>Nat.lt_of_lt_of_le hb'.1 (Nat.le_trans h3 hb.size)))
     have HNG:=zh (show ∀(w':World) (b:Nat),W4.heap.size≤b→b<w'.heap.size→NotG Z w' gF gR gA b from fun w' b h7 h8=>⟨h8,by omega,by omega,by omega,fun e=>by have h9:=HZ.out b e;have h10:=HG.out;omega⟩)
     have HLE:=zh h3
     have HH64:=zh (show ∀w',Below W6.heap.size W6 w'→HotBy [] W4 w' from fun w' hb=>HotBy.below (HB.out.trans (hb.mono h3)))
     have HS11:=zh (show ∀w',Below W6.heap.size W6 w'→(w'.cell? ⟨gF,1,none⟩=some (.slice (some ⟨gA,0,none⟩) 1 k1)∧w'.cell? ⟨gL,1,none⟩=some (.slice B1 n1 m1)∧w'.cell? ⟨gL,3,none⟩=some (.slice B3 n3 m3)) from fun w' hb=>by
      obtain⟨k0,k1',k2,k3,k4,k5,k6⟩:=cells7 (((HB.out.trans (hb.mono h3)).block gF (by omega)).trans HF.out)
      have hl:=(hb.block gL h6).trans HL.out
      exact⟨k1',by rw[cell_of_row _ _ _ _ _ _ hl];rfl,by rw[cell_of_row _ _ _ _ _ _ hl];rfl⟩)
     clear h1 h2 h3 h4 h5 h6
     go_upto_region 11 with fail
     refine region_tail (S:=(fun w'=>w'.cell? ⟨gF,1,none⟩=some (.slice (some ⟨gA,0,none⟩) 1 k1)∧w'.cell? ⟨gL,1,none⟩=some (.slice B1 n1 m1)∧w'.cell? ⟨gL,3,none⟩=some (.slice B3 n3 m3))) [24] (by kernel_rfl) (HS11.out _ (Below.refl _ _).drew) (fun hHeld=>?_)
     refine tk 0 43 ?_
     refine tk 1 44 ?_
     refine tk 2 45 ?_
     refine tk 3 46 ?_
     refine tk 4 47 ?_
     refine tk 5 48 ?_
     refine tk 6 49 ?_
     refine tk 7 50 ?_
     refine tk 8 51 ?_
     refine tk 9 52 ?_
     refine tk 10 53 ?_
     refine tk 12 55 ?_
     refine tk 13 56 ?_
     refine tk 14 57 ?_
     refine readyT (rs:=[11]) (by kernel_rfl) (by simp) ?_
     refine AllReadyT.cons rfl (fun K hK=>?_) ?_
     ·go_simp
      (go_at_call 75;refine(pfracs_any _ l0.start _ (HKW.out _ _ HS1.out _ (Below.refl _ _).drew) (by rw[HL1.out.1];omega) (fun x _=>⟨by have:=natL_length x.num;omega,by have:=natL_length x.den;omega⟩)).mono ?_;rintro e w8 ⟨g8,rfl,hg8,ho8,hb8⟩;have HB8:=zh (show Below W6.heap.size W6 w8 from((Below.refl _ _).drew:Below W6.heap.size W6 W6.drew).trans hb8);have hs8:=OwnK.slS frcK ho8 (R':=NotG Z w8 gF gR gA) (fun b hb=>HNG.out _ b (Nat.le_trans HLE.out hb.1) hb.2.1) (fun b hb=>by have h1:=OwnK.lt ho8 b hb;exact HNG.out _ b (Nat.le_trans HLE.out h1.1) h1.2);rw[HL1.out.1] at hs8 ⊢;have HS8:=zh hs8;clear hs8 ho8 hb8 hg8)
      go_wp2_with fail
      refine hK.out _ _ ?_ (fun hHeld=>?_)
      ·exact HS11.out _ HB8.out
      clear hK K
      (try simp only[Act.put,z1,z2,z3])
      refine readyT (rs:=[15]) (by kernel_rfl) (by simp) ?_
      refine AllReadyT.cons rfl (fun K hK=>?_) ?_
      ·go_simp
       (go_at_call 75;refine(pfracs_any _ l0.exit _ (HKW.out _ _ HS3.out _ HB8.out) (by rw[HL1.out.2];omega) (fun x _=>⟨by have:=natL_length x.num;omega,by have:=natL_length x.den;omega⟩)).mono ?_;rintro e w9 ⟨g9,rfl,hg9,ho9,hb9⟩;have HB9:=zh (show Below W6.heap.size W6 w9 from HB8.out.trans (hb9.mono HB8.out.size));have hs9:=OwnK.slS frcK ho9 (R':=NotG Z w9 gF gR gA) (fun b hb=>HNG.out _ b (Nat.le_trans (Nat.le_trans HLE.out HB8.out.size) hb.1) hb.2.1) (fun b hb=>by have h1:=OwnK.lt ho9 b hb;exact HNG.out _ b (Nat.le_trans (Nat.le_trans HLE.out HB8.out.size) h1.1) h1.2);rw[HL1.out.2] at hs9 ⊢;have HS9:=zh hs9;have HA9:=zh (RowA.onward lawK HO.out (HH64.out _ HB9.out) (fun k hk=>by simp at hk));have z1:=HA9.out.froze 1;have z2:=HA9.out.froze 2;have z3:=HA9.out.froze 3;have p1:=(HA9.out.there (o:=0) (m:=4) HKC.out 1 (by omega)).1;have p2:=(HA9.out.there (o:=0) (m:=4) HKC.out 2 (by omega)).1;have p3:=(HA9.out.there (o:=0) (m:=4) HKC.out 3 (by omega)).1;obtain⟨x1,hx1⟩:=Option.isSome_iff_exists.1 p1;obtain⟨x2,hx2⟩:=Option.isSome_iff_exists.1 p2;obtain⟨x3,hx3⟩:=Option.isSome_iff_exists.1 p3;simp only[Nat.zero_add] at hx1 hx2 hx3;have HB89:=zh hb9;clear p1 p2 p3 hs9 ho9 hb9 hg9)
       go_wp2_with fail
       refine hK.out _ _ ?_ (fun hHeld=>?_)
       ·exact HS11.out _ HB9.out
       clear hK K
       (try simp only[Act.put,z1,z2,z3])
       refine tk 16 59 ?_
       refine tk 17 60 ?_
       refine readyT (rs:=[18]) (by kernel_rfl) (by simp) ?_
       refine AllReadyT.cons rfl (fun K hK=>?_) ?_
       ·go_simp
        refine hK.out _ _ ?_ (fun hHeld=>?_)
        ·exact set11 (HS11.out _ HB9.out) HGN.out.1 HGN.out.2
        clear hK K
        (try simp only[Act.put,z1,z2,z3])
        refine tk 19 61 ?_
        refine tk 20 62 ?_
        refine readyT (rs:=[21]) (by kernel_rfl) (by simp) ?_
        refine AllReadyT.cons rfl (fun K hK=>?_) ?_
        ·go_simp
         refine hK.out _ _ ?_ (fun hHeld=>?_)
         ·exact set11 (set11 (HS11.out _ HB9.out) HGN.out.1 HGN.out.2) HGN.out.1 HGN.out.2
         clear hK K
         (try simp only[Act.put,z1,z2,z3])
         refine tk 22 63 ?_
         refine tk 23 64 ?_
         refine readyT (rs:=[24]) (by kernel_rfl) (by simp) ?_
         refine AllReadyT.consT rfl rfl (fun K hK=>?_) ?_
         ·rw[if_pos (by rfl)]
          go_simp
          refine hK.out _ _ ?_
          clear hK K
          (try simp only[Act.put,z1,z2,z3])
          refine doneT (by kernel_rfl) ?_ _
          clear hHeld
          have hx0:F.laws[0]?=some l0:=by rw[HLW.out.1];rfl
          have hkr:=(HK.out.below rowFK HB9.out).own (by rw[HLW.out.2.1];rfl) (by unfold maxLen;omega)
          have hsk:=OwnK.slS rowFK hkr (R':=NotG Z w9 gF gR gA) (fun b hb=>HNG.out _ b hb.1 hb.2.1) (fun b hb=>by have h1:=OwnK.lt hkr b hb;exact HNG.out _ b h1.1 h1.2)
          have hs8:SlS 3 FrcK w9 (NotG Z w9 gF gR gA) (.slice (some ⟨g8,0,none⟩) 1 1) l0.start:=SlS.onward frcK HS8.out (hot:=[]) (HotBy.below HB89.out) (fun k hk=>by simp at hk)
          have hra:∀(x:World) (i:Nat) (u:Value),NotG Z x gF gR gA=NotG Z (x.setCell ⟨gA,i,none⟩ u) gF gR gA:=fun x i u=>by funext b;unfold NotG;simp
          have hho:∀(x:World) (i:Nat) (u:Value),HotBy [some gA] x (x.setCell ⟨gA,i,none⟩ u):=fun x i u=>HotBy.setCell _ _ _ _ (by simp)
          obtain⟨X1,hX1⟩:=zx (w9.setCell ⟨gA,1,none⟩ (.slice (some ⟨g8,0,none⟩) 1 1))
          have a1:RowA 4 LawK X1 96 gA k1 F.laws (NotG Z X1 gF gR gA):=by
           rw[hX1,←hra]
           exact RowA.same lawK HA9.out (k:=0) (o:=1) [.slice (some ⟨g8,0,none⟩) 1 1] hx0 (by simp) (fun b h=>h) (fun e=>e.2.2.2.1 rfl) (fun c h=>law_put1 (fun b h=>h) hs8 c h)
          have hk1:SlS 1 RowFK X1 (NotG Z X1 gF gR gA) (.slice (some ⟨gK,0,none⟩) 1 1) l0.rates:=by rw[hX1];exact SlS.onward rowFK hsk (hho _ _ _) (fun k hk=>by simp at hk;omega)
          have hs1:SlS 3 FrcK X1 (NotG Z X1 gF gR gA) (.slice (some ⟨g9,0,none⟩) 1 1) l0.exit:=by rw[hX1];exact SlS.onward frcK HS9.out (hho _ _ _) (fun k hk=>by simp at hk;omega)
          have q1:FltB X1 gF EX (.slice (some ⟨gA,0,none⟩) 1 k1) (.slice Am nm cm) (.slice Ad nd cd) (.slice Av nv cv) (.slice Ap np cp) (.slice Ao no co):=by rw[hX1];exact(Below.heap_setCell _ _ _ _ HGN.out.1).trans (((HB.out.trans (HB9.out.mono HLE.out)).block gF (by have:=HGA.out;have:=HH.out.size;omega)).trans HF.out)
          have j1:HotBy [some gF] W1 X1:=by rw[hX1];exact(HH.out.trans (HotBy.below (HB.out.trans (HB9.out.mono HLE.out)))).setNew _ _ HGA.out.1
          rw[←hX1]
          clear hX1 hs8 hsk hkr
          obtain⟨X2,hX2⟩:=zx (X1.setCell ⟨gA,2,none⟩ (.slice (some ⟨gK,0,none⟩) 1 1))
          have a2:RowA 4 LawK X2 96 gA k1 F.laws (NotG Z X2 gF gR gA):=by
           rw[hX2,←hra]
           exact RowA.same lawK a1 (k:=0) (o:=2) [.slice (some ⟨gK,0,none⟩) 1 1] hx0 (by simp) (fun b h=>h) (fun e=>e.2.2.2.1 rfl) (fun c h=>law_put2 (fun b h=>h) hk1 c h)
          have hs2:SlS 3 FrcK X2 (NotG Z X2 gF gR gA) (.slice (some ⟨g9,0,none⟩) 1 1) l0.exit:=by rw[hX2];exact SlS.onward frcK hs1 (hho _ _ _) (fun k hk=>by simp at hk;omega)
          have q2:FltB X2 gF EX (.slice (some ⟨gA,0,none⟩) 1 k1) (.slice Am nm cm) (.slice Ad nd cd) (.slice Av nv cv) (.slice Ap np cp) (.slice Ao no co):=by rw[hX2];exact(Below.heap_setCell _ _ _ _ HGN.out.1).trans q1
          have j2:HotBy [some gF] W1 X2:=by rw[hX2];exact j1.setNew _ _ HGA.out.1
          rw[←hX2]
          clear hX2 a1 hk1 hs1 q1 j1
          obtain⟨X3,hX3⟩:=zx (X2.setCell ⟨gA,3,none⟩ (.slice (some ⟨g9,0,none⟩) 1 1))
          have a3:RowA 4 LawK X3 96 gA k1 F.laws (NotG Z X3 gF gR gA):=by
           rw[hX3,←hra]
           exact RowA.same lawK a2 (k:=0) (o:=3) [.slice (some ⟨g9,0,none⟩) 1 1] hx0 (by simp) (fun b h=>h) (fun e=>e.2.2.2.1 rfl) (fun c h=>law_put3 (fun b h=>h) hs2 c h)
          have q3:FltB X3 gF EX (.slice (some ⟨gA,0,none⟩) 1 k1) (.slice Am nm cm) (.slice Ad nd cd) (.slice Av nv cv) (.slice Ap np cp) (.slice Ao no co):=by rw[hX3];exact(Below.heap_setCell _ _ _ _ HGN.out.1).trans q2
          have j3:HotBy [some gF] W1 X3:=by rw[hX3];exact j2.setNew _ _ HGA.out.1
          rw[←hX3]
          have HQ3:=zh q3
          have HJ3:=zh j3
          have HA3':=zh a3
          clear hX3 a2 hs2 q2 j2 hra hho hx0 q3 j3 a3 x1 x2 x3 hx1 hx2 hx3 z1 z2 z3
          go_wp2_with fail
          go_roundg 0
          case measure=>omega
          case rel=>exact⟨1,by omega,rfl,by go_num,HJ3,HQ3,HA3'⟩
         exact AllReadyT.nil
        exact AllReadyT.nil
       exact AllReadyT.nil
      exact AllReadyT.nil
     exact AllReadyT.nil
  ·have hj1:j=1:=by omega
   subst hj1
   have h1:=HG.out
   have h2:=HGA.out
   have h3:=HH.out.size
   have h4:=HB1.out.size
   have hol:=HO.out.lt
   have hfour:SlS 4 LawK W4 (NotG Z W4 gF gR gR) (.slice (some ⟨gA,0,none⟩) 1 k1) F.laws:=by
    have h:=HO.out.slS lawK (R':=NotG Z W4 gF gR gR) (fun b hb=>⟨hb.1,hb.2.1,hb.2.2.1,hb.2.2.1,hb.2.2.2.2⟩) ⟨hol,by omega,by omega,by omega,fun e=>by have:=HZ.out gA e;omega⟩
    rw[show F.laws.length=1 by rw[HLW.out.1];rfl] at h
    exact h
   have HSL:=zh hfour
   have HFS:=zh (show ∀w',Below W4.heap.size W4 w'→FleetS w' (BlZ Z w.heap.size) (.slice Al nl cl) (.slice Am nm cm) (.slice Ad nd cd) (.slice Av nv cv) (.slice Ap np cp) (.slice Ao no co) F from fun w' hb=>HF1.out.keep (fun b hb'=>(HH.out.trans (HotBy.below hb)).block b (by have hb1':=hb'.1;omega) (by have hb1':=hb'.1;simp;omega)))
   have HBW:=zh (show w.heap.size≤W4.heap.size∧w.heap.size≤gF∧w.heap.size≤gR∧gF<W4.heap.size∧gR<W4.heap.size by omega)
   have HLN:=zh (show 0<F.models.length∧F.models.length≤100000∧0<F.dves.length∧F.dves.length≤100000∧0<F.vols.length∧F.vols.length≤100000 from by
    obtain⟨a,b,c,d,-,-,-,-,h⟩:=HOK.out.models
    have:=HOK.out.dve1;have:=HOK.out.dveN;have:=HOK.out.vol1;have:=HOK.out.volN
    rw[h]
    exact⟨by simp,by simp,by omega,by omega,by omega,by omega⟩)
   have HS13:=zh (show ∀w',Below W4.heap.size W4 w'→(fun w'=>w'.cell? ⟨gF,2,none⟩=some (.slice Am nm cm)∧w'.cell? ⟨gF,4,none⟩=some (.slice Av nv cv)∧w'.cell? ⟨gF,6,none⟩=some (.slice Ao no co)) w' from fun w' hb=>by
    obtain⟨k0,k1',k2,k3,k4,k5,k6⟩:=cells7 (FltB.below HF.out hb)
    exact⟨k2,k4,k6⟩)
   clear h1 h2 h3 h4 hol hfour
   go_upto_region 13 with fail
   refine region_tail (S:=(fun w'=>w'.cell? ⟨gF,2,none⟩=some (.slice Am nm cm)∧w'.cell? ⟨gF,4,none⟩=some (.slice Av nv cv)∧w'.cell? ⟨gF,6,none⟩=some (.slice Ao no co))) [10,11,12,13,14] (by kernel_rfl) (HS13.out _ (Below.refl _ _).drew) (fun hHeld=>?_)
   refine tk 0 66 ?_
   refine tk 1 67 ?_
   refine tk 3 69 ?_
   refine tk 4 70 ?_
   refine tk 6 72 ?_
   refine tk 7 73 ?_
   refine readyT (rs:=[2]) (by kernel_rfl) (by simp) ?_
   refine AllReadyT.cons rfl (fun K hK=>?_) ?_
   ·go_simp
    (go_at_call 76;refine(clone_mod _ F.models _ (BlZ Z w.heap.size) (HFS.out _ (Below.refl W4.heap.size W4).drew).2.1 (fun b hb=>Nat.lt_of_lt_of_le hb.1 (Nat.le_trans HBW.out.1 (Below.refl W4.heap.size W4).drew.size)) HLN.out.1 HLN.out.2.1).mono ?_;rintro e w5 ⟨v5,rfl,ho5,hb5⟩;have HB5:=zh (show Below W4.heap.size W4 w5 from((Below.refl _ _).drew:Below W4.heap.size W4 W4.drew).trans hb5);have hs5:=own_not (a:=gF) (b:=gR) modK ho5 HZ.out (Nat.le_trans HBW.out.1 HB5.out.size) HBW.out.2.1 HBW.out.2.2.1 (Nat.lt_of_lt_of_le HBW.out.2.2.2.1 (Below.refl W4.heap.size W4).drew.size) (Nat.lt_of_lt_of_le HBW.out.2.2.2.2 (Below.refl W4.heap.size W4).drew.size);obtain⟨A5,n5,q5,hv5⟩:=hs5.form3;subst hv5;have HS5:=zh hs5;have HBX5:=zh hb5;clear ho5 hb5 hs5)
    go_wp2_with fail
    refine hK.out _ _ ?_ (fun hHeld=>?_)
    ·(first|exact HS13.out _ HB7.out|exact HS13.out _ HB6.out|exact HS13.out _ HB5.out)
    clear hK K
    (try simp only[Act.put,z1,z2,z3])
    refine tk 9 75 ?_
    refine readyT (rs:=[5]) (by kernel_rfl) (by simp) ?_
    refine AllReadyT.cons rfl (fun K hK=>?_) ?_
    ·go_simp
     (go_at_call 77;refine(clone_dve _ F.dves _ (BlZ Z w.heap.size) (HFS.out _ HB5.out).2.2.2.1 (fun b hb=>Nat.lt_of_lt_of_le hb.1 (Nat.le_trans HBW.out.1 HB5.out.size)) HLN.out.2.2.1 HLN.out.2.2.2.1).mono ?_;rintro e w6 ⟨v6,rfl,ho6,hb6⟩;have HB6:=zh (show Below W4.heap.size W4 w6 from HB5.out.trans (hb6.mono HB5.out.size));have hs6:=own_not (a:=gF) (b:=gR) dveK ho6 HZ.out (Nat.le_trans HBW.out.1 HB6.out.size) HBW.out.2.1 HBW.out.2.2.1 (Nat.lt_of_lt_of_le HBW.out.2.2.2.1 HB5.out.size) (Nat.lt_of_lt_of_le HBW.out.2.2.2.2 HB5.out.size);obtain⟨A6,n6,q6,hv6⟩:=hs6.form3;subst hv6;have HS6:=zh hs6;have HBX6:=zh hb6;clear ho6 hb6 hs6)
     go_wp2_with fail
     refine hK.out _ _ ?_ (fun hHeld=>?_)
     ·(first|exact HS13.out _ HB7.out|exact HS13.out _ HB6.out|exact HS13.out _ HB5.out)
     clear hK K
     (try simp only[Act.put,z1,z2,z3])
     refine readyT (rs:=[8]) (by kernel_rfl) (by simp) ?_
     refine AllReadyT.cons rfl (fun K hK=>?_) ?_
     ·go_simp
      (go_at_call 78;refine(clone_vol _ F.vols _ (BlZ Z w.heap.size) (HFS.out _ HB6.out).2.2.2.2.2 (fun b hb=>Nat.lt_of_lt_of_le hb.1 (Nat.le_trans HBW.out.1 HB6.out.size)) HLN.out.2.2.2.2.1 HLN.out.2.2.2.2.2).mono ?_;rintro e w7 ⟨v7,rfl,ho7,hb7⟩;have HB7:=zh (show Below W4.heap.size W4 w7 from HB6.out.trans (hb7.mono HB6.out.size));have hs7:=own_not (a:=gF) (b:=gR) volK ho7 HZ.out (Nat.le_trans HBW.out.1 HB7.out.size) HBW.out.2.1 HBW.out.2.2.1 (Nat.lt_of_lt_of_le HBW.out.2.2.2.1 HB6.out.size) (Nat.lt_of_lt_of_le HBW.out.2.2.2.2 HB6.out.size);obtain⟨A7,n7,q7,hv7⟩:=hs7.form3;subst hv7;have HS7:=zh hs7;have HBX7:=zh hb7;clear ho7 hb7 hs7;obtain⟨c0,c1,c2,c3,c4,c5,c6⟩:=cells7 (FltB.below HF.out HB7.out);have z2:w7.frozen? ⟨gF,2,none⟩=false:=frozen_of_row _ _ _ _ _ (FltB.below HF.out HB7.out);have z4:w7.frozen? ⟨gF,4,none⟩=false:=frozen_of_row _ _ _ _ _ (FltB.below HF.out HB7.out);have z6:w7.frozen? ⟨gF,6,none⟩=false:=frozen_of_row _ _ _ _ _ (FltB.below HF.out HB7.out))
      go_wp2_with fail
      refine hK.out _ _ ?_ (fun hHeld=>?_)
      ·(first|exact HS13.out _ HB7.out|exact HS13.out _ HB6.out|exact HS13.out _ HB5.out)
      clear hK K
      (try simp only[Act.put,z1,z2,z3])
      refine readyT (rs:=[10]) (by kernel_rfl) (by simp) ?_
      refine AllReadyT.consT rfl rfl (fun K hK=>?_) ?_
      ·rw[if_pos (by rfl)]
       go_simp
       refine hK.out _ _ ?_
       clear hK K
       (try simp only[Act.put,z1,z2,z3])
       refine readyT (rs:=[11]) (by kernel_rfl) (by simp) ?_
       refine AllReadyT.consT rfl rfl (fun K hK=>?_) ?_
       ·rw[if_pos (by rfl)]
        go_simp
        refine hK.out _ _ ?_
        clear hK K
        (try simp only[Act.put,z1,z2,z3])
        refine readyT (rs:=[12]) (by kernel_rfl) (by simp) ?_
        refine AllReadyT.consT rfl rfl (fun K hK=>?_) ?_
        ·rw[if_pos (by rfl)]
         go_simp
         refine hK.out _ _ ?_
         clear hK K
         (try simp only[Act.put,z1,z2,z3])
         refine readyT (rs:=[13]) (by kernel_rfl) (by simp) ?_
         refine AllReadyT.consT rfl rfl (fun K hK=>?_) ?_
         ·rw[if_pos (by rfl)]
          go_simp
          refine hK.out _ _ ?_
          clear hK K
          (try simp only[Act.put,z1,z2,z3])
          refine readyT (rs:=[14]) (by kernel_rfl) (by simp) ?_
          refine AllReadyT.consT rfl rfl (fun K hK=>?_) ?_
          ·rw[if_pos (by rfl)]
           go_simp
           refine hK.out _ _ ?_
           clear hK K
           (try simp only[Act.put,z1,z2,z3])
           refine doneT (by kernel_rfl) ?_ _
           clear hHeld
           obtain⟨W8,hW8⟩:=zx (((w7.setCell ⟨gF,2,none⟩ (.slice A5 n5 q5)).setCell ⟨gF,4,none⟩ (.slice A6 n6 q6)).setCell ⟨gF,6,none⟩ (.slice A7 n7 q7))
           have hf8:FltB W8 gF EX (.slice (some ⟨gA,0,none⟩) 1 k1) (.slice A5 n5 q5) (.slice Ad nd cd) (.slice A6 n6 q6) (.slice Ap np cp) (.slice A7 n7 q7):=by rw[hW8];exact(((FltB.below HF.out HB7.out).sett2 _).sett4 _).sett6 _
           have hh8:HotBy [some gF] w7 W8:=by rw[hW8];exact(((HotBy.refl _ _).setOf (.inl (by simp)) 2 _).setOf (.inl (by simp)) 4 _).setOf (.inl (by simp)) 6 _
           rw[←hW8]
           clear hW8 c0 c1 c2 c3 c4 c5 c6 z2 z4 z6
           have hh6:HotBy [some gF] w6 W8:=(HotBy.below HBX7.out).trans hh8
           have hh5:HotBy [some gF] w5 W8:=(HotBy.below HBX6.out).trans hh6
           have hh4:HotBy [some gF] W4 W8:=(HotBy.below HB7.out).trans hh8
           have hn:∀k,some k∈[some gF]→k=gF∨k=gR∨k=gR:=fun k hk=>by simp at hk;exact .inl hk
           have HFO:=zh (show Four Z W8 gF gR (.slice (some ⟨gA,0,none⟩) 1 k1) (.slice A5 n5 q5) (.slice A6 n6 q6) (.slice A7 n7 q7) F from⟨SlS.onward lawK HSL.out hh4 hn,SlS.onward modK HS5.out hh5 hn,SlS.onward dveK HS6.out hh6 hn,SlS.onward volK HS7.out hh8 hn⟩)
           have HH8:=zh (show HotBy [some gF] W1 W8 from HH.out.trans hh4)
           have HF8:=zh hf8
           have HFS8:=zh (show ∀w',HotBy [some gF] W8 w'→FleetS w' (BlZ Z w.heap.size) (.slice Al nl cl) (.slice Am nm cm) (.slice Ad nd cd) (.slice Av nv cv) (.slice Ap np cp) (.slice Ao no co) F from fun w' hb=>HF1.out.keep (fun b hb'=>((HH.out.trans hh4).trans hb).block b (by have hb1':=hb'.1;have:=HB1.out.size;omega) (by have hb1':=hb'.1;simp;have:=HBW.out.2.1;omega)))
           have HBW8:=zh (show w.heap.size≤W8.heap.size∧w.heap.size≤gF∧w.heap.size≤gR∧gF<W8.heap.size∧gR<W8.heap.size from by have:=HBW.out;have:=hh4.size;omega)
           clear hh4 hh5 hh6 hh8 hf8 hn HFS HBW HSL HS5 HS6 HS7 HB5 HB6 HB7 HBX5 HBX6 HBX7 HS13 HLN HH HF HO
           obtain⟨ND,hND⟩:=zx F.doms.length
           have hnd:0<F.doms.length∧F.doms.length≤21:=⟨HOK.out.doms.pos,HOK.out.domN⟩
           have HND:=zh (show ND=F.doms.length∧0<ND∧ND≤21 by rw[hND];exact⟨rfl,hnd⟩)
           have HCD:=zh (clone_dom _ F.doms W8 (BlZ Z w.heap.size) (HFS8.out _ (HotBy.refl _ _)).2.2.1 (fun b hb=>Nat.lt_of_lt_of_le hb.1 HBW8.out.1) hnd.1 (by omega))
           obtain⟨c0,c1,c2,c3,c4,c5,c6⟩:=cells7 HF8.out
           clear hnd
           go_upto_region 14 with fail
           go_wp2_with fail
           refine HCD.out.mono ?_
           rintro e w9 ⟨u9,rfl,ho9,hb9⟩
           have hf9:=FltB.below HF8.out hb9
           obtain⟨gD,kD,rfl,hgD,hra⟩:=OwnK.rowA domK ho9 (by intro h0;rw[h0] at hND;have:=HND.out;simp at hND;omega) (fun b hb=>Nat.lt_of_lt_of_le hb.1 HBW8.out.1)
           rw[←hND]
           clear c0 c1 c2 c3 c4 c5 c6
           obtain⟨c0,c1,c2,c3,c4,c5,c6⟩:=cells7 hf9
           have z1:w9.frozen? ⟨gF,3,none⟩=false:=frozen_of_row _ _ _ _ _ hf9
           have HF9:=zh hf9
           have HO9:=zh hra
           have HGD:=zh hgD
           have HB9:=zh hb9
           clear hf9 hra hgD hb9 ho9 hND HCD
           go_upto_region 15 with fail
           obtain⟨W10,hW10⟩:=zx (w9.setCell ⟨gF,3,none⟩ (.slice (some ⟨gD,0,none⟩) ND kD))
           have hf10:FltB W10 gF EX (.slice (some ⟨gA,0,none⟩) 1 k1) (.slice A5 n5 q5) (.slice (some ⟨gD,0,none⟩) ND kD) (.slice A6 n6 q6) (.slice Ap np cp) (.slice A7 n7 q7):=by rw[hW10];exact FltB.sett3 HF9.out _
           have hh10:HotBy [some gF] W8 W10:=by rw[hW10];exact(HotBy.below HB9.out).setOf (.inl (by simp)) 3 _
           have ha10:RowA 7 DomK W10 100 gD kD F.doms (NotG Z W10 gF gR gD):=by
            rw[hW10]
            have h1:=HBW8.out
            have h2:=HGD.out
            have h3:=HB9.out.size
            exact RowA.enter domK HO9.out (by omega) (by omega) (by omega) (by omega) (by omega) 3 _
           rw[←hW10]
           have HF10:=zh hf10
           have HH10:=zh hh10
           have HA10:=zh ha10
           clear hW10 hf10 hh10 ha10 c0 c1 c2 c3 c4 c5 c6 z1 HF9 HO9 HB9
           obtain⟨c0,c1,c2,c3,c4,c5,c6⟩:=cells7 HF10.out
           have l1:(ND:Int)≤21:=by have:=HND.out;omega
           go_wp2_with fail
           clear c0 c1 c2 c3 c4 c5 c6
           go_loopg [85] ND (fun z v85 wr=>∃j:Nat,j≤ND∧z=ND - j∧v85=.int .i64 (j:Int)∧Hid (HotBy [some gF] W8 wr)∧Hid (FltB wr gF EX (.slice (some ⟨gA,0,none⟩) 1 k1) (.slice A5 n5 q5) (.slice (some ⟨gD,0,none⟩) ND kD) (.slice A6 n6 q6) (.slice Ap np cp) (.slice A7 n7 q7))∧Hid (RowA 7 DomK wr 100 gD kD F.doms (NotG Z wr gF gR gD)))
           case atStart=>exact⟨0,by omega,rfl,rfl,HH10,HF10,HA10⟩
           case round =>
            obtain⟨j,hj,rfl,rfl,HH,HF,HO⟩:=hrel
            obtain⟨W11,hW11⟩:=zx wr
            rw[←hW11] at HH HF HO ⊢
            clear hW11
            by_cases hlt:j<ND
            ·obtain⟨x,hx⟩:∃x,F.doms[j]?=some x:=⟨_,List.getElem?_eq_getElem (by rw[←HND.out.1];exact hlt)⟩
             obtain⟨cs,hcl,hc,hK⟩:=HO.out.at_ hx
             obtain⟨vn,vd,rfl,l8,l9⟩:=hK
             obtain⟨A8,n8,q8,rfl⟩:=l8.frm
             obtain⟨A9,n9,q9,rfl⟩:=l9.frm
             have i1:(j:Int)<(ND:Int):=by omega
             have HRC:=zh hc
             have HX:=zh hx
             have HL89:=zh (And.intro l8 l9)
             have HJD:=zh (show j<F.doms.length by rw[←HND.out.1];exact hlt)
             clear hx hcl hc l8 l9
             go_upto_region 17 with fail
             refine wp_region_lit ?_
             refine wpList_plain rfl (fun K hK=>?_)
             go_simp
             refine hK _ _ ?_
             clear hK
             (try simp only[Act.put,z1,z2,z3])
             refine wpList_plain rfl (fun K hK=>?_)
             go_simp
             refine hK _ _ ?_
             clear hK
             (try simp only[Act.put,z1,z2,z3])
             refine wpList_load_mid rfl 100 (.tmp 88) rfl gD (j * 7) (by rfl) [.string x.name,.int .i64 x.level,.int .i64 x.parent,.int .i64 x.uplink,.bool x.shock.neg,.slice A8 n8 q8,.slice A9 n9 q9] _ HRC.out Tryz.underlying100 rfl size_domE ?_
             (try simp only[Act.put,z1,z2,z3])
             refine wpList_plain rfl (fun K hK=>?_)
             go_simp
             refine hK _ _ ?_
             clear hK
             (try simp only[Act.put,z1,z2,z3])
             obtain⟨W12,hW12⟩:=zx (W11.alloc (.cells #[.string ⟨#[]⟩,.int .i64 0,.int .i64 0,.int .i64 0,.bool false,.slice none 0 0,.slice none 0 0] 100))
             obtain⟨gX,hgX⟩:=zx W11.heap.size
             rw[←hW12,←hgX]
             have hb12:Below W11.heap.size W11 W12:=by rw[hW12];exact(Below.refl _ _).alloc (Nat.le_refl _) _
             have hpk:W12.heap[gX]?=some (.cells #[.string ⟨#[]⟩,.int .i64 0,.int .i64 0,.int .i64 0,.bool false,.slice none 0 0,.slice none 0 0] 100 (0,0)):=by rw[hW12,hgX];exact heap_alloc_new _ _
             have hth:W12.there gX 0 7:=there_new hpk (Nat.le_refl 7)
             have HW12:=zh hW12
             have HGX:=zh hgX
             clear hW12 hgX hpk
             refine wpList_plain rfl (fun K hK=>?_)
             go_simp
             refine hK _ _ ?_
             clear hK
             (try simp only[Act.put,z1,z2,z3])
             refine wpList_store_mid rfl 100 (.tmp 9) (.tmp 89) rfl gX 0 #[.string x.name,.int .i64 x.level,.int .i64 x.parent,.int .i64 x.uplink,.bool x.shock.neg,.slice A8 n8 q8,.slice A9 n9 q9] (by rfl) (by rfl) hth size_domE (by simp[Value.oneCell']) ?_
             (try simp only[Act.put,z1,z2,z3])
             have hr13:=World.rangeAt_setCells_same _ _ _ [.string x.name,.int .i64 x.level,.int .i64 x.parent,.int .i64 x.uplink,.bool x.shock.neg,.slice A8 n8 q8,.slice A9 n9 q9] hth
             have hb13:Below W11.heap.size W11 (World.setCells W12 gX 0 [.string x.name,.int .i64 x.level,.int .i64 x.parent,.int .i64 x.uplink,.bool x.shock.neg,.slice A8 n8 q8,.slice A9 n9 q9]):=below_setCellsV (by have:=HGX.out;omega) _ _ _ hb12
             have hs13:=setCells_sizeK (g:=gX) [.string x.name,.int .i64 x.level,.int .i64 x.parent,.int .i64 x.uplink,.bool x.shock.neg,.slice A8 n8 q8,.slice A9 n9 q9] 0 W12
             obtain⟨W13,hW13⟩:=zx (World.setCells W12 gX 0 [.string x.name,.int .i64 x.level,.int .i64 x.parent,.int .i64 x.uplink,.bool x.shock.neg,.slice A8 n8 q8,.slice A9 n9 q9])
             rw[←hW13] at hr13 hb13 hs13 ⊢
             have hgl:gX<W13.heap.size:=by rw[hs13,HW12.out,HGX.out];simp
             have h1:=HBW8.out
             have h2:=HH.out.size
             have h3:=hb13.size
             have h4:=HO.out.lt
             have HB13:=zh hb13
             have HS18:=zh (show ∀w',Below W13.heap.size W13 w'→(fun w'=>w'.cell? ⟨gF,3,none⟩=some (.slice (some ⟨gD,0,none⟩) ND kD)∧w'.rangeAt gX 4 [.bool x.shock.neg,.slice A8 n8 q8,.slice A9 n9 q9]) w' from fun w' hb=>by
              obtain⟨k0,k1',k2,k3,k4,k5,k6⟩:=cells7 (((hb13.trans (hb.mono h3)).block gF (by omega)).trans HF.out)
              exact⟨k3,range_same (rangeAt_drop hr13 4) (hb.block gX hgl)⟩)
             have HL8:=zh (show ∀w',Below W13.heap.size W13 w'→LS w' (Bl w'.heap.size) (.slice A8 n8 q8) (natL x.shock.num)∧LS w' (Bl w'.heap.size) (.slice A9 n9 q9) (natL x.shock.den) from fun w' hb=>by
              have hk:=hb13.trans (hb.mono h3)
              have hz:=Nat.le_trans h3 hb.size
              exact⟨(HL89.out.1.keep (fun b hb'=>hk.block b hb'.1)).mono (fun b hb'=>Nat.lt_of_lt_of_le hb'.1 hz),(HL89.out.2.keep (fun b hb'=>hk.block b hb'.1)).mono (fun b hb'=>Nat.lt_of_lt_of_le hb'.1 hz)⟩)
             have HRD:=zh (show ∀w',Below W13.heap.size W13 w'→RowA 7 DomK w' 100 gD kD F.doms (NotG Z w' gF gR gD) from fun w' hb=>RowA.onward domK HO.out (hot:=[]) (HotBy.below (hb13.trans (hb.mono h3))) (fun k hk=>by simp at hk))
             have HFR:=zh (show ∀(w':World) (b:Nat),Fr W13.heap.size w'.heap.size b→NotG Z w' gF gR gD b from fun w' b hb=>⟨hb.2,by have:=hb.1;omega,by have:=hb.1;omega,by have:=hb.1;omega,fun e=>by have:=hb.1;have:=HZ.out b e;omega⟩)
             clear hb12 hth hr13 hb13 hs13 hW13 hgl h1 h2 h3 h4 HRC HL89 HW12 HGX
             go_upto_region 18 with fail
             refine region_tail (S:=(fun w'=>w'.cell? ⟨gF,3,none⟩=some (.slice (some ⟨gD,0,none⟩) ND kD)∧w'.rangeAt gX 4 [.bool x.shock.neg,.slice A8 n8 q8,.slice A9 n9 q9])) [8] (by kernel_rfl) (HS18.out _ (Below.refl _ _).drew) (fun hHeld=>?_)
             refine tk 0 90 ?_
             refine tk 1 91 ?_
             refine tk 2 92 ?_
             refine tk 3 93 ?_
             refine takeT (i:=4) (d:=94) (v:=(.agg #[.bool x.shock.neg,.slice A8 n8 q8,.slice A9 n9 q9])) rfl rfl (by kernel_rfl) (by kernel_rfl) (by kernel_rfl) (by kernel_rfl) (fun _ _ _ h=>h) (yieldsIf_load_mid (by rfl) 26 (.tmp 93) rfl gX 4 (by rfl) [.bool x.shock.neg,.slice A8 n8 q8,.slice A9 n9 q9] _ (fun w hw=>hw.2) Tryz.underlying26 rfl size_frac7) (by assumption) ?_
             (try simp only[Act.put,z1,z2,z3])
             refine readyT (rs:=[5]) (by kernel_rfl) (by simp) ?_
             refine AllReadyT.cons rfl (fun K hK=>?_) ?_
             ·go_simp
              (go_at_call 34;refine(pfrac_any x.shock.neg (.slice A8 n8 q8) (.slice A9 n9 q9) (natL x.shock.num) (natL x.shock.den) _ (HL8.out _ (Below.refl _ _).drew).1 (HL8.out _ (Below.refl _ _).drew).2 (by have:=natL_length x.shock.num;omega) (by have:=natL_length x.shock.den;omega)).mono ?_;rintro e w14 ⟨un,ud,rfl,hun,hud,hb14⟩;have HB14:=zh (show Below W13.heap.size W13 w14 from((Below.refl _ _).drew:Below W13.heap.size W13 W13.drew).trans hb14);obtain⟨E1,M1,t1,rfl⟩:=hun.frm;obtain⟨E2,M2,t2,rfl⟩:=hud.frm;have HUN:=zh (And.intro hun hud);clear hun hud hb14)
              go_wp2_with fail
              refine hK.out _ _ ?_ (fun hHeld=>?_)
              ·exact HS18.out _ HB14.out
              clear hK K
              (try simp only[Act.put,z1,z2,z3])
              refine tk 6 96 ?_
              refine tk 7 97 ?_
              refine readyT (rs:=[8]) (by kernel_rfl) (by simp) ?_
              refine AllReadyT.consT rfl rfl (fun K hK=>?_) ?_
              ·rw[if_pos (by rfl)]
               refine wp_store_mid 26 (.tmp 97) (.tmp 95) rfl gD (j * 7+4) #[.bool x.shock.neg,.slice E1 M1 t1,.slice E2 M2 t2] (by rfl) (by rfl) ((HRD.out _ HB14.out).there (by have:=HJD.out;have:=HO.out.room;show j * 7+4+3≤kD * 7;omega)) size_frac7 (by simp[Value.oneCell']) ?_
               refine hK.out _ _ ?_
               clear hK K
               (try simp only[Act.put,z1,z2,z3])
               refine doneT (by kernel_rfl) ?_ _
               clear hHeld
               have hrd:=HRD.out _ HB14.out
               have hsm:RowA 7 DomK (World.setCells w14 gD (j * 7+4) [.bool x.shock.neg,.slice E1 M1 t1,.slice E2 M2 t2]) 100 gD kD F.doms (NotG Z (World.setCells w14 gD (j * 7+4) [.bool x.shock.neg,.slice E1 M1 t1,.slice E2 M2 t2]) gF gR gD):=by
                rw[notG_setCells]
                exact RowA.same domK hrd (k:=j) (o:=4) [.bool x.shock.neg,.slice E1 M1 t1,.slice E2 M2 t2] HX.out (by simp) (fun b h=>h) (fun e=>e.2.2.2.1 rfl) (fun c h=>dom_put (fun b h=>h) (HUN.out.1.mono (HFR.out w14)) (HUN.out.2.mono (HFR.out w14)) c h)
               have hgd:gF≠gD:=by have:=HGD.out;have:=HBW8.out;omega
               have hbl:=HB13.out.trans (HB14.out.mono HB13.out.size)
               have hf15:FltB (World.setCells w14 gD (j * 7+4) [.bool x.shock.neg,.slice E1 M1 t1,.slice E2 M2 t2]) gF EX (.slice (some ⟨gA,0,none⟩) 1 k1) (.slice A5 n5 q5) (.slice (some ⟨gD,0,none⟩) ND kD) (.slice A6 n6 q6) (.slice Ap np cp) (.slice A7 n7 q7):=(setCells_other _ _ _ _ hgd).trans (FltB.below HF.out hbl)
               have hh15:HotBy [some gF] W8 (World.setCells w14 gD (j * 7+4) [.bool x.shock.neg,.slice E1 M1 t1,.slice E2 M2 t2]):=HotBy.setCells (.inr HGD.out) _ _ _ (HH.out.trans (HotBy.below hbl))
               obtain⟨W15,hW15⟩:=zx (World.setCells w14 gD (j * 7+4) [.bool x.shock.neg,.slice E1 M1 t1,.slice E2 M2 t2])
               rw[←hW15] at hsm hf15 hh15 ⊢
               have HSM:=zh hsm
               have HF15:=zh hf15
               have HH15:=zh hh15
               clear hW15 hsm hf15 hh15 hbl hgd hrd
               go_wp2_with fail
               go_roundg (ND - (j+1))
               case measure=>omega
               case rel=>exact⟨j+1,by omega,rfl,by go_num,HH15,HF15,HSM⟩
              exact AllReadyT.nil
             exact AllReadyT.nil
            ·have hje:j=ND:=by omega
             subst hje
             have h1:=HBW8.out
             have h2:=HH.out.size
             have hol:=HO.out.lt
             have hn:∀k,some k∈[some gF]→k=gF∨k=gR∨k=gR:=fun k hk=>by simp at hk;exact .inl hk
             have hsd:SlS 7 DomK W11 (NotG Z W11 gF gR gR) (.slice (some ⟨gD,0,none⟩) j kD) F.doms:=by
              have h:=HO.out.slS domK (R':=NotG Z W11 gF gR gR) (fun b hb=>⟨hb.1,hb.2.1,hb.2.2.1,hb.2.2.1,hb.2.2.2.2⟩) ⟨hol,by have:=HGD.out;omega,by have:=HGD.out;omega,by have:=HGD.out;omega,fun e=>by have:=HGD.out;have:=HZ.out gD e;omega⟩
              rw[←HND.out.1] at h
              exact h
             have HSD:=zh hsd
             have HFO11:=zh (HFO.out.onward HH.out hn)
             have HH11:=zh (HH8.out.trans HH.out)
             have HFS11:=zh (HFS8.out W11 HH.out)
             have HBW11:=zh (show w.heap.size≤W11.heap.size∧w.heap.size≤gF∧w.heap.size≤gR∧gF<W11.heap.size∧gR<W11.heap.size by omega)
             have HF11:=zh HF.out
             clear h1 h2 hol hn hsd HH HFO HH8 HFS8 HBW8 HF HO HF8 HF10 HH10 HA10 HGD HND l1
             obtain⟨NP,hNP⟩:=zx F.pols.length
             have hnp:0<F.pols.length∧F.pols.length≤2:=⟨HOK.out.pol1,HOK.out.polN⟩
             have HNP:=zh (show NP=F.pols.length∧0<NP∧NP≤2 by rw[hNP];exact⟨rfl,hnp⟩)
             have HCP:=zh (clone_pol _ F.pols W11 (BlZ Z w.heap.size) HFS11.out.2.2.2.2.1 (fun b hb=>Nat.lt_of_lt_of_le hb.1 HBW11.out.1) hnp.1 (by omega))
             obtain⟨c0,c1,c2,c3,c4,c5,c6⟩:=cells7 HF11.out
             clear hnp
             go_upto_region 20 with fail
             go_wp2_with fail
             refine HCP.out.mono ?_
             rintro e w9 ⟨u9,rfl,ho9,hb9⟩
             have hf9:=FltB.below HF11.out hb9
             obtain⟨gP,kP,rfl,hgP,hra⟩:=OwnK.rowA polK ho9 (by intro h0;rw[h0] at hNP;have:=HNP.out;simp at hNP;omega) (fun b hb=>Nat.lt_of_lt_of_le hb.1 HBW11.out.1)
             rw[←hNP]
             clear c0 c1 c2 c3 c4 c5 c6
             obtain⟨c0,c1,c2,c3,c4,c5,c6⟩:=cells7 hf9
             have z1:w9.frozen? ⟨gF,5,none⟩=false:=frozen_of_row _ _ _ _ _ hf9
             have HF9:=zh hf9
             have HO9:=zh hra
             have HGP:=zh hgP
             have HB9:=zh hb9
             clear hf9 hra hgP hb9 ho9 hNP HCP
             go_upto_region 21 with fail
             obtain⟨W10,hW10⟩:=zx (w9.setCell ⟨gF,5,none⟩ (.slice (some ⟨gP,0,none⟩) NP kP))
             have hf10:FltB W10 gF EX (.slice (some ⟨gA,0,none⟩) 1 k1) (.slice A5 n5 q5) (.slice (some ⟨gD,0,none⟩) j kD) (.slice A6 n6 q6) (.slice (some ⟨gP,0,none⟩) NP kP) (.slice A7 n7 q7):=by rw[hW10];exact FltB.sett5 HF9.out _
             have hh10:HotBy [some gF] W11 W10:=by rw[hW10];exact(HotBy.below HB9.out).setOf (.inl (by simp)) 5 _
             have ha10:RowA 17 PolK W10 55 gP kP F.pols (NotG Z W10 gF gR gP):=by
              rw[hW10]
              have h1:=HBW11.out
              have h2:=HGP.out
              have h3:=HB9.out.size
              exact RowA.enter polK HO9.out (by omega) (by omega) (by omega) (by omega) (by omega) 5 _
             rw[←hW10]
             have HF10:=zh hf10
             have HH10:=zh hh10
             have HA10:=zh ha10
             clear hW10 hf10 hh10 ha10 c0 c1 c2 c3 c4 c5 c6 z1 HF9 HO9 HB9
             obtain⟨c0,c1,c2,c3,c4,c5,c6⟩:=cells7 HF10.out
             have l1:(NP:Int)≤2:=by have:=HNP.out;omega
             go_wp2_with fail
             clear c0 c1 c2 c3 c4 c5 c6
             obtain⟨JD,hJD⟩:=zx j
             rw[←hJD] at HF10 HSD ⊢
             clear hJD
             obtain⟨B,hB⟩:=zx W10.heap.size
             have HBB:=zh (show gP<B∧gF<B∧gR<B∧B=W10.heap.size by have h1:=HA10.out.lt;have h2:=HBW11.out;have h3:=HH10.out.size;exact⟨by omega,by omega,by omega,hB⟩)
             clear hB
             go_loopg [106] NP (fun z v106 wr=>∃j:Nat,j≤NP∧z=NP - j∧v106=.int .i64 (j:Int)∧Hid (HotBy [some gF] W11 wr)∧Hid (FltB wr gF EX (.slice (some ⟨gA,0,none⟩) 1 k1) (.slice A5 n5 q5) (.slice (some ⟨gD,0,none⟩) JD kD) (.slice A6 n6 q6) (.slice (some ⟨gP,0,none⟩) NP kP) (.slice A7 n7 q7))∧Hid (RowA 17 PolK wr 55 gP kP F.pols (NotG Z wr gF gR gP))∧Hid (B≤wr.heap.size∧TightR wr gP B F.pols j))
             case atStart=>exact⟨0,by omega,rfl,rfl,HH10,HF10,HA10,zh ⟨by rw[HBB.out.2.2.2];exact Nat.le_refl _,fun k x hk=>absurd hk (Nat.not_lt_zero _)⟩⟩
             case round =>
              obtain⟨j,hj,rfl,rfl,HH,HF,HO,HT⟩:=hrel
              obtain⟨W12,hW12⟩:=zx wr
              rw[←hW12] at HH HF HO HT ⊢
              clear hW12
              by_cases hlt:j<NP
              ·obtain⟨x,hx⟩:∃x,F.pols[j]?=some x:=⟨_,List.getElem?_eq_getElem (by rw[←HNP.out.1];exact hlt)⟩
               obtain⟨cs,hcl,hc,hK⟩:=HO.out.at_ hx
               obtain⟨v1,v2,v3,v4,v5,v6,rfl,i1,i2,i3,i4,i5,i6⟩:=hK
               obtain⟨A1,N1,h1,rfl⟩:∃A n c,v1=.slice A n c:=by obtain⟨A,c,e,-⟩:=i1.1;exact⟨A,_,c,e⟩
               obtain⟨A2,N2,h2,rfl⟩:=i2.form3
               obtain⟨A3,N3,h3,rfl⟩:=i3.frm
               obtain⟨A4,N4,h4,rfl⟩:=i4.frm
               obtain⟨AH,N5,h5,rfl⟩:=i5.frm
               obtain⟨AI,N6,h6,rfl⟩:=i6.frm
               have lj:(j:Int)<(NP:Int):=by omega
               have HRC:=zh hc
               have HX:=zh hx
               have HL89:=zh (And.intro i1 (And.intro i2 (And.intro i3 (And.intro i4 (And.intro i5 i6)))))
               have HJP:=zh (show j<F.pols.length by rw[←HNP.out.1];exact hlt)
               have HPW:=zh (HOK.out.pols j x hx).2.2
               clear hx hcl hc i1 i2 i3 i4 i5 i6
               go_upto_region 23 with fail
               refine wp_region_lit ?_
               refine wpList_plain rfl (fun K hK=>?_)
               go_simp
               refine hK _ _ ?_
               clear hK
               (try simp only[Act.put,z1,z2,z3])
               refine wpList_plain rfl (fun K hK=>?_)
               go_simp
               refine hK _ _ ?_
               clear hK
               (try simp only[Act.put,z1,z2,z3])
               refine wpList_load_mid rfl 55 (.tmp 109) rfl gP (j * 17) (by rfl) [.string x.name,.int .i64 x.k,.int .i64 x.m,.int .i64 x.q,.int .i64 0,.int .i64 0,.int .i64 0,.int .i64 x.s3,.int .i64 x.s4,.slice A1 N1 h1,.slice A2 N2 h2,.bool x.target.neg,.slice A3 N3 h3,.slice A4 N4 h4,.bool x.horizon.neg,.slice AH N5 h5,.slice AI N6 h6] _ HRC.out Tryz.underlying55 rfl size_polE ?_
               (try simp only[Act.put,z1,z2,z3])
               refine wpList_plain rfl (fun K hK=>?_)
               go_simp
               refine hK _ _ ?_
               clear hK
               (try simp only[Act.put,z1,z2,z3])
               obtain⟨W12a,hW12⟩:=zx (W12.alloc (.cells #[.string ⟨#[]⟩,.int .i64 0,.int .i64 0,.int .i64 0,.int .i64 0,.int .i64 0,.int .i64 0,.int .i64 0,.int .i64 0,.slice none 0 0,.slice none 0 0,.bool false,.slice none 0 0,.slice none 0 0,.bool false,.slice none 0 0,.slice none 0 0] 55))
               obtain⟨gY,hgY⟩:=zx W12.heap.size
               rw[←hW12,←hgY]
               have hb12:Below W12.heap.size W12 W12a:=by rw[hW12];exact(Below.refl _ _).alloc (Nat.le_refl _) _
               have hpk:W12a.heap[gY]?=some (.cells #[.string ⟨#[]⟩,.int .i64 0,.int .i64 0,.int .i64 0,.int .i64 0,.int .i64 0,.int .i64 0,.int .i64 0,.int .i64 0,.slice none 0 0,.slice none 0 0,.bool false,.slice none 0 0,.slice none 0 0,.bool false,.slice none 0 0,.slice none 0 0] 55 (0,0)):=by rw[hW12,hgY];exact heap_alloc_new _ _
               have hth:W12a.there gY 0 17:=there_new hpk (Nat.le_refl 17)
               have HW12:=zh hW12
               have HGY:=zh hgY
               clear hW12 hgY hpk
               refine wpList_plain rfl (fun K hK=>?_)
               go_simp
               refine hK _ _ ?_
               clear hK
               (try simp only[Act.put,z1,z2,z3])
               refine wpList_store_mid rfl 55 (.tmp 11) (.tmp 110) rfl gY 0 #[.string x.name,.int .i64 x.k,.int .i64 x.m,.int .i64 x.q,.int .i64 0,.int .i64 0,.int .i64 0,.int .i64 x.s3,.int .i64 x.s4,.slice A1 N1 h1,.slice A2 N2 h2,.bool x.target.neg,.slice A3 N3 h3,.slice A4 N4 h4,.bool x.horizon.neg,.slice AH N5 h5,.slice AI N6 h6] (by rfl) (by rfl) hth size_polE (by simp[Value.oneCell']) ?_
               (try simp only[Act.put,z1,z2,z3])
               have hr13:=World.rangeAt_setCells_same _ _ _ [.string x.name,.int .i64 x.k,.int .i64 x.m,.int .i64 x.q,.int .i64 0,.int .i64 0,.int .i64 0,.int .i64 x.s3,.int .i64 x.s4,.slice A1 N1 h1,.slice A2 N2 h2,.bool x.target.neg,.slice A3 N3 h3,.slice A4 N4 h4,.bool x.horizon.neg,.slice AH N5 h5,.slice AI N6 h6] hth
               have hb13:Below W12.heap.size W12 (World.setCells W12a gY 0 [.string x.name,.int .i64 x.k,.int .i64 x.m,.int .i64 x.q,.int .i64 0,.int .i64 0,.int .i64 0,.int .i64 x.s3,.int .i64 x.s4,.slice A1 N1 h1,.slice A2 N2 h2,.bool x.target.neg,.slice A3 N3 h3,.slice A4 N4 h4,.bool x.horizon.neg,.slice AH N5 h5,.slice AI N6 h6]):=below_setCellsV (by have:=HGY.out;omega) _ _ _ hb12
               have hs13:=setCells_sizeK (g:=gY) [.string x.name,.int .i64 x.k,.int .i64 x.m,.int .i64 x.q,.int .i64 0,.int .i64 0,.int .i64 0,.int .i64 x.s3,.int .i64 x.s4,.slice A1 N1 h1,.slice A2 N2 h2,.bool x.target.neg,.slice A3 N3 h3,.slice A4 N4 h4,.bool x.horizon.neg,.slice AH N5 h5,.slice AI N6 h6] 0 W12a
               obtain⟨W13,hW13⟩:=zx (World.setCells W12a gY 0 [.string x.name,.int .i64 x.k,.int .i64 x.m,.int .i64 x.q,.int .i64 0,.int .i64 0,.int .i64 0,.int .i64 x.s3,.int .i64 x.s4,.slice A1 N1 h1,.slice A2 N2 h2,.bool x.target.neg,.slice A3 N3 h3,.slice A4 N4 h4,.bool x.horizon.neg,.slice AH N5 h5,.slice AI N6 h6])
               rw[←hW13] at hr13 hb13 hs13 ⊢
               have hgl:gY<W13.heap.size:=by rw[hs13,HW12.out,HGY.out];simp
               have g1:=HBW11.out
               have g2:=HH.out.size
               have g3:=hb13.size
               have g4:=HO.out.lt
               have g5:=HGY.out
               have HB13:=zh hb13
               have HGN:=zh (show gY≠gP by omega)
               have HGL:=zh hgl
               have HR13:=zh hr13
               have HS25:=zh (show ∀w',Below W13.heap.size W13 w'→(fun w'=>w'.cell? ⟨gY,9,none⟩=some (.slice A1 N1 h1)∧w'.cell? ⟨gY,10,none⟩=some (.slice A2 N2 h2)) w' from fun w' hb=>by
                have hr:=range_same hr13 (hb.block gY hgl)
                exact⟨hr 9 _ rfl,hr 10 _ rfl⟩)
               have HI1:=zh (show ∀w',Below W13.heap.size W13 w'→IntS w' (Bl W13.heap.size) (.slice A1 N1 h1) x.models from fun w' hb=>(HL89.out.1.keep (fun b hb'=>(hb13.trans (hb.mono g3)).block b hb'.1)).mono (fun b hb'=>Nat.lt_of_lt_of_le hb'.1 g3))
               have HI2:=zh (show ∀w',Below W13.heap.size W13 w'→SlS 3 FrcK w' (Bl w'.heap.size) (.slice A2 N2 h2) x.repair from fun w' hb=>(SlS.keep frcK HL89.out.2.1 (fun b hb'=>(hb13.trans (hb.mono g3)).block b hb'.1)).mono frcK (fun b hb'=>Nat.lt_of_lt_of_le hb'.1 (Nat.le_trans g3 hb.size)))
               have HXM:=zh (show 0<x.models.length∧x.models.length≤100000∧∀y∈x.models,I64 y from by
                obtain⟨-,-,-,-,-,-,-,-,-,hm,-⟩:=HPW.out
                rcases hm with hm | hm <;> rw[hm] <;> refine⟨by simp,by simp,fun y hy=>?_⟩ <;> simp at hy <;> unfold I64 <;> omega)
               have HXR:=zh (show x.repair.length≤1000 from by
                obtain⟨-,-,hm,-,-,-,-,-,-,-,hr,-⟩:=HPW.out
                rw[hr,List.length_replicate];omega)
               have HRD:=zh (show ∀w',Below W13.heap.size W13 w'→RowA 17 PolK w' 55 gP kP F.pols (NotG Z w' gF gR gP) from fun w' hb=>RowA.onward polK HO.out (hot:=[]) (HotBy.below (hb13.trans (hb.mono g3))) (fun k hk=>by simp at hk))
               have HKC:=zh (show j * 17+17≤kP * 17 by have h8:=HO.out.room;have:=HJP.out;omega)
               have HFR:=zh (show ∀(w':World) (b:Nat),W13.heap.size≤b→b<w'.heap.size→NotG Z w' gF gR gP b from fun w' b h8 h9=>⟨h9,by omega,by omega,by omega,fun e=>by have:=HZ.out b e;omega⟩)
               obtain⟨c0,c1,c2,c3,c4,c5,c6⟩:=cells7 ((hb13.block gF (by omega)).trans HF.out)
               clear hb12 hth hr13 hb13 hs13 hW13 hgl g1 g2 g3 g4 g5 HRC HW12 HGY c0 c1 c2 c3 c4 c6
               go_upto_region 25 with fail
               clear c5
               refine region_tail (S:=(fun w'=>w'.cell? ⟨gY,9,none⟩=some (.slice A1 N1 h1)∧w'.cell? ⟨gY,10,none⟩=some (.slice A2 N2 h2))) [] (by kernel_rfl) (HS25.out _ (Below.refl _ _).drew) (fun hHeld=>?_)
               refine tk 0 115 ?_
               refine tk 1 116 ?_
               refine tk 2 117 ?_
               refine tk 3 118 ?_
               refine tk 5 120 ?_
               refine tk 6 121 ?_
               refine readyT (rs:=[4]) (by kernel_rfl) (by simp) ?_
               refine AllReadyT.cons rfl (fun K hK=>?_) ?_
               ·go_simp
                (go_at_call 81;refine(clone_int _ x.models _ (Bl W13.heap.size) (HI1.out _ (Below.refl _ _).drew) HXM.out.1 HXM.out.2.1).mono ?_;rintro e w14 ⟨v14,rfl,ho14,hb14⟩;have HB14:=zh (show Below W13.heap.size W13 w14 from((Below.refl _ _).drew:Below W13.heap.size W13 W13.drew).trans hb14);have hi14:IntS w14 (NotG Z w14 gF gR gP) v14 x.models:=IntS.own ho14 (fun b hb=>HFR.out _ b (ho14.lt b hb).1 (ho14.lt b hb).2) HXM.out.2.2;obtain⟨E1,M1,t1,rfl⟩:∃A n c,v14=.slice A n c:=by { obtain⟨A,c,e,-⟩:=hi14.1;exact⟨A,_,c,e⟩ };have HI14:=zh hi14;clear hi14 ho14 hb14)
                go_wp2_with fail
                refine hK.out _ _ ?_ (fun hHeld=>?_)
                ·exact HS25.out _ HB14.out
                clear hK K
                (try simp only[Act.put,z1,z2,z3])
                refine readyT (rs:=[7]) (by kernel_rfl) (by simp) ?_
                refine AllReadyT.cons rfl (fun K hK=>?_) ?_
                ·go_simp
                 (go_at_call 75;refine(pfracs_any _ x.repair _ (HI2.out _ HB14.out) HXR.out (fun x _=>⟨by have:=natL_length x.num;omega,by have:=natL_length x.den;omega⟩)).mono ?_;rintro e w15 ⟨g15,rfl,hg15,ho15,hb15⟩;obtain⟨NR,hNR⟩:=zx x.repair.length;rw[←hNR] at ho15 ⊢;have HB15:=zh (show Below W13.heap.size W13 w15 from HB14.out.trans (hb15.mono HB14.out.size));have HO15:=zh ho15;have HBX15:=zh hb15;have HG15:=zh hg15;have HNR:=zh hNR;have z1:=(HRD.out _ HB15.out).froze (j * 17+9);have z2:=(HRD.out _ HB15.out).froze (j * 17+10);obtain⟨x1,hx1⟩:=Option.isSome_iff_exists.1 ((HRD.out _ HB15.out).there (o:=j * 17) (m:=17) HKC.out 9 (by omega)).1;obtain⟨x2,hx2⟩:=Option.isSome_iff_exists.1 ((HRD.out _ HB15.out).there (o:=j * 17) (m:=17) HKC.out 10 (by omega)).1;clear ho15 hb15 hg15 hNR)
                 go_wp2_with fail
                 refine hK.out _ _ ?_ (fun hHeld=>?_)
                 ·exact HS25.out _ HB15.out
                 clear hK K
                 (try simp only[Act.put,z1,z2,z3])
                 refine tk 8 123 ?_
                 refine tk 9 124 ?_
                 refine readyT (rs:=[10]) (by kernel_rfl) (by simp) ?_
                 refine AllReadyT.cons rfl (fun K hK=>?_) ?_
                 ·go_simp
                  refine hK.out _ _ ?_ (fun hHeld=>?_)
                  ·exact setY (HS25.out _ HB15.out) HGN.out
                  clear hK K
                  (try simp only[Act.put,z1,z2,z3])
                  refine tk 11 125 ?_
                  refine tk 12 126 ?_
                  refine readyT (rs:=[13]) (by kernel_rfl) (by simp) ?_
                  refine AllReadyT.cons rfl (fun K hK=>?_) ?_
                  ·go_simp
                   refine hK.out _ _ ?_ (fun hHeld=>?_)
                   ·exact setY (setY (HS25.out _ HB15.out) HGN.out) HGN.out
                   clear hK K
                   (try simp only[Act.put,z1,z2,z3])
                   refine doneT (by kernel_rfl) ?_ _
                   clear hHeld
                   have hn:∀k,some k∈[some gP]→k=gF∨k=gR∨k=gP:=fun k hk=>by simp at hk;omega
                   have hra:∀(y:World) (i:Nat) (u:Value),NotG Z y gF gR gP=NotG Z (y.setCell ⟨gP,i,none⟩ u) gF gR gP:=fun y i u=>by funext b;unfold NotG;simp
                   have hfp:gF≠gP:=by have:=HBW11.out;have:=HGP.out;omega
                   have hbl:Below W12.heap.size W12 w15:=HB13.out.trans (HB15.out.mono HB13.out.size)
                   have hi15:IntS w15 (NotG Z w15 gF gR gP) (.slice E1 M1 t1) x.models:=(HI14.out.keep (NotG.kept (hot:=[]) (HotBy.below HBX15.out) (fun k hk=>by simp at hk))).mono (NotG.mono HBX15.out.size)
                   have hs15:SlS 3 FrcK w15 (NotG Z w15 gF gR gP) (.slice (some ⟨g15,0,none⟩) NR NR) x.repair:=OwnK.slS frcK HO15.out (fun b hb=>HFR.out _ b (Nat.le_trans HB14.out.size hb.1) hb.2.1) (fun b hb=>by have h1:=OwnK.lt HO15.out b hb;exact HFR.out _ b (Nat.le_trans HB14.out.size h1.1) h1.2)
                   obtain⟨X1,hX1⟩:=zx (w15.setCell ⟨gP,j * 17+9,none⟩ (.slice E1 M1 t1))
                   have a1:RowA 17 PolK X1 55 gP kP F.pols (NotG Z X1 gF gR gP):=by
                    rw[hX1,←hra]
                    exact RowA.same polK (HRD.out _ HB15.out) (k:=j) (o:=9) [.slice E1 M1 t1] HX.out (by simp) (fun b h=>h) (fun e=>e.2.2.2.1 rfl) (fun c h=>pol_models (fun b h=>h) hi15 c h)
                   have s1:SlS 3 FrcK X1 (NotG Z X1 gF gR gP) (.slice (some ⟨g15,0,none⟩) NR NR) x.repair:=by rw[hX1];exact SlS.onward frcK hs15 (HotBy.setCell [some gP] _ _ _ (by simp)) hn
                   have k1e:∀b,b≠gP→X1.heap[b]?=w15.heap[b]?:=fun b hb=>by rw[hX1];exact Below.heap_setCell _ _ _ _ hb
                   have o1:∀i,i≠j * 17+9→X1.cell? ⟨gP,i,none⟩=w15.cell? ⟨gP,i,none⟩:=fun i hi=>by rw[hX1];exact World.cell?_setCell_other _ ⟨gP,j * 17+9,none⟩ ⟨gP,i,none⟩ _ (by intro e;injection e with _ e2;omega)
                   have hx1z:X1.heap.size=w15.heap.size:=by rw[hX1];simp
                   have hx1f:X1.os=W12.os∧X1.tape=W12.tape∧X1.output=W12.output:=by rw[hX1];exact⟨hbl.os,hbl.tape,hbl.output⟩
                   have j1:HotBy [some gF] W11 X1:=by rw[hX1];exact(HH.out.trans (HotBy.below hbl)).setOf (.inr HGP.out) _ _
                   rw[←hX1]
                   clear hX1 hi15 hs15
                   obtain⟨W16,hW16⟩:=zx (X1.setCell ⟨gP,j * 17+10,none⟩ (.slice (some ⟨g15,0,none⟩) NR NR))
                   have a2:RowA 17 PolK W16 55 gP kP F.pols (NotG Z W16 gF gR gP):=by
                    rw[hW16,←hra]
                    exact RowA.same polK a1 (k:=j) (o:=10) [.slice (some ⟨g15,0,none⟩) NR NR] HX.out (by simp) (fun b h=>h) (fun e=>e.2.2.2.1 rfl) (fun c h=>pol_repair x.repair (fun b h=>h) s1 c h)
                   have k2e:∀b,b≠gP→W16.heap[b]?=w15.heap[b]?:=fun b hb=>by rw[hW16];exact(Below.heap_setCell _ _ _ _ hb).trans (k1e b hb)
                   have j2:HotBy [some gF] W11 W16:=by rw[hW16];exact j1.setOf (.inr HGP.out) _ _
                   have hz:W16.heap.size=w15.heap.size:=by rw[hW16];simpa using hx1z
                   have hc16:W16.cell? ⟨gP,j * 17+10,none⟩=some (.slice (some ⟨g15,0,none⟩) NR NR):=by
                    rw[hW16]
                    exact World.cell?_setCell_same' _ _ _ (a1.there (o:=j * 17) (m:=17) HKC.out 10 (by omega)).1
                   have hcc:∀k,k<j→W16.cell? ⟨gP,k * 17+10,none⟩=W12.cell? ⟨gP,k * 17+10,none⟩:=fun k h=>by
                    rw[hW16,World.cell?_setCell_other _ ⟨gP,j * 17+10,none⟩ ⟨gP,k * 17+10,none⟩ _ (by intro e;injection e with _ e2;omega),o1 _ (by omega)]
                    exact hbl.cell (p:=⟨gP,k * 17+10,none⟩) HO.out.lt
                   have hB15:B≤W13.heap.size:=Nat.le_trans HT.out.1 HB13.out.size
                   have hh16:HotBy [some gP] W12 W16:=⟨by rw[hW16];exact hx1f.1,by rw[hW16];exact hx1f.2.1,by rw[hW16];exact hx1f.2.2,by rw[hz];exact hbl.size,fun b hb hn=>(k2e b (fun e=>hn (by simp[e]))).trans (hbl.block b hb)⟩
                   have ht16:TightR W16 gP B F.pols (j+1):=fun k y hk hy=>by
                    rcases Nat.lt_or_ge k j with h | h
                    ·exact(TightR.onward HT.out.2 hcc hh16 (fun k hk=>by simp at hk;subst hk;exact HBB.out.1)) k y h hy
                    ·have hkj:k=j:=by omega
                     subst hkj
                     rw[HX.out] at hy
                     injection hy with hy
                     subst hy
                     rw[←HNR.out]
                     exact⟨g15,hc16,own_stay frcK HO15.out (Nat.le_trans hB15 HB14.out.size) (fun b hb _=>k2e b (by have:=HBB.out.1;omega)) (fun b hb=>⟨Nat.le_trans (Nat.le_trans hB15 HB14.out.size) hb.1,hb.2.1⟩) (fun b hb=>⟨Nat.le_trans (Nat.le_trans hB15 HB14.out.size) hb.1,by rw[hz];exact hb.2.1,hb.2.2⟩)⟩
                   have hbz:B≤W16.heap.size:=by rw[hz];exact Nat.le_trans hB15 HB15.out.size
                   rw[←hW16]
                   have hf16:FltB W16 gF EX (.slice (some ⟨gA,0,none⟩) 1 k1) (.slice A5 n5 q5) (.slice (some ⟨gD,0,none⟩) JD kD) (.slice A6 n6 q6) (.slice (some ⟨gP,0,none⟩) NP kP) (.slice A7 n7 q7):=(k2e gF hfp).trans (FltB.below HF.out hbl)
                   have hb16:∀b,b<W12.heap.size→b≠gP→W16.heap[b]?=W12.heap[b]?:=fun b hb hp=>(k2e b hp).trans (hbl.block b hb)
                   have hr16:W16.rangeAt gY 0 [.string x.name,.int .i64 x.k,.int .i64 x.m,.int .i64 x.q,.int .i64 0,.int .i64 0,.int .i64 0,.int .i64 x.s3,.int .i64 x.s4,.slice A1 N1 h1,.slice A2 N2 h2,.bool x.target.neg,.slice A3 N3 h3,.slice A4 N4 h4,.bool x.horizon.neg,.slice AH N5 h5,.slice AI N6 h6]:=range_same HR13.out ((k2e gY HGN.out).trans (HB15.out.block gY HGL.out))
                   have hgy:gY<W16.heap.size:=by rw[hz];exact Nat.lt_of_lt_of_le HGL.out HB15.out.size
                   have hle:W13.heap.size≤W16.heap.size:=by rw[hz];exact HB15.out.size
                   have hle12:W12.heap.size≤W16.heap.size:=by rw[hz];exact hbl.size
                   have HF16:=zh hf16
                   have HJ2:=zh j2
                   have HT16:=zh (And.intro hbz ht16)
                   have HLE16:=zh hle
                   have HRE:=zh (show ∀w',Below W16.heap.size W16 w'→RowA 17 PolK w' 55 gP kP F.pols (NotG Z w' gF gR gP) from fun w' hb=>RowA.onward polK a2 (hot:=[]) (HotBy.below hb) (fun k hk=>by simp at hk))
                   have HS26:=zh (show ∀w',Below W16.heap.size W16 w'→(fun w'=>w'.rangeAt gY 11 [.bool x.target.neg,.slice A3 N3 h3,.slice A4 N4 h4]∧w'.rangeAt gY 14 [.bool x.horizon.neg,.slice AH N5 h5,.slice AI N6 h6]) w' from fun w' hb=>⟨range_same (rangeAt_take (rangeAt_drop hr16 11) 3) (hb.block gY hgy),range_same (rangeAt_drop hr16 14) (hb.block gY hgy)⟩)
                   have hl6:∀(v:Value) (l:List Nat),LS W12 (NotG Z W12 gF gR gP) v l→∀w',Below W16.heap.size W16 w'→LS w' (Bl w'.heap.size) v l:=fun v l h w' hb=>(h.keep (fun b hb'=>(hb.block b (Nat.lt_of_lt_of_le hb'.1 hle12)).trans (hb16 b hb'.1 hb'.2.2.2.1))).mono (fun b hb'=>Nat.lt_of_lt_of_le hb'.1 (Nat.le_trans hle12 hb.size))
                   have HL6:=zh (show ∀w',Below W16.heap.size W16 w'→LS w' (Bl w'.heap.size) (.slice A3 N3 h3) (natL x.target.num)∧LS w' (Bl w'.heap.size) (.slice A4 N4 h4) (natL x.target.den)∧LS w' (Bl w'.heap.size) (.slice AH N5 h5) (natL x.horizon.num)∧LS w' (Bl w'.heap.size) (.slice AI N6 h6) (natL x.horizon.den) from fun w' hb=>⟨hl6 _ _ HL89.out.2.2.1 w' hb,hl6 _ _ HL89.out.2.2.2.1 w' hb,hl6 _ _ HL89.out.2.2.2.2.1 w' hb,hl6 _ _ HL89.out.2.2.2.2.2 w' hb⟩)
                   clear hW16 hc16 hcc hB15 hh16 hbz hx1f hn hra hfp hbl a1 s1 k1e o1 j1 a2 k2e j2 hz ht16 hf16 hb16 hr16 hgy hle hle12 hl6 hx1z x1 x2 hx1 hx2 z1 z2 HS25 HI1 HI2 HXM HXR HRD HB13 HB14 HB15 HBX15 HO15 HG15 HNR HI14 HL89 HR13 HT HO HF HH HGL
                   go_upto_region 26 with fail
                   refine region_tail (S:=(fun w'=>w'.rangeAt gY 11 [.bool x.target.neg,.slice A3 N3 h3,.slice A4 N4 h4]∧w'.rangeAt gY 14 [.bool x.horizon.neg,.slice AH N5 h5,.slice AI N6 h6])) [] (by kernel_rfl) (HS26.out _ (Below.refl _ _).drew) (fun hHeld=>?_)
                   refine tk 0 127 ?_
                   refine tk 1 128 ?_
                   refine tk 2 129 ?_
                   refine takeT (i:=3) (d:=130) (v:=(.agg #[.bool x.target.neg,.slice A3 N3 h3,.slice A4 N4 h4])) rfl rfl (by kernel_rfl) (by kernel_rfl) (by kernel_rfl) (by kernel_rfl) (fun _ _ _ h=>h) (yieldsIf_load_mid (by rfl) 26 (.tmp 129) rfl gY 11 (by rfl) [.bool x.target.neg,.slice A3 N3 h3,.slice A4 N4 h4] _ (fun w hw=>hw.1) Tryz.underlying26 rfl size_frac7) (by assumption) ?_
                   (try simp only[Act.put,z1,z2,z3])
                   refine tk 5 132 ?_
                   refine takeT (i:=6) (d:=133) (v:=(.agg #[.bool x.horizon.neg,.slice AH N5 h5,.slice AI N6 h6])) rfl rfl (by kernel_rfl) (by kernel_rfl) (by kernel_rfl) (by kernel_rfl) (fun _ _ _ h=>h) (yieldsIf_load_mid (by rfl) 26 (.tmp 132) rfl gY 14 (by rfl) [.bool x.horizon.neg,.slice AH N5 h5,.slice AI N6 h6] _ (fun w hw=>hw.2) Tryz.underlying26 rfl size_frac7) (by assumption) ?_
                   (try simp only[Act.put,z1,z2,z3])
                   refine readyT (rs:=[4]) (by kernel_rfl) (by simp) ?_
                   refine AllReadyT.cons rfl (fun K hK=>?_) ?_
                   ·go_simp
                    (go_at_call 34;refine(pfrac_any x.target.neg (.slice A3 N3 h3) (.slice A4 N4 h4) (natL x.target.num) (natL x.target.den) _ (HL6.out _ (Below.refl _ _).drew).1 (HL6.out _ (Below.refl _ _).drew).2.1 (by have:=natL_length x.target.num;omega) (by have:=natL_length x.target.den;omega)).mono ?_;rintro e w17 ⟨un,ud,rfl,hun,hud,hb17⟩;have HB17:=zh (show Below W16.heap.size W16 w17 from((Below.refl _ _).drew:Below W16.heap.size W16 W16.drew).trans hb17);obtain⟨E3,M3,t3,rfl⟩:=hun.frm;obtain⟨E4,M4,t4,rfl⟩:=hud.frm;have HU17:=zh (And.intro hun hud);clear hun hud hb17)
                    go_wp2_with fail
                    refine hK.out _ _ ?_ (fun hHeld=>?_)
                    ·exact HS26.out _ HB17.out
                    clear hK K
                    (try simp only[Act.put,z1,z2,z3])
                    refine readyT (rs:=[7]) (by kernel_rfl) (by simp) ?_
                    refine AllReadyT.cons rfl (fun K hK=>?_) ?_
                    ·go_simp
                     (go_at_call 34;refine(pfrac_any x.horizon.neg (.slice AH N5 h5) (.slice AI N6 h6) (natL x.horizon.num) (natL x.horizon.den) _ (HL6.out _ HB17.out).2.2.1 (HL6.out _ HB17.out).2.2.2 (by have:=natL_length x.horizon.num;omega) (by have:=natL_length x.horizon.den;omega)).mono ?_;rintro e w18 ⟨un,ud,rfl,hun,hud,hb18⟩;have HB18:=zh (show Below W16.heap.size W16 w18 from HB17.out.trans (hb18.mono HB17.out.size));obtain⟨E5,M5,t5,rfl⟩:=hun.frm;obtain⟨E6,M6,t6,rfl⟩:=hud.frm;have HU18:=zh (And.intro hun hud);have HBX18:=zh hb18;have HR18:=zh (HRE.out _ HB18.out);clear hun hud hb18)
                     go_wp2_with fail
                     refine hK.out _ _ ?_ (fun hHeld=>?_)
                     ·exact HS26.out _ HB18.out
                     clear hK K
                     (try simp only[Act.put,z1,z2,z3])
                     refine tk 8 135 ?_
                     refine tk 9 136 ?_
                     refine readyT (rs:=[10]) (by kernel_rfl) (by simp) ?_
                     refine AllReadyT.cons rfl (fun K hK=>?_) ?_
                     ·refine wp_store_mid 26 (.tmp 136) (.tmp 131) rfl gP (j * 17+11) #[.bool x.target.neg,.slice E3 M3 t3,.slice E4 M4 t4] (by rfl) (by rfl) (HR18.out.there (by have:=HKC.out;show j * 17+11+3≤kP * 17;omega)) size_frac7 (by simp[Value.oneCell']) ?_
                      refine hK.out _ _ ?_ (fun hHeld=>?_)
                      ·exact setZ (HS26.out _ HB18.out) HGN.out
                      clear hK K
                      (try simp only[Act.put,z1,z2,z3])
                      refine tk 11 137 ?_
                      refine tk 12 138 ?_
                      refine readyT (rs:=[13]) (by kernel_rfl) (by simp) ?_
                      refine AllReadyT.cons rfl (fun K hK=>?_) ?_
                      ·refine wp_store_mid 26 (.tmp 138) (.tmp 134) rfl gP (j * 17+14) #[.bool x.horizon.neg,.slice E5 M5 t5,.slice E6 M6 t6] (by rfl) (by rfl) (World.there_setCells (HR18.out.there (by have:=HKC.out;show j * 17+14+3≤kP * 17;omega)) _ _ _) size_frac7 (by simp[Value.oneCell']) ?_
                       refine hK.out _ _ ?_ (fun hHeld=>?_)
                       ·exact setZ (setZ (HS26.out _ HB18.out) HGN.out) HGN.out
                       clear hK K
                       (try simp only[Act.put,z1,z2,z3])
                       refine doneT (by kernel_rfl) ?_ _
                       clear hHeld
                       have hfp:gF≠gP:=by have:=HBW11.out;have:=HGP.out;omega
                       have fr:∀(y:World) (b:Nat),Fr W16.heap.size y.heap.size b→NotG Z y gF gR gP b:=fun y b hb=>HFR.out _ b (Nat.le_trans HLE16.out hb.1) hb.2
                       have l3:LS w18 (NotG Z w18 gF gR gP) (.slice E3 M3 t3) (natL x.target.num):=((HU17.out.1.mono (fr w17)).keep (NotG.kept (hot:=[]) (HotBy.below HBX18.out) (fun k hk=>by simp at hk))).mono (NotG.mono HBX18.out.size)
                       have l4:LS w18 (NotG Z w18 gF gR gP) (.slice E4 M4 t4) (natL x.target.den):=((HU17.out.2.mono (fr w17)).keep (NotG.kept (hot:=[]) (HotBy.below HBX18.out) (fun k hk=>by simp at hk))).mono (NotG.mono HBX18.out.size)
                       have fr2:∀b,Fr w17.heap.size w18.heap.size b→NotG Z w18 gF gR gP b:=fun b hb=>fr w18 b ⟨Nat.le_trans HB17.out.size hb.1,hb.2⟩
                       have hn:∀k,some k∈[some gP]→k=gF∨k=gR∨k=gP:=fun k hk=>by simp at hk;omega
                       obtain⟨X1,hX1⟩:=zx (World.setCells w18 gP (j * 17+11) [.bool x.target.neg,.slice E3 M3 t3,.slice E4 M4 t4])
                       have b1:RowA 17 PolK X1 55 gP kP F.pols (NotG Z X1 gF gR gP):=by
                        rw[hX1,notG_setCells]
                        exact RowA.same polK HR18.out (k:=j) (o:=11) [.bool x.target.neg,.slice E3 M3 t3,.slice E4 M4 t4] HX.out (by simp) (fun b h=>h) (fun e=>e.2.2.2.1 rfl) (fun c h=>pol_target x.target (fun b h=>h) l3 l4 c h)
                       have h1x:HotBy [some gP] w18 X1:=by rw[hX1];exact HotBy.setCells (.inl (by simp)) _ _ _ (HotBy.refl _ _)
                       have l5:LS X1 (NotG Z X1 gF gR gP) (.slice E5 M5 t5) (natL x.horizon.num):=((HU18.out.1.mono fr2).keep (NotG.kept h1x hn)).mono (NotG.mono h1x.size)
                       have l6:LS X1 (NotG Z X1 gF gR gP) (.slice E6 M6 t6) (natL x.horizon.den):=((HU18.out.2.mono fr2).keep (NotG.kept h1x hn)).mono (NotG.mono h1x.size)
                       have f1:FltB X1 gF EX (.slice (some ⟨gA,0,none⟩) 1 k1) (.slice A5 n5 q5) (.slice (some ⟨gD,0,none⟩) JD kD) (.slice A6 n6 q6) (.slice (some ⟨gP,0,none⟩) NP kP) (.slice A7 n7 q7):=by rw[hX1];exact(setCells_other _ _ _ _ hfp).trans (FltB.below HF16.out HB18.out)
                       have j1:HotBy [some gF] W11 X1:=by rw[hX1];exact HotBy.setCells (.inr HGP.out) _ _ _ (HJ2.out.trans (HotBy.below HB18.out))
                       have c1:∀k,k<j+1→X1.cell? ⟨gP,k * 17+10,none⟩=W16.cell? ⟨gP,k * 17+10,none⟩:=fun k hk=>by
                        rw[hX1,World.cell?_setCells_out gP _ _ _ _ (fun _ _=>.inl (show k * 17+10<j * 17+11 by omega))]
                        exact HB18.out.cell (p:=⟨gP,k * 17+10,none⟩) (HRE.out _ (Below.refl _ _)).lt
                       rw[←hX1]
                       clear hX1
                       obtain⟨X2,hX2⟩:=zx (World.setCells X1 gP (j * 17+14) [.bool x.horizon.neg,.slice E5 M5 t5,.slice E6 M6 t6])
                       have b2:RowA 17 PolK X2 55 gP kP F.pols (NotG Z X2 gF gR gP):=by
                        rw[hX2,notG_setCells]
                        exact RowA.same polK b1 (k:=j) (o:=14) [.bool x.horizon.neg,.slice E5 M5 t5,.slice E6 M6 t6] HX.out (by simp) (fun b h=>h) (fun e=>e.2.2.2.1 rfl) (fun c h=>pol_horizon (fun b h=>h) l5 l6 c h)
                       have f2:FltB X2 gF EX (.slice (some ⟨gA,0,none⟩) 1 k1) (.slice A5 n5 q5) (.slice (some ⟨gD,0,none⟩) JD kD) (.slice A6 n6 q6) (.slice (some ⟨gP,0,none⟩) NP kP) (.slice A7 n7 q7):=by rw[hX2];exact(setCells_other _ _ _ _ hfp).trans f1
                       have j2:HotBy [some gF] W11 X2:=by rw[hX2];exact HotBy.setCells (.inr HGP.out) _ _ _ j1
                       have h2x:HotBy [some gP] W16 X2:=by rw[hX2];exact HotBy.setCells (.inl (by simp)) _ _ _ ((HotBy.below HB18.out).trans h1x)
                       have t2:TightR X2 gP B F.pols (j+1):=TightR.onward HT16.out.2 (fun k hk=>by
                        rw[hX2,World.cell?_setCells_out gP _ _ _ _ (fun _ _=>.inl (show k * 17+10<j * 17+14 by omega)),c1 k hk]) h2x (fun k hk=>by simp at hk;subst hk;exact HBB.out.1)
                       have hbz:B≤X2.heap.size:=Nat.le_trans HT16.out.1 h2x.size
                       rw[←hX2]
                       have HB2:=zh b2
                       have HF2:=zh f2
                       have HJ3:=zh j2
                       have HT2:=zh (And.intro hbz t2)
                       clear hX2 h2x hbz hfp fr l3 l4 fr2 hn b1 h1x l5 l6 f1 j1 c1 b2 f2 j2 t2
                       go_wp2_with fail
                       go_roundg (NP - (j+1))
                       case measure=>omega
                       case rel=>exact⟨j+1,by omega,rfl,by go_num,HJ3,HF2,HB2,HT2⟩
                      exact AllReadyT.nil
                     exact AllReadyT.nil
                    exact AllReadyT.nil
                   exact AllReadyT.nil
                  exact AllReadyT.nil
                 exact AllReadyT.nil
                exact AllReadyT.nil
               exact AllReadyT.nil
              ·have hje:j=NP:=by omega
               subst hje
               have h1:=HBW11.out
               have h2:=HH.out.size
               have hgp:=HGP.out
               have hpl:=HO.out.lt
               have hfk:=HF.out
               have hrk:W12.heap[gR]?=some (.cells #[.int .i64 0,.slice none 0 0,.slice none 0 0,.slice none 0 0,.slice none 0 0,.slice none 0 0,.slice none 0 0] 35 (0,0)):=((HH11.out.trans HH.out).block gR (Array.getElem?_eq_some_iff.1 HRK.out).1 (by simp;have:=HG.out;omega)).trans HRK.out
               have hrf:W12.rangeAt gF 0 [.int .i64 EX,.slice (some ⟨gA,0,none⟩) 1 k1,.slice A5 n5 q5,.slice (some ⟨gD,0,none⟩) JD kD,.slice A6 n6 q6,.slice (some ⟨gP,0,none⟩) j kP,.slice A7 n7 q7]:=fun i v hv=>by rw[cell_of_row _ _ _ _ _ _ hfk,Nat.zero_add,←Array.getElem?_toList];exact hv
               have hth:W12.there gR 0 7:=there_new hrk (Nat.le_refl 7)
               have HRF:=zh hrf
               have HTH:=zh hth
               clear hrf hth hrk hfk
               go_upto_region 28 with fail
               refine wp_region_lit ?_
               refine wpList_load_mid rfl 35 (.tmp 1) rfl gF 0 (by rfl) [.int .i64 EX,.slice (some ⟨gA,0,none⟩) 1 k1,.slice A5 n5 q5,.slice (some ⟨gD,0,none⟩) JD kD,.slice A6 n6 q6,.slice (some ⟨gP,0,none⟩) j kP,.slice A7 n7 q7] _ HRF.out Tryz.underlying35 rfl size_fltE ?_
               (try simp only[Act.put,z1,z2,z3])
               refine wpList_store_mid rfl 35 (.tmp 2) (.tmp 140) rfl gR 0 #[.int .i64 EX,.slice (some ⟨gA,0,none⟩) 1 k1,.slice A5 n5 q5,.slice (some ⟨gD,0,none⟩) JD kD,.slice A6 n6 q6,.slice (some ⟨gP,0,none⟩) j kP,.slice A7 n7 q7] (by rfl) (by rfl) HTH.out size_fltE (by simp[Value.oneCell']) ?_
               (try simp only[Act.put,z1,z2,z3])
               have hgr:=World.rangeAt_setCells_same _ _ _ [.int .i64 EX,.slice (some ⟨gA,0,none⟩) 1 k1,.slice A5 n5 q5,.slice (some ⟨gD,0,none⟩) JD kD,.slice A6 n6 q6,.slice (some ⟨gP,0,none⟩) j kP,.slice A7 n7 q7] HTH.out
               have hkp:∀b,b≠gR→(World.setCells W12 gR 0 [.int .i64 EX,.slice (some ⟨gA,0,none⟩) 1 k1,.slice A5 n5 q5,.slice (some ⟨gD,0,none⟩) JD kD,.slice A6 n6 q6,.slice (some ⟨gP,0,none⟩) j kP,.slice A7 n7 q7]).heap[b]?=W12.heap[b]?:=fun b hb=>setCells_other _ _ _ _ hb
               have hsz:=setCells_sizeK (g:=gR) [.int .i64 EX,.slice (some ⟨gA,0,none⟩) 1 k1,.slice A5 n5 q5,.slice (some ⟨gD,0,none⟩) JD kD,.slice A6 n6 q6,.slice (some ⟨gP,0,none⟩) j kP,.slice A7 n7 q7] 0 W12
               have hfl:=setCells_flat (g:=gR) [.int .i64 EX,.slice (some ⟨gA,0,none⟩) 1 k1,.slice A5 n5 q5,.slice (some ⟨gD,0,none⟩) JD kD,.slice A6 n6 q6,.slice (some ⟨gP,0,none⟩) j kP,.slice A7 n7 q7] 0 W12
               obtain⟨W13,hW13⟩:=zx (World.setCells W12 gR 0 [.int .i64 EX,.slice (some ⟨gA,0,none⟩) 1 k1,.slice A5 n5 q5,.slice (some ⟨gD,0,none⟩) JD kD,.slice A6 n6 q6,.slice (some ⟨gP,0,none⟩) j kP,.slice A7 n7 q7])
               rw[←hW13] at hgr hkp hsz hfl ⊢
               clear hW13
               go_wp2_with fail
               have hall:=HH11.out.trans HH.out
               have hb13:Below w.heap.size w W13:=by
                have hw1:=HB1.out
                refine⟨hfl.1.trans (hall.os.trans hw1.os),hfl.2.1.trans (hall.tape.trans hw1.tape),hfl.2.2.trans (hall.output.trans hw1.output),by rw[hsz];omega,fun b hb=>?_⟩
                rw[hkp b (by omega)]
                exact(hall.block b (by have:=hw1.size;omega) (by simp;omega)).trans (hw1.block b hb)
               have hkr:∀b,NotG Z W11 gF gR gR b→W13.heap[b]?=W11.heap[b]?:=fun b hb=>(hkp b hb.2.2.1).trans (HH.out.block b hb.1 (by simp;exact hb.2.1))
               have hmr:∀b,NotG Z W11 gF gR gR b→NotG Z W13 gP gP gP b:=fun b hb=>⟨by rw[hsz];exact Nat.lt_of_lt_of_le hb.1 h2,by have:=hb.1;omega,by have:=hb.1;omega,by have:=hb.1;omega,hb.2.2.2.2⟩
               have hpa:RowA 17 PolK W13 55 gP kP F.pols (NotG Z W13 gP gP gP):=(HO.out.keep polK (fun b hb=>hkp b hb.2.2.1) (hkp gP (by omega))).mono polK (fun b hb=>⟨by rw[hsz];exact hb.1,hb.2.2.2.1,hb.2.2.2.1,hb.2.2.2.1,hb.2.2.2.2⟩) (fun e=>e.2.1 rfl)
               have hld:=run_loadVar_mid (P:=Tryz.prog) W13 gR 0 35 _ _ hgr Tryz.underlying35 rfl size_fltE
               have hh13:HotBy [some gR] W12 W13:=⟨hfl.1,hfl.2.1,hfl.2.2,by rw[hsz];exact Nat.le_refl _,fun b hb hn=>hkp b (fun e=>hn (by simp[e]))⟩
               have ht:∃B,gP<B∧TightR W13 gP B F.pols F.pols.length:=⟨B,HBB.out.1,by
                rw[←HNP.out.1]
                exact TightR.onward HT.out.2 (fun k hk=>World.cell?_of_block (a:=⟨gP,k * 17+10,none⟩) (hkp gP (by omega))) hh13 (fun k hk=>by simp at hk;subst hk;exact HBB.out.2.2.1)⟩
               refine bodyPost_ret (v:=.agg #[.int .i64 EX,.slice (some ⟨gA,0,none⟩) 1 k1,.slice A5 n5 q5,.slice (some ⟨gD,0,none⟩) JD kD,.slice A6 n6 q6,.slice (some ⟨gP,0,none⟩) j kP,.slice A7 n7 q7]) (by simp[results,Tryz.results33,asAddr,hld]) rfl ⟨_,_,_,_,_,gP,kP,by rw[←HNP.out.1],⟨?_,?_,?_,?_,?_,hpa,ht⟩,by omega,hb13⟩
               ·exact(SlS.keep lawK HFO11.out.laws hkr).mono lawK hmr
               ·exact(SlS.keep modK HFO11.out.models hkr).mono modK hmr
               ·exact(SlS.keep domK HSD.out hkr).mono domK hmr
               ·exact(SlS.keep dveK HFO11.out.dves hkr).mono dveK hmr
               ·exact(SlS.keep volK HFO11.out.vols hkr).mono volK hmr
          exact AllReadyT.nil
         exact AllReadyT.nil
        exact AllReadyT.nil
       exact AllReadyT.nil
      exact AllReadyT.nil
     exact AllReadyT.nil
    exact AllReadyT.nil
   exact AllReadyT.nil
end Go.Proofs.YtgfaieppacabjaaGreat
