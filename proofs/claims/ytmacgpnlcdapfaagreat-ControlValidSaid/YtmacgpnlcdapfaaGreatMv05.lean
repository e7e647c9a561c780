/- The drives of a site: blank drives, walked. -/
import Derived.Shelf.Strings.Repeat
import Derived.BigQuiet
import Derived.Deep.QuietTactic
import Derived.Deep.MidRow
import Derived.Test.YtmacgpnlcdapfaaGreatRows
import Derived.Test.YtmacgpnlcdapfaaGreatChecked
import Derived.Test.YtmacgpnlcdapfaaGreatMv01
import Derived.Test.YtmacgpnlcdapfaaGreatMv03
import Derived.Test.YtmacgpnlcdapfaaGreatMv02
set_option linter.unusedSectionVars false
set_option maxRecDepth 100000
set_option maxHeartbeats 12800000
namespace Go.Proofs.YtmacgpnlcdapfaaGreat
open Go.RowKit Go.Shelf
set_option linter.unusedVariables false
set_option linter.unusedSimpArgs false
def repRen:Go.Shelf.Ren:=⟨fun | 105=>114 | 212=>144 | 99=>170 | 165=>171 | 166=>172 | 170=>173 | 169=>174 | 263=>187 | 264=>188 | 206=>216 | 240=>217 | 241=>218 | 276=>242 | 277=>243 | n=>n,fun | 9=>9 | 3=>3 | 4=>4 | 20=>20 | 0=>0 | 46=>239 | 109=>265 | 5=>5 | 72=>306 | 76=>310 | 51=>234 | 146=>316 | 53=>181 | 148=>318 | 70=>304 | 37=>107 | 75=>309 | 127=>341 | 164=>363 | 80=>183 | n=>n,fun n=>n⟩
theorem repLays:Go.Proofs.Lays.n105 Tryz.prog repRen:={
 mixed:=by kernel_rfl
 f99:=Tryz.func170.trans (congrArg some (by kernel_rfl))
 f105:=Tryz.func114.trans (congrArg some (by kernel_rfl))
 f165:=Tryz.func171.trans (congrArg some (by kernel_rfl))
 f166:=Tryz.func172.trans (congrArg some (by kernel_rfl))
 f169:=Tryz.func174.trans (congrArg some (by kernel_rfl))
 f170:=Tryz.func173.trans (congrArg some (by kernel_rfl))
 f206:=Tryz.func216.trans (congrArg some (by kernel_rfl))
 f212:=Tryz.func144.trans (congrArg some (by kernel_rfl))
 f240:=Tryz.func217.trans (congrArg some (by kernel_rfl))
 f241:=Tryz.func218.trans (congrArg some (by kernel_rfl))
 f263:=Tryz.func187.trans (congrArg some (by kernel_rfl))
 f264:=Tryz.func188.trans (congrArg some (by kernel_rfl))
 f276:=Tryz.func242.trans (congrArg some (by kernel_rfl))
 f277:=Tryz.func243.trans (congrArg some (by kernel_rfl))
 t0:=Tryz.underlying0
 a0:=Tryz.isAgg0
 z0:=Tryz.sizeOf0
 v0:=Tryz.zeroValue0
 t3:=Tryz.underlying3
 a3:=Tryz.isAgg3
 z3:=Tryz.sizeOf3
 v3:=Tryz.zeroValue3
 t4:=Tryz.underlying4
 a4:=Tryz.isAgg4
 z4:=Tryz.sizeOf4
 v4:=Tryz.zeroValue4
 t5:=Tryz.underlying5
 a5:=Tryz.isAgg5
 z5:=Tryz.sizeOf5
 v5:=Tryz.zeroValue5
 t9:=Tryz.underlying9
 a9:=Tryz.isAgg9
 z9:=Tryz.sizeOf9
 v9:=Tryz.zeroValue9
 t20:=Tryz.underlying20
 a20:=Tryz.isAgg20
 z20:=Tryz.sizeOf20
 v20:=Tryz.zeroValue20
 t37:=Tryz.underlying107
 a37:=Tryz.isAgg107
 z37:=Tryz.sizeOf107
 v37:=Tryz.zeroValue107
 t46:=Tryz.underlying239
 a46:=Tryz.isAgg239
 z46:=Tryz.sizeOf239
 v46:=Tryz.zeroValue239
 t51:=Tryz.underlying234
 a51:=Tryz.isAgg234
 z51:=Tryz.sizeOf234
 v51:=Tryz.zeroValue234
 t53:=Tryz.underlying181
 a53:=Tryz.isAgg181
 z53:=Tryz.sizeOf181
 v53:=Tryz.zeroValue181
 t70:=Tryz.underlying304
 a70:=Tryz.isAgg304
 z70:=Tryz.sizeOf304
 v70:=Tryz.zeroValue304
 t72:=Tryz.underlying306
 a72:=Tryz.isAgg306
 z72:=Tryz.sizeOf306
 v72:=Tryz.zeroValue306
 t75:=Tryz.underlying309
 a75:=Tryz.isAgg309
 z75:=Tryz.sizeOf309
 v75:=Tryz.zeroValue309
 t76:=Tryz.underlying310
 a76:=Tryz.isAgg310
 z76:=Tryz.sizeOf310
 v76:=Tryz.zeroValue310
 t109:=Tryz.underlying265
 a109:=Tryz.isAgg265
 z109:=Tryz.sizeOf265
 v109:=Tryz.zeroValue265
 t127:=Tryz.underlying341
 a127:=Tryz.isAgg341
 z127:=Tryz.sizeOf341
 v127:=Tryz.zeroValue341
 t146:=Tryz.underlying316
 a146:=Tryz.isAgg316
 z146:=Tryz.sizeOf316
 v146:=Tryz.zeroValue316
 t148:=Tryz.underlying318
 a148:=Tryz.isAgg318
 z148:=Tryz.sizeOf318
 v148:=Tryz.zeroValue318
 t164:=Tryz.underlying363
 a164:=Tryz.isAgg363
 z164:=Tryz.sizeOf363
 v164:=Tryz.zeroValue363 }
theorem repX:Builder.Extra Tryz.prog repRen where
 sizeBuilder:=by kernel_rfl
 liesBuilder:=by kernel_rfl
 t5:=repLays.t5
 a5:=repLays.a5
 z5:=repLays.z5
 v5:=repLays.v5
 infoByte:=by kernel_rfl
 cellsByte:=by kernel_rfl
 sizeByte:=by kernel_rfl
 neB5:=by decide
theorem frepeat:repRen.f 105=114:=by kernel_rfl
theorem repeat_any(w:World):Calls Tryz.prog 114 #[.string ⟨#[0]⟩,.int .i64 36] w fun e w'=>∃s:ByteArray,e=.returned (.string s)∧Below w.heap.size w w':=by
 have h1:(ByteArray.mk #[0]).size=1:=rfl
 have h:=Any.strings_Repeat repLays repX ⟨#[0]⟩ 36 w (by omega) (by rw[h1];omega)
 have e:((36:Nat):Int)=36:=rfl
 rw[frepeat,e] at h
 exact h.mono fun e w' ⟨he,hw⟩=>⟨_,he,hw⟩
theorem zero_any(w:World):Calls Tryz.prog 58 #[] w fun e w'=>∃s:ByteArray,e=.returned (.string s)∧Below w.heap.size w w':=by
 have HR:=zh (repeat_any w)
 go_enter Tryz.func58,Tryz.ntmps58
 go_wp2_with fail
 refine HR.out.mono ?_
 rintro e w1 ⟨s,rfl,hb⟩
 go_wp2_with fail
 go_ret
 exact⟨s,rfl,hb⟩
theorem size_cell:(Tryz.prog.info? 185).map (·.size)=some 3:=by kernel_rfl
def RowC(w:World) (g n:Nat):Prop:=∃cs:Array Value,w.heap[g]?=some (.cells cs 185 (0,0))∧cs.size=n
theorem RowC.set{w:World} {g n:Nat} (h:RowC w g n) (i:Nat) (u:Value):RowC (w.setCell ⟨g,i,none⟩ u) g n:=by
 obtain⟨cs,h1,h2⟩:=h
 exact⟨_,heap_setCell_same w g i _ _ u h1,by simpa using h2⟩
theorem RowC.there{w:World} {g n:Nat} (h:RowC w g n) (o:Nat) (ho:o+3≤n):w.there g o 3:=by
 obtain⟨cs,h1,h2⟩:=h
 intro j hj
 exact⟨by rw[cell_of_row _ _ _ _ _ _ h1,Array.getElem?_eq_getElem (by omega)];rfl,frozen_of_row _ _ _ _ _ h1⟩
def HeldW(W0:World) (gD gC NR:Nat) (w':World):Prop:=w'.cell? ⟨gD,1,none⟩=some (.slice (some ⟨gC,0,none⟩) NR NR)∧RowC w' gC (NR * 3)∧(∀b,b<W0.heap.size→b≠gC→w'.heap[b]?=W0.heap[b]?)∧W0.heap.size≤w'.heap.size∧w'.os=W0.os∧w'.tape=W0.tape∧w'.output=W0.output∧gD≠gC
theorem HeldW.below{W0 wc w2:World} {gD gC NR:Nat} (h:HeldW W0 gD gC NR wc) (hb:Below wc.heap.size wc w2) (h1:gD<W0.heap.size) (h2:gC<W0.heap.size):HeldW W0 gD gC NR w2:=by
 obtain⟨d0,⟨cs,d1,d2⟩,d3,d4,d5,d6,d7,d8⟩:=h
 exact⟨(hb.cell (p:=⟨gD,1,none⟩) (Nat.lt_of_lt_of_le h1 d4)).trans d0,⟨cs,(hb.block gC (Nat.lt_of_lt_of_le h2 d4)).trans d1,d2⟩,fun b hb1 hb2=>(hb.block b (Nat.lt_of_lt_of_le hb1 d4)).trans (d3 b hb1 hb2),Nat.le_trans d4 hb.size,hb.os.trans d5,hb.tape.trans d6,hb.output.trans d7,d8⟩
theorem HeldW.there{W0 wc:World} {gD gC NR j:Nat} (h:HeldW W0 gD gC NR wc) (hj:j<NR):wc.there gC (j * 3) 3:=h.2.1.there _ (by omega)
theorem HeldW.store{W0 wc:World} {gD gC NR:Nat} (h:HeldW W0 gD gC NR wc) (j:Nat) (a b c:Value) (h2:gC<W0.heap.size):HeldW W0 gD gC NR (wc.setCells gC (j * 3) [a,b,c]):=by
 obtain⟨d0,d1,d3,d4,d5,d6,d7,d8⟩:=h
 have hne:∀x,x≠gC→(wc.setCells gC (j * 3) [a,b,c]).heap[x]?=wc.heap[x]?:=fun x hx=>by
  simp only[World.setCells]
  rw[heap_setCell_other _ _ _ _ hx,heap_setCell_other _ _ _ _ hx,heap_setCell_other _ _ _ _ hx]
 refine⟨(World.cell?_of_block (w:=wc) (hne gD d8)).trans d0,?_,fun x h1 h3=>(hne x h3).trans (d3 x h1 h3),?_,?_,?_,?_,d8⟩
 ·simp only[World.setCells]
  exact((d1.set _ _).set _ _).set _ _
 ·simpa[World.setCells] using d4
 ·exact d5
 ·exact d6
 ·exact d7
theorem wipe_any(gD gC NR:Nat) (w:World) (hD:w.cell? ⟨gD,1,none⟩=some (.slice (some ⟨gC,0,none⟩) NR NR)) (hC:RowC w gC (NR * 3)) (h1:gD<w.heap.size) (h2:gC<w.heap.size) (hne:gD≠gC) (hn:NR≤1000) :
  Calls Tryz.prog 23 #[.pointer (some ⟨gD,0,none⟩)] w fun e w'=>e=.returned (.tuple #[])∧HeldW w gD gC NR w':=by
 have HH:=zh (show HeldW w gD gC NR w from⟨hD,hC,fun _ _ _=>rfl,Nat.le_refl _,rfl,rfl,rfl,hne⟩)
 have HGL:=zh (And.intro h1 h2)
 clear hC h1 h2 hne
 obtain⟨W0,hW0⟩:=zx w
 have HWE:=zh hW0
 go_enter Tryz.func23,Tryz.ntmps23
 go_wp2_with fail
 clear hD
 rw[←hW0] at HH HGL ⊢
 clear hW0
 go_loopg [8] NR (fun z v8 wr=>∃j:Nat,j≤NR∧z=NR - j∧v8=.int .i64 (j:Int)∧Hid (HeldW W0 gD gC NR wr))
 case atStart=>exact⟨0,by omega,rfl,rfl,HH.out⟩
 case round =>
  obtain⟨j,hj,rfl,rfl,HR⟩:=hrel
  by_cases hlt:j<NR
  ·have HS0:=zh (show HeldW W0 gD gC NR wr.drew from HR.out.below ((Below.refl _ _).drew) HGL.out.1 HGL.out.2)
   have HLT:=zh hlt
   have i1:(j:Int)<(NR:Int):=by omega
   go_upto_region 3 with fail
   refine region_tail (S:=(fun w'=>w'.cell? ⟨gD,1,none⟩=some (.slice (some ⟨gC,0,none⟩) NR NR)∧RowC w' gC (NR * 3)∧(∀b,b<W0.heap.size→b≠gC→w'.heap[b]?=W0.heap[b]?)∧W0.heap.size≤w'.heap.size∧w'.os=W0.os∧w'.tape=W0.tape∧w'.output=W0.output∧gD≠gC)) [8] (by kernel_rfl) HS0.out (fun hHeld=>?_)
   refine tk 0 11 ?_
   refine tk 4 15 ?_
   refine readyT (rs:=[1,5]) (by kernel_rfl) (by simp) ?_
   refine AllReadyT.cons rfl (fun K hK=>?_) ?_
   ·go_simp
    refine hK.out _ _ ?_ (fun hHeld=>?_)
    ·(first|exact HeldW.below (by assumption) hb5 HGL.out.1 HGL.out.2|assumption)
    clear hK K
    (try simp only[Act.put,z1,z2,z3])
    refine tk 2 13 ?_
    refine tk 3 14 ?_
    refine readyT (rs:=[5]) (by kernel_rfl) (by simp) ?_
    refine AllReadyT.cons rfl (fun K hK=>?_) ?_
    ·go_simp
     (go_at_call 58;refine(zero_any _).mono ?_;rintro e w5 ⟨s,rfl,hb5⟩)
     go_wp2_with fail
     refine hK.out _ _ ?_ (fun hHeld=>?_)
     ·(first|exact HeldW.below (by assumption) hb5 HGL.out.1 HGL.out.2|assumption)
     clear hK K
     (try simp only[Act.put,z1,z2,z3])
     refine tk 6 17 ?_
     refine tk 7 18 ?_
     refine readyT (rs:=[8]) (by kernel_rfl) (by simp) ?_
     refine AllReadyT.consT rfl rfl (fun K hK=>?_) ?_
     ·rw[if_pos (by rfl)]
      have hth:=HeldW.there hHeld HLT.out
      refine wp_store_mid 185 (.tmp 18) (.tmp 17) rfl gC (j * 3) #[.string s,.bool false,.bool false] (by rfl) (by rfl) hth size_cell (by simp[Value.oneCell']) ?_
      refine hK.out _ _ ?_
      clear hK K
      (try simp only[Act.put,z1,z2,z3])
      refine doneT (by kernel_rfl) ?_ _
      have HN:=zh (HeldW.store hHeld j (.string s) (.bool false) (.bool false) HGL.out.2)
      clear hHeld hb5
      go_wp2_with fail
      go_roundg (NR - (j+1))
      case measure=>omega
      case rel=>exact⟨j+1,by omega,rfl,by go_num,HN⟩
     exact AllReadyT.nil
    exact AllReadyT.nil
   refine AllReadyT.cons rfl (fun K hK=>?_) ?_
   ·go_simp
    (go_at_call 58;refine(zero_any _).mono ?_;rintro e w5 ⟨s,rfl,hb5⟩)
    go_wp2_with fail
    refine hK.out _ _ ?_ (fun hHeld=>?_)
    ·(first|exact HeldW.below (by assumption) hb5 HGL.out.1 HGL.out.2|assumption)
    clear hK K
    (try simp only[Act.put,z1,z2,z3])
    refine tk 6 17 ?_
    refine readyT (rs:=[1]) (by kernel_rfl) (by simp) ?_
    refine AllReadyT.cons rfl (fun K hK=>?_) ?_
    ·go_simp
     refine hK.out _ _ ?_ (fun hHeld=>?_)
     ·(first|exact HeldW.below (by assumption) hb5 HGL.out.1 HGL.out.2|assumption)
     clear hK K
     (try simp only[Act.put,z1,z2,z3])
     refine tk 2 13 ?_
     refine tk 3 14 ?_
     refine tk 7 18 ?_
     refine readyT (rs:=[8]) (by kernel_rfl) (by simp) ?_
     refine AllReadyT.consT rfl rfl (fun K hK=>?_) ?_
     ·rw[if_pos (by rfl)]
      have hth:=HeldW.there hHeld HLT.out
      refine wp_store_mid 185 (.tmp 18) (.tmp 17) rfl gC (j * 3) #[.string s,.bool false,.bool false] (by rfl) (by rfl) hth size_cell (by simp[Value.oneCell']) ?_
      refine hK.out _ _ ?_
      clear hK K
      (try simp only[Act.put,z1,z2,z3])
      refine doneT (by kernel_rfl) ?_ _
      have HN:=zh (HeldW.store hHeld j (.string s) (.bool false) (.bool false) HGL.out.2)
      clear hHeld hb5
      go_wp2_with fail
      go_roundg (NR - (j+1))
      case measure=>omega
      case rel=>exact⟨j+1,by omega,rfl,by go_num,HN⟩
     exact AllReadyT.nil
    exact AllReadyT.nil
   exact AllReadyT.nil
  ·go_wp2_with fail
   go_end0
   exact⟨rfl,by rw[←HWE.out];exact HR.out⟩
def DrvB(w:World) (g:Nat) (claim:Int):Prop:=∃v1 v2 v3 v4 v5:Value,w.heap[g]?=some (.cells #[.int .i64 claim,v1,v2,v3,v4,v5] 113 (0,0))
theorem DrvB.keep{w w':World} {g:Nat} {c:Int} (h:DrvB w g c) (e:w'.heap[g]?=w.heap[g]?):DrvB w' g c:=by
 obtain⟨v1,v2,v3,v4,v5,h⟩:=h
 exact⟨v1,v2,v3,v4,v5,e.trans h⟩
theorem DrvB.cell{w:World} {g:Nat} {c:Int} (h:DrvB w g c):w.cell? ⟨g,0,none⟩=some (.int .i64 c):=by
 obtain⟨v1,v2,v3,v4,v5,h⟩:=h
 rw[cell_of_row _ _ _ _ _ _ h];rfl
theorem info_cell:(Tryz.prog.info? 185).map (fun i=>(i.zero,i.size,i.bytes))=some (some (.agg #[.string ⟨#[]⟩,.bool false,.bool false]),3,24):=by kernel_rfl
theorem mk_cells(n:Nat) (hn:n≤1000):∃cs:Array Value,cs.size=n * 3∧∀w:World,(Instr.makeSlice 110 (.int .i64 (n:Int)) (.int .i64 (n:Int))).run Tryz.prog w=.ok (.slice (some ⟨w.heap.size,0,none⟩) n n) (w.alloc (.cells cs 185)):=by
 obtain⟨i0,hi0,hz0,hz1,hz2⟩:=info_parts info_cell
 refine⟨madeCells (Value.agg #[.string ⟨#[]⟩,.bool false,.bool false]).cells (n * 3),size_madeCells _ _,fun w=>?_⟩
 have h:=run_make (P:=Tryz.prog) w 110 185 i0 _ Tryz.underlying110 hi0 hz0 .i64 .i64 (n:Int) (n:Int) (by omega) (by omega) (by rw[hz2];omega) (by omega)
 rw[hz1] at h
 simpa using h
theorem claim_any(g:Nat) (c:Int) (w:World) (h:DrvB w g c):Calls Tryz.prog 17 #[.pointer (some ⟨g,0,none⟩)] w fun e w'=>e=.returned (.int .i64 c)∧w=w':=by
 have h0:=h.cell
 clear h
 go_enter Tryz.func17,Tryz.ntmps17
 go_wp2_with fail
 go_ret
 exact⟨rfl,rfl⟩
theorem jnew_any(w:World):Calls Tryz.prog 14 #[] w fun e w'=>e=.returned (.pointer (some ⟨w.heap.size,0,none⟩))∧Below w.heap.size w w'∧w.heap.size<w'.heap.size:=by
 obtain⟨g,hg⟩:=zx w.heap.size
 have HG:=zh hg
 have HB:=zh (fun(o:Obj)=>(show Below w.heap.size w (w.alloc o)∧w.heap.size<(w.alloc o).heap.size from⟨(Below.refl _ _).alloc (Nat.le_refl _) _,by simp⟩))
 clear hg
 go_enter Tryz.func14,Tryz.ntmps14
 go_wp2_with fail
 go_ret
 exact⟨rfl,(HB.out _).1,(HB.out _).2⟩
theorem dnew_any(claim real:Nat) (w:World) (h1:1≤real) (h2:real≤claim) (h3:claim≤128) :
  Calls Tryz.prog 15 #[.int .i64 (claim:Int),.int .i64 (real:Int)] w fun e w'=>∃g,e=.returned (.tuple #[.pointer (some ⟨g,0,none⟩),.int .i64 0])∧w.heap.size≤g∧DrvB w' g (claim:Int)∧Below w.heap.size w w':=by
 obtain⟨cs,hcs,hmk⟩:=mk_cells real (by omega)
 obtain⟨W0,hW0⟩:=zx ((w.alloc (.cells cs 185)).alloc (.cells #[.int .i64 (claim:Int),.slice (some ⟨w.heap.size,0,none⟩) real real,.bool false,.bool false,.int .i64 0,.slice none 0 0] 113))
 obtain⟨gC,hgC⟩:=zx w.heap.size
 obtain⟨gD,hgD⟩:=zx (w.heap.size+1)
 have hb0:Below w.heap.size w W0:=by rw[hW0];exact((Below.refl _ _).alloc (Nat.le_refl _) _).alloc (by simp) _
 have hdk:W0.heap[gD]?=some (.cells #[.int .i64 (claim:Int),.slice (some ⟨gC,0,none⟩) real real,.bool false,.bool false,.int .i64 0,.slice none 0 0] 113 (0,0)):=by
  rw[hW0,hgC];exact heap_alloc_at _ _ _ (by rw[hgD];simp)
 have hck:W0.heap[gC]?=some (.cells cs 185 (0,0)):=by
  rw[hW0,hgC];exact(Below.heap_alloc _ _ _ (by simp)).trans (heap_alloc_new w _)
 have hdl:gD<W0.heap.size:=(Array.getElem?_eq_some_iff.1 hdk).1
 have hcl:gC<W0.heap.size:=(Array.getElem?_eq_some_iff.1 hck).1
 have HWI:=zh (wipe_any gD gC real W0 (by rw[cell_of_row _ _ _ _ _ _ hdk];rfl) ⟨cs,hck,hcs⟩ hdl hcl (by omega) (by omega))
 have HDK:=zh hdk
 have HW0:=zh hW0
 have HG:=zh (And.intro hgC hgD)
 have HB0:=zh hb0
 have HDL:=zh (And.intro hdl hcl)
 have q1:((real:Int)<1)=False:=by simp;omega
 have q2:((claim:Int)<(real:Int))=False:=by simp;omega
 have q3:((128:Int)<(claim:Int))=False:=by simp;omega
 clear hW0 hb0 hdk hck hdl hcl hcs h1 h2 h3 hgC hgD
 go_enter Tryz.func15,Tryz.ntmps15
 go_upto_region 4 with fail
 rw[←HW0.out,←HG.out.2,←HG.out.1]
 go_wp2_with fail
 refine HWI.out.mono ?_
 rintro e w1 ⟨rfl,hw1⟩
 obtain⟨-,-,d3,d4,d5,d6,d7,d8⟩:=hw1
 have hd:=(d3 gD HDL.out.1 d8).trans HDK.out
 have hbw:Below w.heap.size w w1:=⟨d5.trans HB0.out.os,d6.trans HB0.out.tape,d7.trans HB0.out.output,Nat.le_trans HB0.out.size d4,fun b hb=>(d3 b (Nat.lt_of_lt_of_le hb HB0.out.size) (by have:=HG.out.1;omega)).trans (HB0.out.block b hb)⟩
 have HD:=zh (show DrvB w1 gD (claim:Int) from⟨_,_,_,_,_,hd⟩)
 have HBW:=zh hbw
 clear d3 d4 d5 d6 d7 d8 hd hbw hmk
 go_wp2_with fail
 go_ret2
 exact⟨gD,rfl,by have:=HG.out.2;omega,HD.out,HBW.out⟩
end Go.Proofs.YtmacgpnlcdapfaaGreat

namespace Go.Proofs.YtmacgpnlcdapfaaGreat
open Go.RowKit
set_option linter.unusedVariables false
set_option linter.unusedSimpArgs false
theorem nlength_any(v:Value) (l:List Nat) (R:Nat→Prop) (w:World) (h:LS w R v l) (hl:l.length≤1048576) :
  Calls Tryz.prog 175 #[v] w fun e w'=>e=.returned (.int .i64 ((trimL l).length:Int))∧w=w':=by
 rcases h.1 with ⟨rfl,rfl⟩ | ⟨b,off,c,rfl,hlc,hcm,hRb,hcs⟩
 ·clear h
  go_enter Tryz.func175,Tryz.ntmps175
  go_wp2_with fail
  go_loopg [3] 0 (fun z v3 wr=>w=wr∧v3=.int .i64 0)
  case atStart=>exact⟨rfl,rfl⟩
  case round =>
   obtain⟨rfl,rfl⟩:=hrel
   go_wp2_with fail
   go_ret
   exact⟨rfl,rfl⟩
 ·clear h
  unfold maxLen at hcm
  have HCS:=zh hcs
  clear hcs
  go_enter Tryz.func175,Tryz.ntmps175
  go_wp2_with fail
  go_loopg [3] l.length (fun z v3 wr=>w=wr∧∃j:Nat,j≤l.length∧z=0+j∧v3=.int .i64 (j:Int)∧Hid (∀i (h:i<l.length),j≤i→l[i]=0))
  case atStart=>exact⟨rfl,l.length,Nat.le_refl _,(Nat.zero_add _).symm,rfl,fun i h h2=>by omega⟩
  case round =>
   obtain⟨rfl,j,hj,rfl,rfl,HZ⟩:=hrel
   by_cases h0:j=0
   ·subst h0
    have HT:=zh (show(trimL l).length=0 by rw[trim_at l 0 hj HZ.out (fun k _ e=>by omega)];rfl)
    go_wp2_with fail
    go_ret
    exact⟨by rw[HT.out];rfl,rfl⟩
   ·obtain⟨k,rfl⟩:∃k,j=k+1:=⟨j - 1,by omega⟩
    have hkl:k<l.length:=by omega
    have hck:=HCS.out k l[k] (List.getElem?_eq_getElem hkl)
    unfold u32V at hck
    have hpos:(0:Int)<((k+1:Nat):Int):=by omega
    have hsub:IntKind.i64.wrap (((k+1:Nat):Int) - 1)=(k:Int):=by rw[show((k+1:Nat):Int) - 1=(k:Int) by omega];exact IntWalk.i64_in _ (by omega)
    have hi0':(0:Int)≤(k:Int):=by omega
    have hi1':(k:Int)<(l.length:Int):=by omega
    have hz2':l[k]=0→∀i (h:i<l.length),k≤i→l[i]=0:=fun e i h1 h2=>by
     by_cases e2:i=k
     ·subst e2;exact e
     ·exact HZ.out i h1 (by omega)
    have hnz:l[k]≠0→(trimL l).length=k+1:=fun e=>by
     rw[trim_at l (k+1) hj HZ.out (fun k2 h2 e2=>by
      have e3:k2=k:=by omega
      subst e3;exact e),List.length_take]
     omega
    have HZ2:=zh hz2'
    have HNZ:=zh hnz
    obtain⟨x,hx⟩:=zx (l[k])
    rw[←hx] at hck HZ2 HNZ
    obtain⟨K1,hK1⟩:=zx (k+1)
    rw[←hK1] at hpos hsub HNZ hj ⊢
    have HK1:=zh hK1
    clear hz2' hnz hx HZ hK1
    by_cases hx0:x=0
    ·have HZ3:=zh (HZ2.out hx0)
     have q1:((x:Int)==0)=true:=by simpa using hx0
     clear hx0
     go_wp2_with fail
     go_roundg k
     case measure=>omega
     case rel=>exact⟨rfl,k,by omega,(Nat.zero_add _).symm,rfl,HZ3⟩
    ·have q1:((x:Int)==0)=false:=by simpa using hx0
     have HT:=zh (HNZ.out hx0)
     clear hx0
     go_wp2_with fail
     go_ret
     exact⟨by rw[HT.out];rfl,rfl⟩
theorem LS.take{w:World} {R:Nat→Prop} {A:Option Addr} {n c:Nat} {l:List Nat} (h:LS w R (.slice A n c) l) (j c':Nat) (hj:j≤l.length) (hc:j≤c') (hc':c'≤maxLen) (hA:0<l.length):LS w R (.slice A j c') (l.take j):=by
 rcases h.1 with ⟨h1,h2⟩ | ⟨b,off,c2,h1,hlc,hcm,hRb,hcs⟩
 ·rw[h2] at hA;simp at hA
 ·injection h1 with h1 h2 h3
  refine⟨.inr ⟨b,off,c',by rw[h1,List.length_take,Nat.min_eq_left hj],by rw[List.length_take];omega,by omega,hRb,fun k x hk=>hcs k x ?_⟩,fun x hx=>h.2 x (List.mem_of_mem_take hx)⟩
  rw[List.getElem?_take] at hk
  split at hk
  ·exact hk
  ·cases hk
theorem trimL_take(l:List Nat):trimL l=l.take (trimL l).length:=by
 have h:trimL l <+: l:=by
  unfold trimL
  have h1:l.reverse.dropWhile (·==0) <:+ l.reverse:=List.dropWhile_suffix _
  have h2:=List.reverse_prefix.2 h1
  simpa using h2
 exact(List.prefix_iff_eq_take.1 h)
theorem LS.only{w:World} {R R':Nat→Prop} {A:Option Addr} {n c:Nat} {l:List Nat} (h:LS w R (.slice A n c) l) (hr:∀b o,A=some ⟨b,o,none⟩→R' b):LS w R' (.slice A n c) l:=by
 refine⟨?_,h.2⟩
 rcases h.1 with h1 | ⟨b,off,c2,h1,h2,h3,h4,h5⟩
 ·exact .inl h1
 ·have hA:A=some ⟨b,off,none⟩:=by injection h1
  exact .inr ⟨b,off,c2,h1,h2,h3,hr b off hA,h5⟩
theorem LS.cap{w:World} {R:Nat→Prop} {A:Option Addr} {n c:Nat} {l:List Nat} (h:LS w R (.slice A n c) l) (hA:0<l.length):∃b off,A=some ⟨b,off,none⟩∧n=l.length∧n≤c∧c≤maxLen:=by
 rcases h.1 with ⟨h1,h2⟩ | ⟨b,off,c2,h1,h2,h3,-⟩
 ·rw[h2] at hA;simp at hA
 ·injection h1 with h5 h6 h4
  subst h4
  subst h6
  exact⟨b,off,h5,rfl,h2,h3⟩
theorem LS.trim{w:World} {R:Nat→Prop} {A:Option Addr} {n c:Nat} {l:List Nat} (h:LS w R (.slice A n c) l) (hA:0<l.length):LS w R (.slice A (trimL l).length c) (trimL l):=by
 have hc:l.length≤c∧c≤maxLen:=by
  rcases h.1 with ⟨h1,h2⟩ | ⟨b,off,c2,h1,h2,h3,-⟩
  ·rw[h2] at hA;simp at hA
  ·injection h1 with _ _ h4
   subst h4
   exact⟨h2,h3⟩
 have hl:=trimL_length l
 have ht:trimL l=l.take (trimL l).length:=trimL_take l
 have h3:=h.take (trimL l).length c hl (by omega) hc.2 hA
 rw[←ht] at h3
 exact h3
theorem Fr.wider{a b c d:Nat} (h:c≤a) (k:b≤d):∀x,Fr a b x→Fr c d x:=fun x hx=>⟨Nat.le_trans h hx.1,Nat.lt_of_lt_of_le hx.2 k⟩
def bl(n:Nat):Nat:=if n=0 then 0 else Nat.log2 n+1
theorem bl_zero:bl 0=0:=rfl
theorem bl_half{n:Nat} (h:0<n):bl n=bl (n / 2)+1:=by
 unfold bl
 rw[if_neg (by omega)]
 by_cases h1:n=1
 ·subst h1;decide
 ·rw[if_neg (by omega),Nat.log2_def,if_pos (by omega)]
theorem bl_le:∀(k n:Nat),n<2 ^ k→bl n≤k
 | 0,n,h=>by
  have h0:n=0:=by simpa using h
  rw[h0];exact Nat.le_refl _
 | k+1,n,h=>by
  rcases Nat.eq_zero_or_pos n with h0 | h0
  ·rw[h0];exact Nat.zero_le _
  ·rw[bl_half h0]
   have:=bl_le k (n / 2) (by rw[Nat.pow_succ] at h;omega)
   omega
theorem bl_32{n:Nat} (h:n<4294967296):bl n≤32:=bl_le 32 n (by simpa using h)
theorem bl_pos{n:Nat}:0<bl n↔0<n:=by
 unfold bl
 split <;> omega
theorem bl_one:bl 1=1:=by decide
theorem nlarge_any(v:Value) (l:List Nat) (R:Nat→Prop) (w:World) (h:LS w R v l) (hl:l.length≤512) :
  Calls Tryz.prog 219 #[v] w fun e w'=>e=.returned (.bool false)∧w=w':=by
 have HL:=zh (nlength_any v l R w h (by omega))
 have hlen:=trimL_length l
 go_enter Tryz.func219,Tryz.ntmps219
 go_wp2_with fail
 refine HL.out.mono ?_
 rintro e w2 ⟨rfl,rfl⟩
 have q:¬((512:Int)<((trimL l).length:Int)):=by omega
 generalize (trimL l).length=n at *
 go_wp2_with fail
 go_ret
 exact⟨ret_bool (decide_eq_false (by omega)),rfl⟩
theorem nbits_any(v:Value) (n:Nat) (R:Nat→Prop) (w:World) (h:LS w R v (natL n)) :
  Calls Tryz.prog 116 #[v] w fun e w'=>e=.returned (.int .i64 (bl n:Int))∧∃k,w'=w.drewN k:=by
 have HL:=zh (nlength_any v _ R w h (by have:=natL_length n;omega))
 rw[trim_natL] at HL
 rcases Nat.eq_zero_or_pos n with h0 | h0
 ·subst h0
  go_enter Tryz.func116,Tryz.ntmps116
  go_wp2_with fail
  refine HL.out.mono ?_
  rintro e w2 ⟨rfl,rfl⟩
  go_wp2_with fail
  go_ret
  exact⟨rfl,0,rfl⟩
 ·obtain⟨A,c,rfl,-,-⟩:=h.form
  obtain⟨b,off,rfl,-,hc⟩:=h.one h0
  have h32:n<4294967296:=h.2 n (by rw[natL_pos h0];simp)
  have l1:(natL n).length=1:=by rw[natL_pos h0];rfl
  rw[l1] at HL ⊢
  have n0:(0:Int)≤(n:Int):=by omega
  have n1:(n:Int)<4294967296:=by omega
  have e0:IntKind.i64.wrap (((1:Nat):Int) - 1)=0:=IntWalk.i64_in _ (by omega)
  clear h l1
  go_enter Tryz.func116,Tryz.ntmps116
  go_wp2_with fail
  refine HL.out.mono ?_
  rintro e w2 ⟨rfl,rfl⟩
  have q0:¬((1:Int)==0)=true:=by decide
  go_wp2_with fail
  have hbn:=bl_32 h32
  have HBN:=zh hbn
  clear hbn q0
  go_loopg [4,5] n (fun z v4 v5 wr=>w=wr∧∃k:Nat,v4=.int .i64 (k:Int)∧v5=.int .u32 (z:Int)∧Hid (k+bl z=bl n)∧z<4294967296)
  case atStart=>exact⟨rfl,0,rfl,rfl,Nat.zero_add _,h32⟩
  case round =>
   obtain⟨rfl,k,rfl,rfl,HK,hz⟩:=hrel
   rcases Nat.eq_zero_or_pos gk with hg | hg
   ·subst hg
    have HE:=zh (show bl n=k by have:=HK.out;rw[bl_zero] at this;omega)
    go_wp2_with fail
    go_ret
    exact⟨by rw[HE.out];rfl,0,rfl⟩
   ·have hk:(k:Int)≤32:=by have:=HK.out;have:=HBN.out;omega
    have HH:=zh (show k+1+bl (gk / 2)=bl n by have h1:=HK.out;have h2:=bl_half hg;omega)
    have g0:(0:Int)<(gk:Int):=by omega
    have g1:(gk:Int)<4294967296:=by omega
    go_wp2_with fail
    go_roundg (gk / 2)
    case measure=>omega
    case rel=>exact⟨rfl,k+1,by go_num,by go_num,HH,by omega⟩
end Go.Proofs.YtmacgpnlcdapfaaGreat

namespace Go.Proofs.YtmacgpnlcdapfaaGreat
open Go.RowKit
set_option linter.unusedVariables false
set_option linter.unusedSimpArgs false
theorem addr_add0(b off j:Nat):(⟨b,off,none⟩:Addr).add j=⟨b,off+j,none⟩:=by unfold Addr.add;split <;> simp_all
theorem nmake_any(v:Nat) (w:World) (hv:v<4294967296) :
  Calls Tryz.prog 117 #[.int .u64 (v:Int)] w fun e w'=>∃u,e=.returned u∧LS w' (Fr w.heap.size w'.heap.size) u (natL v)∧Below w.heap.size w w':=by
 have hv0:(0:Int)≤(v:Int):=by omega
 have hv1:(v:Int)<4294967296:=by omega
 obtain⟨W,hW⟩:=zx (w.alloc (.cells #[.int .u32 (v:Int),.int .u32 0] 234))
 have hls:=LS.two w v 0 hv (by omega)
 rw[show((0:Nat):Int)=0 from rfl,←hW] at hls
 have hb:Below w.heap.size w W:=by rw[hW];exact(Below.refl _ _).alloc (Nat.le_refl _) _
 have hsz:W.heap.size=w.heap.size+1:=by rw[hW];simp
 have HL:=zh (nlength_any _ _ _ W hls (by simp))
 have hr:=(hls.trim (by simp)).only (R':=Fr w.heap.size W.heap.size) (fun b o hb=>by
  injection hb with hb
  injection hb with hb
  exact⟨by omega,by omega⟩)
 rw[trim_two] at HL hr
 have hn1:=natL_length v
 have HLS:=zh hls
 have HR:=zh hr
 have HB:=zh hb
 have HW:=zh hW
 have HSZ:=zh hsz
 obtain⟨N,hN⟩:=zx ((natL v).length)
 rw[←hN] at HL HR hn1
 clear hls hr hb hW hN hsz
 go_enter Tryz.func117,Tryz.ntmps117
 go_wp2_with fail
 have e0:((v:Int) / 4294967296)=0:=by omega
 rw[e0]
 rw[←HW.out]
 refine HL.out.mono ?_
 rintro e w2 ⟨rfl,rfl⟩
 go_wp2_with fail
 go_ret
 exact⟨_,rfl,HR.out,HB.out⟩
theorem ntrim_any(v:Value) (l:List Nat) (R:Nat→Prop) (w:World) (h:LS w R v l) (hR:∀b,R b→b<w.heap.size) (hl:l.length≤1048576) :
  Calls Tryz.prog 180 #[v] w fun e w'=>∃u,e=.returned u∧OwnL w' w.heap.size u (trimL l)∧Below w.heap.size w w':=by
 obtain⟨i0,hi0,hz0,hz1,hz2⟩:=info_parts info_u32
 have HL:=zh (nlength_any v l R w h (by omega))
 rcases h.1 with ⟨rfl,rfl⟩ | ⟨b,off,c,rfl,hlc,hcm,hRb,hcs⟩
 ·clear h
  go_enter Tryz.func180,Tryz.ntmps180
  go_wp2_with fail
  refine HL.out.mono ?_
  rintro e w2 ⟨rfl,rfl⟩
  go_wp2_with (at_builtin;refine wpList_append_own_none rfl _ _ _ rfl w.heap.size 234 i0 1 Tryz.underlying53 hi0 (.slice none 0 0) 0 [] (by rfl) (World.ownsRow_nil _ _ _ _) (by rfl) ?_)
  go_ret
  exact⟨_,rfl,OwnL.nil _ _,Below.refl _ _⟩
 ·clear h
  unfold maxLen at hcm
  have hRl:=hR b hRb
  have hll:=trimL_length l
  have htt:=trimL_take l
  obtain⟨K1,hK1⟩:=zx ((trimL l).length)
  rw[←hK1] at HL hll htt
  have hnews:∀j2 u,((l.take K1).map u32V)[j2]?=some u→w.cell? ((⟨b,off,none⟩:Addr).add j2)=some u:=by
   intro j2 u hu
   have e1:(⟨b,off,none⟩:Addr).add j2=⟨b,off+j2,none⟩:=addr_add0 b off j2
   rw[e1]
   rw[List.getElem?_map] at hu
   cases hx:(l.take K1)[j2]? with
   | none=>rw[hx] at hu;cases hu
   | some x =>
    rw[hx] at hu
    injection hu with hu
    rw[←hu]
    refine hcs j2 x ?_
    rw[List.getElem?_take] at hx
    split at hx
    ·exact hx
    ·cases hx
  have hlt:((l.take K1).map u32V).length=K1 * 1:=by rw[List.length_map,List.length_take];omega
  have HNW:=zh hnews
  have HLT:=zh hlt
  have HT:=zh htt
  clear htt hnews hlt hcs hK1
  go_enter Tryz.func180,Tryz.ntmps180
  go_wp2_with fail
  refine HL.out.mono ?_
  rintro e w2 ⟨rfl,rfl⟩
  go_wp2_with (at_builtin;refine wpList_append_own_at (P:=Tryz.prog) _ rfl _ _ _ rfl w.heap.size 234 i0 _ 1 4 Tryz.underlying53 hi0 hz0 hz1 hz2 rfl (by decide) (.slice none 0 0) 0 [] (by rfl) (World.ownsRow_nil _ _ _ _) ⟨b,off,none⟩ K1 c ((l.take K1).map u32V) (by rfl) HLT.out HNW.out (fun u hu=>by obtain⟨x,-,rfl⟩:=List.mem_map.1 hu;rfl) (by unfold maxLen;omega) (by omega) (Nat.le_refl _) ?_;intro v' w' hown' hg' _ hat')
  go_ret
  refine⟨_,rfl,?_,below_none hg'⟩
  have h2:=hown'
  rw[Nat.zero_add,List.nil_append] at h2
  unfold OwnL
  rw[HT.out,show(l.take K1).length=K1 by rw[List.length_take];omega]
  exact h2
theorem ncmp_any(va vb:Value) (n m:Nat) (R R':Nat→Prop) (w:World) (ha:LS w R va (natL n)) (hb:LS w R' vb (natL m)) :
  Calls Tryz.prog 122 #[va,vb] w fun e w'=>e=.returned (.int .i64 (cmpI n m))∧∃k,w'=w.drewN k:=by
 have HA:=zh (nlength_any va _ R w ha (by have:=natL_length n;omega))
 have HB:=zh (nlength_any vb _ R' w hb (by have:=natL_length m;omega))
 rw[trim_natL] at HA HB
 obtain⟨A,c,rfl,-,-⟩:=ha.form
 obtain⟨B,d,rfl,-,-⟩:=hb.form
 have hln:=natL_len (n:=n)
 have hlm:=natL_len (n:=m)
 obtain⟨N,hN⟩:=zx ((natL n).length)
 obtain⟨M,hM⟩:=zx ((natL m).length)
 have hN1:N≤1:=by rw[hN];exact natL_length n
 have hM1:M≤1:=by rw[hM];exact natL_length m
 rw[←hN] at ha hln HA ⊢
 rw[←hM] at hb hlm HB ⊢
 have H1:=zh ha
 have H2:=zh hb
 clear ha hb hN hM
 go_enter Tryz.func122,Tryz.ntmps122
 go_wp2_with fail
 refine HA.out.mono ?_
 rintro e w2 ⟨rfl,rfl⟩
 go_wp2_with fail
 refine HB.out.mono ?_
 rintro e w2 ⟨rfl,rfl⟩
 by_cases hlt:N<M
 ·have HE:=zh (show cmpI n m = -1 by
   have h3:=hln.1.1 (by omega)
   have h4:=hlm.2.1 (by omega)
   unfold cmpI;rw[if_pos (by omega)])
  have q1:(N:Int)<(M:Int):=by omega
  clear hlt hln hlm
  go_wp2_with fail
  go_ret
  exact⟨by rw[HE.out];rfl,0,rfl⟩
 ·have q1:¬(N:Int)<(M:Int):=by omega
  by_cases hgt:M<N
  ·have HE:=zh (show cmpI n m=1 by
    have h3:=hlm.1.1 (by omega)
    have h4:=hln.2.1 (by omega)
    unfold cmpI;rw[if_neg (by omega),if_pos (by omega)])
   have q2:(M:Int)<(N:Int):=by omega
   clear hlt hgt hln hlm
   go_wp2_with fail
   go_ret
   exact⟨by rw[HE.out];rfl,0,rfl⟩
  ·have q2:¬(M:Int)<(N:Int):=by omega
   have hNM:N=M:=by omega
   subst hNM
   have hsub:IntKind.i64.wrap ((N:Int) - 1)=(N:Int) - 1:=IntWalk.i64_in _ (by omega)
   go_wp2_with fail
   go_loopg [7] N (fun z v7 wr=>Hid (∃k,wr=w.drewN k)∧((z=0∧v7=.int .i64 (-1)∧n=m)∨(z=1∧v7=.int .i64 0∧0<n∧0<m)))
   case atStart =>
    refine⟨⟨0,rfl⟩,?_⟩
    rcases Nat.lt_or_ge 0 N with h | h
    ·have e1:N=1:=by omega
     subst e1
     exact .inr ⟨rfl,rfl,hln.2.1 rfl,hlm.2.1 rfl⟩
    ·have e1:N=0:=by omega
     subst e1
     exact .inl ⟨rfl,rfl,by have:=hln.1.1 rfl;have:=hlm.1.1 rfl;omega⟩
   case round =>
    obtain⟨hbr,h⟩:=hrel
    rcases h with ⟨rfl,rfl,he⟩ | ⟨rfl,rfl,h0,h0'⟩
    ·have HE:=zh he
     obtain⟨k,rfl⟩:=hbr.out
     clear he hbr hsub q1 q2 hlt hgt
     go_wp2_with fail
     go_ret
     exact⟨ret_int (by unfold cmpI;rw[HE.out];simp),k,rfl⟩
    ·obtain⟨k,rfl⟩:=hbr.out
     have e1:N=1:=by
      have h3:=hln.2.2 h0
      omega
     subst e1
     obtain⟨b1,o1,rfl,hR1,hc1⟩:=H1.out.one h0
     obtain⟨b2,o2,rfl,hR2,hc2⟩:=H2.out.one h0'
     have k1:(w.drewN k).cell? ⟨b1,o1,none⟩=_:=hc1
     have k2:(w.drewN k).cell? ⟨b2,o2,none⟩=_:=hc2
     obtain⟨W,hW⟩:=zx (w.drewN k)
     rw[←hW] at k1 k2 ⊢
     have HW:=zh hW
     have n0:(0:Int)<(n:Int):=by omega
     clear hc1 hc2 hR1 hR2 hln hlm hsub hN1 h0 h0' hbr hW q1 q2 hlt hgt
     by_cases hlt:n<m
     ·have q1:(n:Int)<(m:Int):=by omega
      have HE:=zh (show cmpI n m = -1 by unfold cmpI;rw[if_pos hlt])
      clear hlt
      go_wp2_with fail
      go_quiet (fail)
      go_wp2_with fail
      go_ret
      exact⟨ret_int HE.out.symm,by rw[HW.out];simp only[World.drewN_drewN];exact⟨_,rfl⟩⟩
     ·have q1:¬(n:Int)<(m:Int):=by omega
      by_cases hgt:m<n
      ·have q2:(m:Int)<(n:Int):=by omega
       have HE:=zh (show cmpI n m=1 by unfold cmpI;rw[if_neg hlt,if_pos hgt])
       clear hlt hgt
       go_wp2_with fail
       go_quiet (fail)
       go_wp2_with fail
       go_quiet (fail)
       go_wp2_with fail
       go_ret
       exact⟨ret_int HE.out.symm,by rw[HW.out];simp only[World.drewN_drewN];exact⟨_,rfl⟩⟩
      ·have q2:¬(m:Int)<(n:Int):=by omega
       have he:n=m:=by omega
       have HE:=zh he
       clear hlt hgt he
       go_wp2_with fail
       go_quiet (fail)
       go_wp2_with fail
       go_quiet (fail)
       go_wp2_with fail
       go_roundg 0
       case measure=>omega
       case rel=>exact⟨by rw[HW.out];simp only[World.drewN_drewN];exact⟨_,rfl⟩,.inl ⟨rfl,rfl,HE.out⟩⟩
end Go.Proofs.YtmacgpnlcdapfaaGreat

namespace Go.Proofs.YtmacgpnlcdapfaaGreat
open Go.RowKit
set_option linter.unusedVariables false
set_option linter.unusedSimpArgs false
theorem nsized_any(A:Option Addr) (n c:Nat) (l:List Nat) (R:Nat→Prop) (w:World) (h:LS w R (.slice A n c) l) (h0:0<l.length) (hl:l.length≤512) :
  Calls Tryz.prog 220 #[.slice A n c] w fun e w'=>e=.returned (.tuple #[.slice A (trimL l).length (trimL l).length,.int .i64 0])∧w=w':=by
 have HL:=zh (nlength_any _ l R w h (by omega))
 have hlen:=trimL_length l
 obtain⟨b,off,rfl,rfl,hc1,hcm⟩:=h.cap h0
 unfold maxLen at hcm
 clear h
 obtain⟨T,hT⟩:=zx ((trimL l).length)
 obtain⟨N,hN⟩:=zx l.length
 rw[←hT] at HL hlen ⊢
 rw[←hN] at HL hlen hl hc1 h0 ⊢
 clear hT hN
 go_enter Tryz.func220,Tryz.ntmps220
 go_wp2_with fail
 refine HL.out.mono ?_
 rintro e w2 ⟨rfl,rfl⟩
 have q:¬((512:Int)<(T:Int)):=by omega
 have q0:(0:Int)≤(T:Int):=by omega
 have q1:(T:Int)≤(c:Int):=by omega
 go_wp2_with fail
 go_ret2
 exact⟨rfl,rfl⟩
theorem mk_u32n(n:Nat) (hn:n≤1048576):∀w:World,(Instr.makeSlice 53 (.int .i64 (n:Int)) (.int .i64 (n:Int))).run Tryz.prog w=.ok (.slice (some ⟨w.heap.size,0,none⟩) n n) (w.alloc (.cells (Array.replicate n (.int .u32 0)) 234)):=by
 intro w
 obtain⟨i0,hi0,hz0,hz1,hz2⟩:=info_parts info_u32
 have h:=run_make (P:=Tryz.prog) w 53 234 i0 _ Tryz.underlying53 hi0 hz0 .i64 .i64 (n:Int) (n:Int) (by omega) (by omega) (by rw[hz2];omega) (by omega)
 rw[hz1] at h
 simpa[madeCells_one,Value.cells] using h
theorem mk_u32s2:∀w:World,(Instr.makeSlice 53 (.int .i64 2) (.int .i64 2)).run Tryz.prog w=.ok (.slice (some ⟨w.heap.size,0,none⟩) 2 2) (w.alloc (.cells #[.int .u32 0,.int .u32 0] 234)):=fun w=>mk_u32n 2 (by omega) w
theorem nshort_any(va:Value) (n d:Nat) (R:Nat→Prop) (w:World) (ha:LS w R va (natL n)) (hR:∀b,R b→b<w.heap.size) (hn:0<n) (hd:0<d) (hd32:d<4294967296) :
  Calls Tryz.prog 244 #[va,.int .u32 (d:Int)] w fun e w'=>∃u,e=.returned (.tuple #[u,.int .u32 ((n % d:Nat):Int)])∧LS w' (Fr w.heap.size w'.heap.size) u (natL (n / d))∧Below w.heap.size w w':=by
 have hn32:=ha.lt32
 obtain⟨A,c,rfl,-,-⟩:=ha.form
 have l1:(natL n).length=1:=by rw[natL_pos hn];rfl
 rw[l1] at ha ⊢
 obtain⟨b1,o1,rfl,hR1,hc1⟩:=ha.one hn
 have hb1l:b1<w.heap.size:=hR _ hR1
 have hmk:=mk_u32s1
 obtain⟨W3,hW3⟩:=zx (w.alloc (.cells #[.int .u32 0] 234))
 obtain⟨g,hg⟩:=zx w.heap.size
 have k1:W3.cell? ⟨b1,o1,none⟩=some (.int .u32 (n:Int)):=by rw[hW3];exact(((Below.refl _ _).alloc (Nat.le_refl _) _).cell (p:=⟨b1,o1,none⟩) hb1l).trans hc1
 have hg3:W3.heap[g]?=some (.cells #[.int .u32 0] 234 (0,0)):=by rw[hW3,hg];exact heap_alloc_new _ _
 have kg:W3.cell? ⟨g,0,none⟩=some (.int .u32 0):=by rw[cell_of_row _ _ _ _ _ _ hg3];rfl
 have kf:W3.frozen? ⟨g,0,none⟩=false:=frozen_of_row _ _ _ _ _ hg3
 have hb3:Below w.heap.size w W3:=by rw[hW3];exact(Below.refl _ _).alloc (Nat.le_refl _) _
 have HG3:=zh hg3
 have HW3:=zh hW3
 have HG:=zh hg
 have HB3:=zh hb3
 have n0:(0:Int)≤(n:Int):=by omega
 have n1:(n:Int)≤4294967295:=by omega
 have m0:(0:Int)<(d:Int):=by omega
 have m1:(d:Int)≤4294967295:=by omega
 have e1:b1≠g:=by omega
 clear ha l1 hc1 hW3 hg hg3 hb3 hR1
 go_enter Tryz.func244,Tryz.ntmps244
 go_upto_region 2 with fail
 rw[←HW3.out,←HG.out]
 clear hmk
 go_wp2_with fail
 go_loopg [7,8] 1 (fun z v7 v8 wr=>(z=1∧v7=.int .u64 0∧v8=.int .i64 0∧W3=wr)∨(z=0∧v7=.int .u64 ((n % d:Nat):Int)∧v8=.int .i64 (-1)∧Hid (wr.heap[g]?=some (.cells #[.int .u32 ((n / d:Nat):Int)] 234 (0,0)))∧Hid (Below w.heap.size w wr)))
 case atStart=>exact .inl ⟨rfl,rfl,rfl,rfl⟩
 case round =>
  rcases hrel with ⟨rfl,rfl,rfl,rfl⟩ | ⟨rfl,rfl,rfl,hgc,hbr⟩
  ·have hor:=or_zero n hn32
   have hqu:=quo_nat n d hn32
   have hre:=rem_nat n d
   go_wp2_with fail
   go_roundg 0
   case measure=>omega
   case rel=>exact .inr ⟨rfl,rfl,rfl,heap_setCell_same W3 g 0 _ _ _ HG3.out,HB3.out.setCell (by show w.heap.size≤g;rw[HG.out];exact Nat.le_refl _) _⟩
  ·clear k1 kg kf
   have hgl:g<wr.heap.size:=(Array.getElem?_eq_some_iff.1 hgc.out).1
   have hqle:n / d<4294967296:=Nat.lt_of_le_of_lt (Nat.div_le_self n d) hn32
   have hls:LS wr (Bl wr.heap.size) (.slice (some ⟨g,0,none⟩) 1 1) [n / d]:=LS.cell1 wr g (n / d) hqle hgc.out _ hgl
   have HL:=zh (nlength_any _ _ _ wr hls (by simp))
   have hr:=(hls.trim (by simp))
   rw[trim_one'] at HL hr
   have hr2:LS wr (Fr w.heap.size wr.heap.size) (.slice (some ⟨g,0,none⟩) (natL (n / d)).length 1) (natL (n / d)):=hr.only (fun b o hb=>by
    injection hb with hb;injection hb with hb;rw[←hb];exact⟨by rw[HG.out];exact Nat.le_refl _,hgl⟩)
   have hN1:=natL_length (n / d)
   have hmd:n % d<4294967296:=Nat.lt_trans (Nat.mod_lt _ hd) hd32
   obtain⟨Q,hQ⟩:=zx ((natL (n / d)).length)
   rw[←hQ] at HL hN1 hr2
   have HR2:=zh hr2
   obtain⟨M,hM⟩:=zx (n % d)
   rw[←hM] at hmd ⊢
   have HMM:=zh hM
   have q0:(0:Int)≤(M:Int):=by omega
   have q1:(M:Int)<4294967296:=by omega
   have HBR:=zh hbr.out
   clear hls hr hr2 hQ hM hgc hbr hqle hgl hmd
   go_wp2_with fail
   refine HL.out.mono ?_
   rintro e w2 ⟨rfl,rfl⟩
   go_wp2_with fail
   go_ret2
   exact⟨_,by rw[←HMM.out];rfl,HR2.out,HBR.out⟩
theorem ndivide_any(va vb:Value) (n m:Nat) (w:World) (ha:LS w (Bl w.heap.size) va (natL n)) (hb:LS w (Bl w.heap.size) vb (natL m)) (hm:0<m) :
  Calls Tryz.prog 221 #[va,vb] w fun e w'=>∃q r,e=.returned (.tuple #[q,r])∧LS w' (Fr w.heap.size w'.heap.size) r (natL (n % m))∧Below w.heap.size w w':=by
 have HC:=zh (ncmp_any va vb n m _ _ w ha hb)
 have hn32:=ha.lt32
 have hm32:=hb.lt32
 have HA:=zh ha
 have HB:=zh hb
 go_enter Tryz.func221,Tryz.ntmps221
 go_wp2_with fail
 refine HC.out.mono ?_
 rintro e w2 ⟨rfl,k2,rfl⟩
 have hb2:Below w.heap.size w (w.drewN k2):=Below.drewN' (Below.refl _ _) k2
 obtain⟨W2,hW2⟩:=zx (w.drewN k2)
 rw[←hW2] at hb2 ⊢
 have HB2:=zh hb2
 have HA2:=zh (HA.out.below hb2)
 have HBB2:=zh (HB.out.below hb2)
 clear hb2 hW2 ha hb
 by_cases hlt:n<m
 ·have q1:cmpI n m = -1:=if_pos hlt
  rw[q1]
  have HD:=zh (show n % m=n from Nat.mod_eq_of_lt hlt)
  clear hlt q1
  go_wp2_with fail
  refine(ntrim_any va _ _ _ HA2.out (fun b h=>h) (by have:=natL_length n;omega)).mono ?_
  rintro e w3 ⟨u,rfl,hO,hb2⟩
  rw[trim_natL] at hO
  have HO:=zh ((hO.ls (natL_mem hn32)).mono (Fr.wider HB2.out.size (Nat.le_refl _)))
  have hbz:=HB2.out.trans (hb2.mono HB2.out.size)
  clear hO hb2
  go_wp2_with fail
  go_ret2
  exact⟨_,_,rfl,by rw[HD.out];exact HO.out,hbz⟩
 ·have hn:0<n:=by omega
  have q1:¬cmpI n m<0:=by unfold cmpI;rw[if_neg hlt];split <;> omega
  obtain⟨A,c,rfl,-,-⟩:=HBB2.out.form
  have l2:(natL m).length=1:=by rw[natL_pos hm];rfl
  rw[l2] at HBB2 ⊢
  obtain⟨b2,o2,rfl,-,hc2⟩:=HBB2.out.one hm
  have HS:=zh (nshort_any va n m _ W2 HA2.out (fun b h=>h) hn hm hm32)
  obtain⟨C,hC⟩:=zx (cmpI n m)
  rw[←hC] at q1 ⊢
  clear l2 hC hlt
  go_wp2_with fail
  refine HS.out.mono ?_
  rintro e w3 ⟨u,rfl,hu,hb3⟩
  have hmd:n % m<4294967296:=Nat.lt_trans (Nat.mod_lt _ hm) hm32
  have HM:=zh (fun w=>nmake_any (n % m) w hmd)
  have HB3:=zh (HB2.out.trans (hb3.mono HB2.out.size))
  obtain⟨M,hM⟩:=zx (n % m)
  rw[←hM] at HM hmd ⊢
  have HMM:=zh hM
  have q2:(0:Int)≤(M:Int):=by omega
  have q3:(M:Int)<4294967296:=by omega
  clear hu hb3 hc2 hM hmd
  go_wp2_with fail
  refine(HM.out _).mono ?_
  rintro e w4 ⟨u4,rfl,hu4,hb4⟩
  have HU4:=zh (hu4.mono (Fr.wider HB3.out.size (Nat.le_refl _)))
  have HB4:=zh (HB3.out.trans (hb4.mono HB3.out.size))
  clear hu4 hb4
  go_wp2_with fail
  go_ret2
  exact⟨_,_,rfl,by rw[←HMM.out];exact HU4.out,HB4.out⟩
end Go.Proofs.YtmacgpnlcdapfaaGreat

namespace Go.Proofs.YtmacgpnlcdapfaaGreat
open Go.RowKit
set_option linter.unusedVariables false
set_option linter.unusedSimpArgs false
theorem ngcd_any(va vb:Value) (n m:Nat) (w:World) (ha:LS w (Bl w.heap.size) va (natL n)) (hb:LS w (Bl w.heap.size) vb (natL m)) :
  Calls Tryz.prog 178 #[va,vb] w fun e w'=>∃g,e=.returned (.tuple #[g,.int .i64 0])∧LS w' (Fr w.heap.size w'.heap.size) g (natL (Nat.gcd n m))∧Below w.heap.size w w':=by
 have hn1:=natL_length n
 have hm1:=natL_length m
 have hn32:=ha.lt32
 have hm32:=hb.lt32
 have HA:=zh ha
 have HB:=zh hb
 have H1:=zh hn1
 have H2:=zh hm1
 have H3:=zh hn32
 have H4:=zh hm32
 clear ha hb hn1 hm1 hn32 hm32
 go_enter Tryz.func178,Tryz.ntmps178
 go_wp2_with fail
 refine(nlarge_any va _ _ _ HA.out (Nat.le_trans H1.out (by omega))).mono ?_
 rintro e w1 ⟨rfl,rfl⟩
 go_wp2_with fail
 refine(nlarge_any vb _ _ _ HB.out (Nat.le_trans H2.out (by omega))).mono ?_
 rintro e w1 ⟨rfl,rfl⟩
 go_wp2_with fail
 refine(ntrim_any va _ _ _ HA.out (fun b h=>h) (Nat.le_trans H1.out (by omega))).mono ?_
 rintro e w4 ⟨u4,rfl,hO4,hb4⟩
 rw[trim_natL] at hO4
 have HO4:=zh (hO4.ls (natL_mem H3.out))
 have HB4:=zh (HB.out.below hb4)
 have HC4:=zh hb4
 clear hb4 hO4
 go_wp2_with fail
 refine(ntrim_any vb _ _ _ HB4.out (fun b h=>h) (Nat.le_trans H2.out (by omega))).mono ?_
 rintro e w5 ⟨u5,rfl,hO5,hb5⟩
 rw[trim_natL] at hO5
 have hs4:=HC4.out.size
 have HO45:=zh ((HO4.out.keep (w':=w5) (fun b hb=>hb5.block b hb.2)).mono (Fr.wider (Nat.le_refl _) hb5.size))
 have HO5:=zh ((hO5.ls (natL_mem H4.out)).mono (Fr.wider hs4 (Nat.le_refl _)))
 have HC5:=zh (HC4.out.trans (hb5.mono HC4.out.size))
 clear hb5 hO5 hs4
 go_wp2_with fail
 go_loopg [0,1] m (fun z v6 v7 wr=>Hid (∃x,Nat.gcd x z=Nat.gcd n m∧x<4294967296∧z<4294967296∧LS wr (Fr w.heap.size wr.heap.size) v6 (natL x)∧LS wr (Fr w.heap.size wr.heap.size) v7 (natL z))∧Hid (Below w.heap.size w wr))
 case atStart=>exact⟨⟨n,rfl,H3.out,H4.out,HO45.out,HO5.out⟩,HC5.out⟩
 case round =>
  obtain⟨hx,hbr⟩:=hrel
  obtain⟨x,hgx,hx32,hz32,hox,hoz⟩:=hx.out
  have HX:=zh hox
  have HZ:=zh hoz
  obtain⟨A6,c6,rfl,-,-⟩:=hox.form
  obtain⟨A7,c7,rfl,-,-⟩:=hoz.form
  have HBR:=zh hbr.out
  have hlz:=natL_len (n:=gk)
  have hsz:=hbr.out.size
  have LX:=zh (hox.mono Fr.bl)
  have LZ:=zh (hoz.mono Fr.bl)
  by_cases h0:gk=0
  ·have hl0:(natL gk).length=0:=hlz.1.2 h0
   have HE:=zh (show x=Nat.gcd n m by rw[←hgx,h0];simp)
   rw[hl0]
   clear hx hox hoz hgx hlz hl0 h0 hbr
   go_wp2_with fail
   go_ret2
   exact⟨_,rfl,by rw[←HE.out];exact HX.out,HBR.out⟩
  ·have hl1:(natL gk).length=1:=hlz.2.2 (by omega)
   have HM:=zh (Nat.mod_lt x (show 0<gk by omega))
   have HG:=zh (show Nat.gcd gk (x % gk)=Nat.gcd n m by rw[←hgx,Nat.gcd_comm x gk,Nat.gcd_rec gk x,Nat.gcd_comm gk (x % gk)])
   have HZ0:=zh (show 0<gk by omega)
   rw[hl1] at LZ HZ ⊢
   clear hx hox hoz hgx hlz hl1 h0 hbr
   go_wp2_with fail
   refine(ndivide_any _ _ x gk _ LX.out LZ.out HZ0.out).mono ?_
   rintro e w6 ⟨q,r,rfl,hr,hb6⟩
   have HQ:=zh (hr.mono (Fr.wider hsz (Nat.le_refl _)))
   have HZ6:=zh ((HZ.out.keep (w':=w6) (fun b hb=>hb6.block b hb.2)).mono (Fr.wider (Nat.le_refl _) hb6.size))
   have HC6:=zh (HBR.out.trans (hb6.mono HBR.out.size))
   clear hr hb6
   go_wp2_with fail
   go_roundg (x % gk)
   case measure=>exact HM.out
   case rel=>exact⟨⟨gk,HG.out,hz32,Nat.lt_trans HM.out hz32,HZ6.out,HQ.out⟩,HC6.out⟩
end Go.Proofs.YtmacgpnlcdapfaaGreat

namespace Go.Proofs.YtmacgpnlcdapfaaGreat
open Go.RowKit
set_option linter.unusedVariables false
set_option linter.unusedSimpArgs false
theorem mul32(n m:Nat) (h:n * m<4294967296):IntKind.u64.wrap ((n:Int) * (m:Int))=((n * m:Nat):Int):=by
 rw[show(n:Int) * (m:Int)=((n * m:Nat):Int) by simp]
 exact IntWalk.u64_in _ (by constructor <;> omega)
theorem LS.cell2(w:World) (g n:Nat) (hn:n<4294967296) (hg:w.heap[g]?=some (.cells #[.int .u32 (n:Int),.int .u32 0] 234 (0,0))) (R:Nat→Prop) (hR:R g):LS w R (.slice (some ⟨g,0,none⟩) 2 2) [n,0]:=by
 refine⟨.inr ⟨g,0,2,rfl,Nat.le_refl _,by unfold maxLen;decide,hR,fun k x hk=>?_⟩,fun x hx=>?_⟩
 ·rw[Nat.zero_add,cell_of_row _ _ _ _ _ _ hg]
  match k,hk with
  | 0,hk=>simp at hk;subst hk;rfl
  | 1,hk=>simp at hk;subst hk;rfl
 ·simp at hx
  rcases hx with rfl | rfl
  ·exact hn
  ·omega
theorem trim_zero2(n:Nat):trimL [n,0]=natL n:=trim_two n
theorem nmul_any(va vb:Value) (n m:Nat) (w:World) (ha:LS w (Bl w.heap.size) va (natL n)) (hb:LS w (Bl w.heap.size) vb (natL m)) (hm:0<m) (hnm:n * m<4294967296) :
  Calls Tryz.prog 181 #[va,vb] w fun e w'=>∃u,e=.returned (.tuple #[u,.int .i64 0])∧LS w' (Fr w.heap.size w'.heap.size) u (natL (n * m))∧Below w.heap.size w w':=by
 have HLA:=zh (nlarge_any va _ _ w ha (by have:=natL_length n;omega))
 have HLB:=zh (nlarge_any vb _ _ w hb (by have:=natL_length m;omega))
 have HA:=zh (fun k=>nlength_any va _ _ (w.drewN k) ha (by have:=natL_length n;omega))
 have HB:=zh (fun k=>nlength_any vb _ _ (w.drewN k) hb (by have:=natL_length m;omega))
 rw[trim_natL] at HA HB
 have hm32:=hb.lt32
 have hn32:=ha.lt32
 have lm:(natL m).length=1:=by rw[natL_pos hm];rfl
 obtain⟨B,d,rfl,-,-⟩:=hb.form
 obtain⟨-,-,-,-,hd0,-⟩:=hb.cap (by rw[lm];omega)
 rw[lm] at hb HB HLB hd0 ⊢
 have hd1:(1:Int)≤(d:Int):=by omega
 obtain⟨b2,o2,rfl,hR2,hc2⟩:=hb.one hm
 have HC2:=zh hc2
 have HR2:=zh hR2
 have hmk1:=mk_u32s1
 have hmk2:=mk_u32s2
 have HB0:=zh (show ∀k,Calls Tryz.prog 175 #[.slice (some ⟨b2,o2,none⟩) 1 d] (w.drewN k) fun e w'=>e=.returned (.int .i64 1)∧w.drewN k=w' from HB.out)
 clear hb lm hc2 hR2 hd0 HB
 rcases Nat.eq_zero_or_pos n with h0 | h0
 ·subst h0
  have HA0:=zh (show ∀k,Calls Tryz.prog 175 #[va] (w.drewN k) fun e w'=>e=.returned (.int .i64 0)∧w.drewN k=w' from HA.out)
  clear HA hnm
  rcases ha.1 with ⟨rfl,-⟩ | ⟨b1,o1,c,hva,-,-,-,-⟩
  ·clear ha
   go_enter Tryz.func181,Tryz.ntmps181
   go_wp2_with fail
   refine HLA.out.mono ?_
   rintro e w1 ⟨rfl,rfl⟩
   go_wp2_with fail
   refine HLB.out.mono ?_
   rintro e w1 ⟨rfl,rfl⟩
   go_wp2_with fail
   go_quiet (first | with_reducible exact Calls.quiet_of_same ((HA0.out _).mono fun _ _ h=>⟨h.1,h.2.symm⟩) | with_reducible exact Calls.quiet_of_same ((HB0.out _).mono fun _ _ h=>⟨h.1,h.2.symm⟩))
   obtain⟨W,hW⟩:=zx (w.drewN nq)
   rw[←hW]
   have hbW:Below w.heap.size w W:=by rw[hW];exact Below.drewN' (Below.refl _ _) nq
   have HBW:=zh hbW
   clear hbW hW
   obtain⟨W3,hW3⟩:=zx (W.alloc (.cells #[.int .u32 0] 234))
   obtain⟨g,hg⟩:=zx W.heap.size
   have hg3:W3.heap[g]?=some (.cells #[.int .u32 0] 234 (0,0)):=by rw[hW3,hg];exact heap_alloc_new _ _
   have hgl:g<W3.heap.size:=(Array.getElem?_eq_some_iff.1 hg3).1
   have HB3:=zh (show Below w.heap.size w W3 from by rw[hW3];exact HBW.out.alloc HBW.out.size _)
   have HG:=zh (show w.heap.size≤g from by rw[hg];exact HBW.out.size)
   have hls:LS W3 (Bl W3.heap.size) (.slice (some ⟨g,0,none⟩) 1 1) [0]:=LS.cell1 W3 g 0 (by omega) hg3 _ hgl
   have HS:=zh (nsized_any _ _ _ _ _ W3 hls (by simp) (by simp))
   have HG3:=zh hg3
   have HW3:=zh hW3
   have HGW:=zh hg
   rw[show(trimL [0]).length=0 from rfl] at HS
   clear hg3 hgl hls hW3 hg
   go_upto_region 5 with fail
   rw[←HGW.out,←HW3.out]
   clear hmk1 hmk2
   go_wp2_with fail
   go_loopg [34] 0 (fun z v34 wr=>v34=.int .i64 0∧W3=wr)
   case atStart=>exact⟨rfl,rfl⟩
   case round =>
    obtain⟨rfl,rfl⟩:=hrel
    go_wp2_with fail
    refine HS.out.mono ?_
    rintro e w4 ⟨rfl,rfl⟩
    go_wp2_with fail
    go_ret2
    exact⟨_,rfl,⟨.inr ⟨g,0,0,by rw[Nat.zero_mul];rfl,by rw[Nat.zero_mul];exact Nat.le_refl _,by unfold maxLen;omega,⟨HG.out,(Array.getElem?_eq_some_iff.1 HG3.out).1⟩,fun k x hk=>by rw[Nat.zero_mul] at hk;simp[natL_zero] at hk⟩,fun x hx=>by rw[Nat.zero_mul] at hx;simp[natL_zero] at hx⟩,HB3.out⟩
  ·have hva2:va=.slice (some ⟨b1,o1,none⟩) 0 c:=hva
   subst hva2
   clear ha hva
   go_enter Tryz.func181,Tryz.ntmps181
   go_wp2_with fail
   refine HLA.out.mono ?_
   rintro e w1 ⟨rfl,rfl⟩
   go_wp2_with fail
   refine HLB.out.mono ?_
   rintro e w1 ⟨rfl,rfl⟩
   go_wp2_with fail
   go_quiet (first | with_reducible exact Calls.quiet_of_same ((HA0.out _).mono fun _ _ h=>⟨h.1,h.2.symm⟩) | with_reducible exact Calls.quiet_of_same ((HB0.out _).mono fun _ _ h=>⟨h.1,h.2.symm⟩))
   obtain⟨W,hW⟩:=zx (w.drewN nq)
   rw[←hW]
   have hbW:Below w.heap.size w W:=by rw[hW];exact Below.drewN' (Below.refl _ _) nq
   have HBW:=zh hbW
   clear hbW hW
   obtain⟨W3,hW3⟩:=zx (W.alloc (.cells #[.int .u32 0] 234))
   obtain⟨g,hg⟩:=zx W.heap.size
   have hg3:W3.heap[g]?=some (.cells #[.int .u32 0] 234 (0,0)):=by rw[hW3,hg];exact heap_alloc_new _ _
   have hgl:g<W3.heap.size:=(Array.getElem?_eq_some_iff.1 hg3).1
   have HB3:=zh (show Below w.heap.size w W3 from by rw[hW3];exact HBW.out.alloc HBW.out.size _)
   have HG:=zh (show w.heap.size≤g from by rw[hg];exact HBW.out.size)
   have hls:LS W3 (Bl W3.heap.size) (.slice (some ⟨g,0,none⟩) 1 1) [0]:=LS.cell1 W3 g 0 (by omega) hg3 _ hgl
   have HS:=zh (nsized_any _ _ _ _ _ W3 hls (by simp) (by simp))
   have HG3:=zh hg3
   have HW3:=zh hW3
   have HGW:=zh hg
   rw[show(trimL [0]).length=0 from rfl] at HS
   clear hg3 hgl hls hW3 hg
   go_upto_region 5 with fail
   rw[←HGW.out,←HW3.out]
   clear hmk1 hmk2
   go_wp2_with fail
   go_loopg [34] 0 (fun z v34 wr=>v34=.int .i64 0∧W3=wr)
   case atStart=>exact⟨rfl,rfl⟩
   case round =>
    obtain⟨rfl,rfl⟩:=hrel
    go_wp2_with fail
    refine HS.out.mono ?_
    rintro e w4 ⟨rfl,rfl⟩
    go_wp2_with fail
    go_ret2
    exact⟨_,rfl,⟨.inr ⟨g,0,0,by rw[Nat.zero_mul];rfl,by rw[Nat.zero_mul];exact Nat.le_refl _,by unfold maxLen;omega,⟨HG.out,(Array.getElem?_eq_some_iff.1 HG3.out).1⟩,fun k x hk=>by rw[Nat.zero_mul] at hk;simp[natL_zero] at hk⟩,fun x hx=>by rw[Nat.zero_mul] at hx;simp[natL_zero] at hx⟩,HB3.out⟩
 ·have ln:(natL n).length=1:=by rw[natL_pos h0];rfl
  obtain⟨A,c,rfl,-,-⟩:=ha.form
  obtain⟨-,-,-,-,hc0,-⟩:=ha.cap (by rw[ln];omega)
  rw[ln] at ha HA HLA hc0 ⊢
  have hc1:(1:Int)≤(c:Int):=by omega
  obtain⟨b1,o1,rfl,hR1,hk1⟩:=ha.one h0
  have HA0:=zh (show ∀k,Calls Tryz.prog 175 #[.slice (some ⟨b1,o1,none⟩) 1 c] (w.drewN k) fun e w'=>e=.returned (.int .i64 1)∧w.drewN k=w' from HA.out)
  have HC1:=zh hk1
  have HR1:=zh hR1
  clear HA ha ln hc0 hk1 hR1
  go_enter Tryz.func181,Tryz.ntmps181
  go_wp2_with fail
  refine HLA.out.mono ?_
  rintro e w1 ⟨rfl,rfl⟩
  go_wp2_with fail
  refine HLB.out.mono ?_
  rintro e w1 ⟨rfl,rfl⟩
  go_wp2_with fail
  go_quiet (first | with_reducible exact Calls.quiet_of_same ((HA0.out _).mono fun _ _ h=>⟨h.1,h.2.symm⟩) | with_reducible exact Calls.quiet_of_same ((HB0.out _).mono fun _ _ h=>⟨h.1,h.2.symm⟩))
  obtain⟨W,hW⟩:=zx (w.drewN nq)
  rw[←hW]
  have hbW:Below w.heap.size w W:=by rw[hW];exact Below.drewN' (Below.refl _ _) nq
  have HBW:=zh hbW
  clear hbW hW
  obtain⟨W3,hW3⟩:=zx (W.alloc (.cells #[.int .u32 0,.int .u32 0] 234))
  obtain⟨g,hg⟩:=zx W.heap.size
  have hg3:W3.heap[g]?=some (.cells #[.int .u32 0,.int .u32 0] 234 (0,0)):=by rw[hW3,hg];exact heap_alloc_new _ _
  have hgl:g<W3.heap.size:=(Array.getElem?_eq_some_iff.1 hg3).1
  have HB3:=zh (show Below w.heap.size w W3 from by rw[hW3];exact HBW.out.alloc HBW.out.size _)
  have HG:=zh (show w.heap.size≤g from by rw[hg];exact HBW.out.size)
  have k1:W3.cell? ⟨b1,o1,none⟩=some (.int .u32 (n:Int)):=(HB3.out.cell (p:=⟨b1,o1,none⟩) HR1.out).trans HC1.out
  have k2:W3.cell? ⟨b2,o2,none⟩=some (.int .u32 (m:Int)):=(HB3.out.cell (p:=⟨b2,o2,none⟩) HR2.out).trans HC2.out
  have kg0:W3.cell? ⟨g,0,none⟩=some (.int .u32 0):=by rw[cell_of_row _ _ _ _ _ _ hg3];rfl
  have kg1:W3.cell? ⟨g,1,none⟩=some (.int .u32 0):=by rw[cell_of_row _ _ _ _ _ _ hg3];rfl
  have kf0:W3.frozen? ⟨g,0,none⟩=false:=frozen_of_row _ _ _ _ _ hg3
  have kf1:W3.frozen? ⟨g,1,none⟩=false:=frozen_of_row _ _ _ _ _ hg3
  have e1:b1≠g:=by have:=HR1.out;have:=HG.out;unfold Bl at *;omega
  have e2:b2≠g:=by have:=HR2.out;have:=HG.out;unfold Bl at *;omega
  have HG3:=zh hg3
  have HW3:=zh hW3
  have HGW:=zh hg
  have n0:(0:Int)≤(n:Int):=by omega
  have n1:(n:Int)<4294967296:=by omega
  have m0:(0:Int)≤(m:Int):=by omega
  have m1:(m:Int)<4294967296:=by omega
  have hmul:=mul32 n m hnm
  obtain⟨NM,hNM⟩:=zx (n * m)
  rw[←hNM] at hmul hnm
  have q0:(0:Int)≤(NM:Int):=by omega
  have q1:(NM:Int)<4294967296:=by omega
  have HNM:=zh hNM
  have hdiv:(NM:Int) / 4294967296=0:=by omega
  clear hg3 hW3 hg hNM
  go_upto_region 5 with fail
  rw[←HGW.out,←HW3.out]
  clear hmk1 hmk2
  go_wp2_with fail
  go_loopg [7,8,9,10,11,34] 1 (fun z v7 v8 v9 v10 v11 v34 wr=>(z=1∧v34=.int .i64 0∧W3=wr)∨(z=0∧v34=.int .i64 1∧Hid (wr.heap[g]?=some (.cells #[.int .u32 (NM:Int),.int .u32 0] 234 (0,0)))∧Hid (Below w.heap.size w wr)))
  case atStart=>exact .inl ⟨rfl,rfl,rfl⟩
  case round =>
   rcases hrel with ⟨rfl,rfl,rfl⟩ | ⟨rfl,rfl,hgc,hbr⟩
   ·go_wp2_with fail
    go_loopg [9,10,11,41] 1 (fun z v9 v10 v11 v41 wr=>(z=1∧v41=.int .i64 0∧v9=.int .u64 0∧W3=wr)∨(z=0∧v41=.int .i64 1∧v9=.int .u64 0∧wr=W3.setCell ⟨g,0,none⟩ (.int .u32 (NM:Int))))
    case atStart=>exact .inl ⟨rfl,rfl,rfl,rfl⟩
    case round =>
     rcases hrel with ⟨rfl,rfl,rfl,rfl⟩ | ⟨rfl,rfl,rfl,rfl⟩
     ·go_wp2_with fail
      go_roundg 0
      case measure=>omega
      case rel=>exact .inr ⟨rfl,rfl,rfl,rfl⟩
     ·obtain⟨W4,hW4⟩:=zx (W3.setCell ⟨g,0,none⟩ (.int .u32 (NM:Int)))
      have hg4:W4.heap[g]?=some (.cells #[.int .u32 (NM:Int),.int .u32 0] 234 (0,0)):=by rw[hW4];exact heap_setCell_same W3 g 0 _ _ _ HG3.out
      have HB4:=zh (show Below w.heap.size w W4 from by rw[hW4];exact HB3.out.setCell HG.out _)
      have HG4:=zh hg4
      have kg4:W4.cell? ⟨g,1,none⟩=some (.int .u32 0):=by rw[cell_of_row _ _ _ _ _ _ hg4];rfl
      have kf4:W4.frozen? ⟨g,1,none⟩=false:=frozen_of_row _ _ _ _ _ hg4
      rw[←hW4]
      clear hW4 hg4 kg0 kg1 kf0 kf1 k1 k2
      go_wp2_with fail
      go_roundg 0
      case measure=>omega
      case rel=>exact .inr ⟨rfl,rfl,heap_setCell_same W4 g 1 _ _ _ HG4.out,HB4.out.setCell HG.out _⟩
   ·have hgl:g<wr.heap.size:=(Array.getElem?_eq_some_iff.1 hgc.out).1
    have hls:LS wr (Bl wr.heap.size) (.slice (some ⟨g,0,none⟩) 2 2) [NM,0]:=LS.cell2 wr g NM (by omega) hgc.out _ hgl
    have HS:=zh (nsized_any _ _ _ _ _ wr hls (by simp) (by simp))
    have hr:=((hls.take (natL NM).length (natL NM).length (by have:=natL_length NM;simp;omega) (Nat.le_refl _) (by have:=natL_length NM;unfold maxLen;omega) (by simp)).only (R':=Fr w.heap.size wr.heap.size) (fun b o hb=>by
     injection hb with hb
     injection hb with hb
     rw[←hb]
     exact⟨HG.out,hgl⟩))
    rw[trim_zero2] at HS
    have ht:[NM,0].take (natL NM).length=natL NM:=by
     rcases Nat.eq_zero_or_pos NM with h | h
     ·rw[h];rfl
     ·rw[natL_pos h];rfl
    rw[ht] at hr
    have HR:=zh hr
    have HBR:=zh hbr.out
    clear hls hr ht hgc hbr hgl k1 k2 kg0 kg1 kf0 kf1
    go_wp2_with fail
    refine HS.out.mono ?_
    rintro e w4 ⟨rfl,rfl⟩
    go_wp2_with fail
    go_ret2
    exact⟨_,rfl,by rw[←HNM.out];exact HR.out,HBR.out⟩
end Go.Proofs.YtmacgpnlcdapfaaGreat
