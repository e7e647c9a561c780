/- The law's bent, walked. -/
import Derived.Lib.BufferMore
import Derived.Lib.BufferWrite
import Derived.Test.YtcfkllnpkmebpaaGreatDoorMk21
import Derived.Test.YtcfkllnpkmebpaaGreatDoorMk25
import Derived.Test.YtcfkllnpkmebpaaGreatDoorMk26
import Derived.Test.YtcfkllnpkmebpaaGreatDoorMk02
import Derived.Test.YtcfkllnpkmebpaaGreatDoorMk01
import Derived.Test.YtcfkllnpkmebpaaGreatDoorMk20
import Derived.Test.YtcfkllnpkmebpaaGreatDoorMk15
import Derived.Test.YtcfkllnpkmebpaaGreatDoorMk04
import Derived.Deep.LoopGhost
import Derived.Test.YtcfkllnpkmebpaaGreatDoorRows
import Derived.Laws.AppendOwnNone
import Derived.Deep.MidRow
import Derived.Test.YtcfkllnpkmebpaaGreatDoorMk19
import Derived.Test.YtcfkllnpkmebpaaGreatDoorMk08
set_option maxRecDepth 100000
set_option maxHeartbeats 12800000
namespace Go.Proofs.YtcfkllnpkmebpaaGreatDoor
open Go.RowKit Go.Shelf
set_option linter.unusedVariables false
set_option linter.unusedSimpArgs false
theorem bent_any(EX:Int) (vl vm vd vp vo vL:Value) (Ad:Option Addr) (ND cd:Nat) (L:List Inc) (which pos by_:Int) (w:World) (hL:SlS 5 IncK w (Bl w.heap.size) vL L) (hlen:L.length≤900) (hcl:∀x∈L,x.causes.length≤900) (hnd:ND≤1000) (hwh:I64 which) (hpo:I64 pos) (hby:I64 by_) :
  Calls Tryz.prog 13 #[.agg #[.int .i64 EX,vl,vm,vd,.slice Ad ND cd,vp,vo],vL,.int .i64 which,.int .i64 pos,.int .i64 by_] w fun e w'=>∃v M,e=.returned v∧SlS 5 IncK w' (Fr w.heap.size w'.heap.size) v M∧M.length≤901∧(∀x∈M,x.causes.length≤901)∧Below w.heap.size w w':=by
 obtain⟨AL,cL,rfl,-,-⟩:=hL.form
 have HLW:=zh (fun(w':World) (hb:Below w.heap.size w w')=>(show SlS 5 IncK w' (Bl w.heap.size) _ L from SlS.keep incK hL (fun b h=>hb.block b h)))
 have HCL:=zh hcl
 have HI:=zh (And.intro hwh (And.intro hpo hby))
 clear hwh hpo hby
 obtain⟨LN,hLN⟩:=zx L.length
 rw[←hLN] at HLW hlen ⊢
 have HLN:=zh hLN
 obtain⟨W0,hW0⟩:=zx (w.alloc (.cells #[.int .i64 EX,vl,vm,vd,.slice Ad ND cd,vp,vo] 35))
 obtain⟨z,hz⟩:=zx w.heap.size
 have hb0:Below w.heap.size w W0:=by rw[hW0];exact(Below.refl _ _).alloc (Nat.le_refl _) _
 have hzk:W0.heap[z]?=some (.cells #[.int .i64 EX,vl,vm,vd,.slice Ad ND cd,vp,vo] 35 (0,0)):=by rw[hW0,hz];exact heap_alloc_new w _
 have hzl:z<W0.heap.size:=(Array.getElem?_eq_some_iff.1 hzk).1
 have HC:=zh (fun(w':World) (hb:Below W0.heap.size W0 w')=>cells7 ((hb.block z hzl).trans hzk))
 have HRE:=zh (fun(w':World) (hb:Below W0.heap.size W0 w')=>hb0.trans (hb.mono hb0.size))
 have HW0:=zh hW0
 have HZ:=zh hz
 have HB0:=zh hb0
 clear hL hcl hLN hW0 hz hb0 hzk hzl
 go_enter Tryz.func13,Tryz.ntmps13
 go_upto_region 1 with fail
 rw[←HW0.out,←HZ.out]
 go_wp2_with fail
 go_loopg [11,12] LN (fun z v11 v12 wr=>∃(i:Nat) (M:List IncW) (va:Value),va=v11∧v12=.int .i64 (i:Int)∧i≤LN∧z=LN - i∧Hid (BentS wr W0.heap.size va M)∧Hid (M.map (fun s=>s.x)=L.take i)∧Hid (Below W0.heap.size W0 wr))
 case atStart=>exact⟨0,[],_,rfl,rfl,Nat.zero_le _,rfl,zh (BentS.nil _ _),zh (by simp),zh (Below.refl _ _)⟩
 case round =>
  obtain⟨i,M,va,rfl,rfl,hi,rfl,HBN,HMP,HBR⟩:=hrel
  by_cases hlt:i<LN
  ·have HLT:=zh hlt
   have hil:i<L.length:=by rw[←HLN.out];exact hlt
   have hbw:=HRE.out wr HBR.out
   obtain⟨b,off,cs,hA,hRb,-,hc,hcs⟩:=(HLW.out wr hbw).at_ (k:=i) hil
   subst hA
   obtain⟨Ax,cx,x0,x1,x2,x3,x4,hsl,-⟩:=five_inc hc hcs
   have hcn:=HCL.out _ (List.getElem_mem hil)
   have HTK:=zh (show L.take (i+1)=L.take i++[L[i]] from List.take_succ_eq_append_getElem hil)
   obtain⟨x,hx⟩:=zx (L[i])
   rw[←hx] at x0 x1 x2 x3 x4 hsl hcn HTK
   obtain⟨xv,xs,xl,xn,xc⟩:=x
   simp only at x0 x1 x2 x3 x4 hsl hcn
   obtain⟨CN,hCN⟩:=zx xc.length
   rw[←hCN] at x4 hsl hcn
   have HCN:=zh hCN
   have hML:M.length=i:=by have:=congrArg List.length HMP.out;rw[List.length_map,List.length_take] at this;omega
   have HML:=zh hML
   obtain⟨W8,hW8⟩:=zx (wr.alloc (.cells #[.int .i64 xv,.int .i64 xs,.bool xl,.int .i64 xn,.slice Ax CN cx] 27))
   obtain⟨gx,hgx⟩:=zx wr.heap.size
   have hb8:Below wr.heap.size wr W8:=by rw[hW8];exact(Below.refl _ _).alloc (Nat.le_refl _) _
   have hxk:W8.heap[gx]?=some (.cells #[.int .i64 xv,.int .i64 xs,.bool xl,.int .i64 xn,.slice Ax CN cx] 27 (0,0)):=by rw[hW8,hgx];exact heap_alloc_new wr _
   have hxl:gx<W8.heap.size:=(Array.getElem?_eq_some_iff.1 hxk).1
   have HB8:=zh (HBR.out.trans (hb8.mono HBR.out.size))
   have HB8r:=zh hb8
   have hbl:b<wr.heap.size:=World.block_lt_of_cell? wr _ x0
   have y4:W8.cell? ⟨b,off+i * 5+4,none⟩=some (.slice Ax CN cx):=(hb8.cell (p:=⟨b,off+i * 5+4,none⟩) hbl).trans x4
   have HSL8:=zh (show SlS 2 CauK W8 (Bl w.heap.size) (.slice Ax CN cx) xc from SlS.keep cauK hsl (fun bb hbb=>hb8.block bb (Nat.lt_of_lt_of_le hbb (HRE.out wr HBR.out).size)))
   have HW8:=zh hW8
   have HGX:=zh hgx
   have HXK:=zh hxk
   have HXL:=zh hxl
   have HHL:=zh hcn
   clear hbw hRb hc hcs hx hCN hsl hcn hML hW8 hgx hb8 hxk hxl hbl hil
   go_upto_region 6 with fail
   rw[←HW8.out,←HGX.out]
   clear x0 x1 x2 x3 x4
   go_wp2_with (at_builtin;refine app_caus _ _ rfl rfl (Bl w.heap.size) _ xc rfl rfl HSL8.out (by have:=HHL.out;have:=HCN.out;omega) ?_)
   intro vc w9 how hb9
   obtain⟨Av,kv,hvc⟩:=how.form
   rw[←HCN.out] at hvc
   subst hvc
   have hxk9:=(hb9.block gx HXL.out).trans HXK.out
   have d4:w9.cell? ⟨gx,4,none⟩=some (.slice Ax CN cx):=(cells5 hxk9).2.2.2.2
   have f4:w9.frozen? ⟨gx,4,none⟩=false:=Lib.frozen_of_heap hxk9 4
   obtain⟨W10,hW10⟩:=zx (w9.setCell ⟨gx,4,none⟩ (.slice Av CN kv))
   have hxk10:W10.heap[gx]?=some (.cells #[.int .i64 xv,.int .i64 xs,.bool xl,.int .i64 xn,.slice Av CN kv] 27 (0,0)):=by rw[hW10,Lib.heap_setCell_same hxk9];rfl
   have hg10:=Lib.grownBy_setCell w9 gx 4 (.slice Av CN kv)
   rw[←hW10] at hg10
   have hbr10:Below wr.heap.size wr W10:=by rw[hW10];exact(HB8r.out.trans (hb9.mono HB8r.out.size)).setCell (p:=⟨gx,4,none⟩) (by rw[HGX.out];exact Nat.le_refl _) _
   have HBN10:=zh (HBN.out.below hbr10)
   have hB8:W0.heap.size≤W8.heap.size:=HB8.out.size
   have hr8:wr.heap.size≤W8.heap.size:=HB8r.out.size
   have HOW10:=zh (show OwnCau W10 W0.heap.size (.slice Av CN kv) xc from own_keepB (how.base hB8) (fun bb hb=>hg10.block bb (how.lt bb hb).2 (fun e=>by injection e with e;have h1:=(how.lt bb hb).1;have h2:=HXL.out;omega)))
   have HOFF:=zh (show ∀bb,(Value.slice Av CN kv).ownBlock=some bb→va.ownBlock≠some bb from fun bb hb e=>by
    have h1:=(how.lt bb hb).1
    have h2:=(HBN.out.row.lt bb e).2
    omega)
   have HAP:=zh (show ∀t∈M,∀bb,t.cv.ownBlock=some bb→(Value.slice Av CN kv).ownBlock≠some bb from fun t ht bb hb e=>by
    have h1:=(how.lt bb e).1
    have h2:=((HBN.out.own t ht).lt bb hb).2
    omega)
   have HBR10:=zh (HBR.out.trans (hbr10.mono HBR.out.size))
   obtain⟨e0,e1,e2,e3,e4⟩:=cells5 hxk10
   have HW10:=zh hW10
   clear how hb9 hxk9 hW10 hxk10 hg10 hbr10 hB8 hr8 y4
   go_upto_region 7 with fail
   rw[←HW10.out]
   clear d4 f4
   go_wp2_with (at_builtin;refine app_bent ⟨xv,xs,xl,xn,xc⟩ (.slice Av CN kv) _ _ rfl rfl W0.heap.size _ M rfl HBN10.out HOW10.out HOFF.out HAP.out rfl (by have:=HML.out;omega) HBR10.out.size ?_)
   intro v2 w11 hbn11 hg11
   have HBN11:=zh hbn11
   have HB11:=zh (HBR10.out.grown hg11 HBR10.out.size (fun k hk=>(HBN10.out.row.lt k hk).1))
   clear hbn11 hg11 e0 e1 e2 e3 e4
   go_wp2_with fail
   go_roundg (LN - (i+1))
   case measure=>have:=HLT.out;omega
   case rel=>exact⟨i+1,_,_,rfl,by go_num,by have:=HLT.out;omega,rfl,HBN11,zh (by rw[HTK.out,List.map_append,HMP.out];rfl),HB11⟩
  ·have hML:M.length=LN:=by have:=congrArg List.length HMP.out;rw[List.length_map,List.length_take] at this;have:=HLN.out;omega
   have hMP:M.map (fun s=>s.x)=L:=by rw[HMP.out];exact List.take_of_length_le (by rw[←HLN.out];omega)
   have HFIN:=zh (fun(w':World) (v:Value) (M':List IncW) (h:BentS w' W0.heap.size v M') (hb:Below W0.heap.size W0 w') (hl:M'.length≤901) (hc:∀s∈M',s.x.causes.length≤901)=>(show ∃v' M,Ending.returned v=Ending.returned v'∧SlS 5 IncK w' (Fr w.heap.size w'.heap.size) v' M∧M.length≤901∧(∀x∈M,x.causes.length≤901)∧Below w.heap.size w w' from
    ⟨v,M'.map (fun s=>s.x),rfl,SlS.mono incK h.incs.slS (fun b hb=>⟨Nat.le_trans HB0.out.size hb.1,hb.2⟩),by rw[List.length_map];exact hl,fun x hx=>by
     obtain⟨s,hs,rfl⟩:=List.mem_map.1 hx
     exact hc s hs,HRE.out w' hb⟩))
   have HMC:=zh (show ∀s∈M,s.x.causes.length≤900 from fun s hs=>HCL.out s.x (by rw[←hMP];exact List.mem_map.2 ⟨s,hs,rfl⟩))
   obtain⟨Ao,ko,hva⟩:=own_form HBN.out.row
   rw[hML] at hva
   subst hva
   have HML:=zh hML
   clear hMP hML
   by_cases h0:LN=0
   ·have hz0:((LN:Int)==0)=true:=by simpa using h0
    go_wp2_with fail
    go_ret
    exact HFIN.out _ _ M HBN.out HBR.out (by have:=HML.out;omega) (fun s hs=>by have:=HMC.out s hs;omega)
   ·have hz0:((LN:Int)==0)=false:=by simpa using h0
    have hg:∃g,Ao=some ⟨g,0,none⟩:=by
     rcases HBN.out.row.2 with ⟨e,e2⟩ | ⟨g,cap,cur,e,_⟩
     ·have:=HML.out;omega
     ·injection e with e;exact⟨g,e⟩
    obtain⟨g,rfl⟩:=hg
    obtain⟨PK,hPK⟩:=zx (within pos (LN:Int))
    have hPr:=within_range pos (LN:Int) (by omega)
    have hwp:=fun(w':World)=>within_any pos (LN:Int) w' HI.out.2.1 (by unfold I64;omega)
    rw[←hPK] at hPr hwp
    obtain⟨k,rfl⟩:∃k:Nat,PK=(k:Int):=⟨PK.toNat,by omega⟩
    have hk:k<LN:=by omega
    obtain⟨W7,hW7⟩:=zx (within which 7)
    have hWr:=within_range which 7 (by omega)
    have hw7:=fun(w':World)=>within_any which 7 w' HI.out.1 (by unfold I64;omega)
    rw[←hW7] at hWr hw7
    have HWP:=zh hwp
    have HW7:=zh hw7
    have hks:M[k]?=some M[k]! := by have:=HML.out;simp[show k<M.length by omega]
    obtain⟨sm,hsm⟩:=zx (M[k]!)
    rw[←hsm] at hks
    have HKS:=zh hks
    have HX:=zh (fun(o:Nat) (c:Value) (hc:(incC sm)[o]?=some c)=>(show wr.cell? ⟨g,k * 5+o,none⟩=some c∧wr.frozen? ⟨g,k * 5+o,none⟩=false from by
     have h1:=HBN.out.row.cells (g:=g) rfl _ _ (flat_inc M k sm hks o c hc)
     rw[addr0] at h1
     exact⟨h1,own_fz (n:=M.length) (by rw[HML.out];exact(by have h:=HBN.out.row;rwa [HML.out] at h)) _⟩))
    have hkn:(k:Int)<(LN:Int):=by omega
    clear hPK hPr hwp hW7 hw7 hks hsm
    go_wp2_with fail
    refine(HWP.out _).mono ?_
    rintro e w' ⟨rfl,rfl⟩
    go_wp2_with fail
    refine(HW7.out _).mono ?_
    rintro e w' ⟨rfl,rfl⟩
    rcases (show W7=0∨W7=1∨W7=2∨W7=3∨W7=4∨W7=5∨W7=6 by omega) with rfl | rfl | rfl | rfl | rfl | rfl | rfl
    ·obtain⟨x2,f2⟩:=HX.out 2 _ rfl
     go_wp2_with fail
     go_ret
     exact HFIN.out _ _ (M.set k ⟨⟨sm.x.vol,sm.x.stripe,!sm.x.lost,sm.x.need,sm.x.causes⟩,sm.cv⟩) (HBN.out.set HML.out.symm HKS.out 2 _ (by omega) rfl rfl rfl) (HBR.out.setCell (p:=⟨g,k * 5+2,none⟩) (HBN.out.row.lt g rfl).1 _) (by rw[List.length_set];have:=HML.out;omega) (fun y hy=>by
      rcases List.mem_or_eq_of_mem_set hy with h1 | h1
      ·have:=HMC.out y h1;omega
      ·subst h1;have:=HMC.out sm (List.mem_of_getElem? HKS.out);show sm.x.causes.length≤901;omega)
    ·obtain⟨BY,hBY⟩:=zx (within by_ 3)
     have hBr:=within_range by_ 3 (by omega)
     have hwb:=fun(w':World)=>within_any by_ 3 w' HI.out.2.2 (by unfold I64;omega)
     rw[←hBY] at hBr hwb
     have HWB:=zh hwb
     have HS15:=zh (show wr.drew.cell? ⟨g,k * 5+3,none⟩=some (.int .i64 sm.x.need)∧wr.drew.frozen? ⟨g,k * 5+3,none⟩=false from HX.out 3 _ rfl)
     clear hBY hwb
     go_upto_region 15 with fail
     refine region_tail (S:=(fun w'=>w'.cell? ⟨g,k * 5+3,none⟩=some (.int .i64 sm.x.need)∧w'.frozen? ⟨g,k * 5+3,none⟩=false)) [8,9,10] (by kernel_rfl) HS15.out (fun hHeld=>?_)
     refine tk 0 61 ?_
     refine tk 4 65 ?_
     refine readyT (rs:=[1,5]) (by kernel_rfl) (by simp) ?_
     refine AllReadyT.cons rfl (fun K hK=>?_) ?_
     ·go_simp
      refine hK.out _ _ ?_ (fun hHeld=>?_)
      ·exact HS15.out
      clear hK K
      (try simp only[Act.put,z1,z2,z3])
      refine tk 2 63 ?_
      refine tk 3 64 ?_
      refine readyT (rs:=[5]) (by kernel_rfl) (by simp) ?_
      refine AllReadyT.cons rfl (fun K hK=>?_) ?_
      ·go_simp
       refine(HWB.out _).mono ?_
       rintro e w' ⟨rfl,rfl⟩
       refine hK.out _ _ ?_ (fun hHeld=>?_)
       ·exact HS15.out
       clear hK K
       (try simp only[Act.put,z1,z2,z3])
       refine tk 6 67 ?_
       refine tk 7 68 ?_
       refine readyT (rs:=[8]) (by kernel_rfl) (by simp) ?_
       refine AllReadyT.consT rfl rfl (fun K hK=>?_) ?_
       ·go_simp
        refine hK.out _ _ ?_
        clear hK K
        (try simp only[Act.put,z1,z2,z3])
        refine readyT (rs:=[9]) (by kernel_rfl) (by simp) ?_
        refine AllReadyT.consT rfl rfl (fun K hK=>?_) ?_
        ·go_simp
         refine hK.out _ _ ?_
         clear hK K
         (try simp only[Act.put,z1,z2,z3])
         refine readyT (rs:=[10]) (by kernel_rfl) (by simp) ?_
         refine AllReadyT.consT rfl rfl (fun K hK=>?_) ?_
         ·go_simp
          refine hK.out _ _ ?_
          clear hK K
          (try simp only[Act.put,z1,z2,z3])
          refine doneT (by kernel_rfl) ?_ _
          clear hHeld
          obtain⟨x2,f2⟩:=HS15.out
          go_wp2_with fail
          go_ret
          exact HFIN.out _ _ (M.set k ⟨⟨sm.x.vol,sm.x.stripe,sm.x.lost,IntKind.i64.wrap (sm.x.need+IntKind.i64.wrap (BY - 1)),sm.x.causes⟩,sm.cv⟩) ((HBN.out.set (t:=⟨⟨sm.x.vol,sm.x.stripe,sm.x.lost,IntKind.i64.wrap (sm.x.need+IntKind.i64.wrap (BY - 1)),sm.x.causes⟩,sm.cv⟩) HML.out.symm HKS.out 3 (.int .i64 (IntKind.i64.wrap (sm.x.need+IntKind.i64.wrap (BY - 1)))) (by omega) rfl rfl rfl).below ((Below.refl _ _).drew)) ((HBR.out.setCell (p:=⟨g,k * 5+3,none⟩) (HBN.out.row.lt g rfl).1 _).drew) (by rw[List.length_set];have:=HML.out;omega) (fun y hy=>by
           rcases List.mem_or_eq_of_mem_set hy with h1 | h1
           ·have:=HMC.out y h1;omega
           ·subst h1;have:=HMC.out sm (List.mem_of_getElem? HKS.out);show sm.x.causes.length≤901;omega)
         exact AllReadyT.nil
        exact AllReadyT.nil
       exact AllReadyT.nil
      exact AllReadyT.nil
     refine AllReadyT.cons rfl (fun K hK=>?_) ?_
     ·go_simp
      refine(HWB.out _).mono ?_
      rintro e w' ⟨rfl,rfl⟩
      refine hK.out _ _ ?_ (fun hHeld=>?_)
      ·exact HS15.out
      clear hK K
      (try simp only[Act.put,z1,z2,z3])
      refine tk 6 67 ?_
      refine readyT (rs:=[1]) (by kernel_rfl) (by simp) ?_
      refine AllReadyT.cons rfl (fun K hK=>?_) ?_
      ·go_simp
       refine hK.out _ _ ?_ (fun hHeld=>?_)
       ·exact HS15.out
       clear hK K
       (try simp only[Act.put,z1,z2,z3])
       refine tk 2 63 ?_
       refine tk 3 64 ?_
       refine tk 7 68 ?_
       refine readyT (rs:=[8]) (by kernel_rfl) (by simp) ?_
       refine AllReadyT.consT rfl rfl (fun K hK=>?_) ?_
       ·go_simp
        refine hK.out _ _ ?_
        clear hK K
        (try simp only[Act.put,z1,z2,z3])
        refine readyT (rs:=[9]) (by kernel_rfl) (by simp) ?_
        refine AllReadyT.consT rfl rfl (fun K hK=>?_) ?_
        ·go_simp
         refine hK.out _ _ ?_
         clear hK K
         (try simp only[Act.put,z1,z2,z3])
         refine readyT (rs:=[10]) (by kernel_rfl) (by simp) ?_
         refine AllReadyT.consT rfl rfl (fun K hK=>?_) ?_
         ·go_simp
          refine hK.out _ _ ?_
          clear hK K
          (try simp only[Act.put,z1,z2,z3])
          refine doneT (by kernel_rfl) ?_ _
          clear hHeld
          obtain⟨x2,f2⟩:=HS15.out
          go_wp2_with fail
          go_ret
          exact HFIN.out _ _ (M.set k ⟨⟨sm.x.vol,sm.x.stripe,sm.x.lost,IntKind.i64.wrap (sm.x.need+IntKind.i64.wrap (BY - 1)),sm.x.causes⟩,sm.cv⟩) ((HBN.out.set (t:=⟨⟨sm.x.vol,sm.x.stripe,sm.x.lost,IntKind.i64.wrap (sm.x.need+IntKind.i64.wrap (BY - 1)),sm.x.causes⟩,sm.cv⟩) HML.out.symm HKS.out 3 (.int .i64 (IntKind.i64.wrap (sm.x.need+IntKind.i64.wrap (BY - 1)))) (by omega) rfl rfl rfl).below ((Below.refl _ _).drew)) ((HBR.out.setCell (p:=⟨g,k * 5+3,none⟩) (HBN.out.row.lt g rfl).1 _).drew) (by rw[List.length_set];have:=HML.out;omega) (fun y hy=>by
           rcases List.mem_or_eq_of_mem_set hy with h1 | h1
           ·have:=HMC.out y h1;omega
           ·subst h1;have:=HMC.out sm (List.mem_of_getElem? HKS.out);show sm.x.causes.length≤901;omega)
         exact AllReadyT.nil
        exact AllReadyT.nil
       exact AllReadyT.nil
      exact AllReadyT.nil
     exact AllReadyT.nil
    ·obtain⟨x2,f2⟩:=HX.out 0 _ rfl
     rw[Nat.add_zero] at x2 f2
     obtain⟨BY,hBY⟩:=zx (within by_ 4)
     have hBr:=within_range by_ 4 (by omega)
     have hwb:=fun(w':World)=>within_any by_ 4 w' HI.out.2.2 (by unfold I64;omega)
     rw[←hBY] at hBr hwb
     have HWB:=zh hwb
     clear hBY hwb
     go_wp2_with fail
     refine(HWB.out _).mono ?_
     rintro e w' ⟨rfl,rfl⟩
     go_wp2_with fail
     go_ret
     exact HFIN.out _ _ (M.set k ⟨⟨BY - 1,sm.x.stripe,sm.x.lost,sm.x.need,sm.x.causes⟩,sm.cv⟩) (HBN.out.set HML.out.symm HKS.out 0 _ (by omega) rfl rfl rfl) (HBR.out.setCell (p:=⟨g,k * 5+0,none⟩) (HBN.out.row.lt g rfl).1 _) (by rw[List.length_set];have:=HML.out;omega) (fun y hy=>by
      rcases List.mem_or_eq_of_mem_set hy with h1 | h1
      ·have:=HMC.out y h1;omega
      ·subst h1;have:=HMC.out sm (List.mem_of_getElem? HKS.out);show sm.x.causes.length≤901;omega)
    ·obtain⟨x2,f2⟩:=HX.out 1 _ rfl
     obtain⟨BY,hBY⟩:=zx (within by_ 4)
     have hBr:=within_range by_ 4 (by omega)
     have hwb:=fun(w':World)=>within_any by_ 4 w' HI.out.2.2 (by unfold I64;omega)
     rw[←hBY] at hBr hwb
     have HWB:=zh hwb
     clear hBY hwb
     go_wp2_with fail
     refine(HWB.out _).mono ?_
     rintro e w' ⟨rfl,rfl⟩
     go_wp2_with fail
     go_ret
     exact HFIN.out _ _ (M.set k ⟨⟨sm.x.vol,BY - 1,sm.x.lost,sm.x.need,sm.x.causes⟩,sm.cv⟩) (HBN.out.set HML.out.symm HKS.out 1 _ (by omega) rfl rfl rfl) (HBR.out.setCell (p:=⟨g,k * 5+1,none⟩) (HBN.out.row.lt g rfl).1 _) (by rw[List.length_set];have:=HML.out;omega) (fun y hy=>by
      rcases List.mem_or_eq_of_mem_set hy with h1 | h1
      ·have:=HMC.out y h1;omega
      ·subst h1;have:=HMC.out sm (List.mem_of_getElem? HKS.out);show sm.x.causes.length≤901;omega)
    ·have hso:=HBN.out.own sm (List.mem_of_getElem? HKS.out)
     obtain⟨As,cA,hsv⟩:=hso.form
     obtain⟨CL,hCL⟩:=zx sm.x.causes.length
     rw[←hCL] at hsv
     rw[hsv] at hso
     have x4:=(HX.out 4 _ rfl).1
     rw[hsv] at x4
     have hmc:=HMC.out sm (List.mem_of_getElem? HKS.out)
     rw[←hCL] at hmc
     have HCL2:=zh hCL
     have HSV:=zh hsv
     obtain⟨c0,c1,c2,c3,c4,c5,c6⟩:=HC.out wr HBR.out
     by_cases hc0:0<CL
     ·obtain⟨gc,rfl⟩:∃gc,As=some ⟨gc,0,none⟩:=by
       rcases hso.2 with ⟨e,e2⟩ | ⟨gc,cap,cur,e,_⟩
       ·injection e with e1 e2 e3
        exact absurd hc0 (by rw[e2];decide)
       ·injection e with e;exact⟨gc,e⟩
      obtain⟨PB,hPB⟩:=zx (within by_ (CL:Int))
      have hPr:=within_range by_ (CL:Int) (by omega)
      have hwb:=fun(w':World)=>within_any by_ (CL:Int) w' HI.out.2.2 (by unfold I64;omega)
      rw[←hPB] at hPr hwb
      obtain⟨pb,rfl⟩:∃k:Nat,PB=(k:Int):=⟨PB.toNat,by omega⟩
      have HWB:=zh hwb
      have hpl:pb<sm.x.causes.length:=by rw[←hCL];omega
      have HPL:=zh hpl
      have HSO:=zh hso
      have hck:=fun(o:Nat) (c:Value) (hc:(cauC sm.x.causes[pb])[o]?=some c)=>(show wr.cell? ⟨gc,pb * 2+o,none⟩=some c from by
       have h1:=World.ownsRow.cells hso (g:=gc) rfl _ _ (flat_cau _ pb _ (List.getElem?_eq_getElem hpl) o c hc)
       rw[addr0] at h1
       exact h1)
      have hff:=fun(p:Nat)=>own_fz (show wr.ownsRow W0.heap.size 102 2 (.slice (some ⟨gc,0,none⟩) CL cA) CL (sm.x.causes.flatMap cauC) from by have h:wr.ownsRow W0.heap.size 102 2 (.slice (some ⟨gc,0,none⟩) CL cA) sm.x.causes.length (sm.x.causes.flatMap cauC):=hso;rwa [←hCL] at h) p
      have y0:=hck 0 _ rfl
      rw[Nat.add_zero] at y0
      have y1:=hck 1 _ rfl
      have HY:=zh (And.intro (And.intro y0 (hff (pb * 2))) (And.intro y1 (hff (pb * 2+1))))
      have t0:decide (0<(CL:Int))=true:=decide_eq_true (by omega)
      have i1:(pb:Int)<(CL:Int):=by omega
      clear hso hsv hCL hPB hPr hwb hpl hck hff y0 y1 hc0
      go_upto_region 22 with fail
      go_quiet (with_reducible exact Calls.quiet_of_same ((HWB.out _).mono fun _ _ h=>⟨h.1,h.2.symm⟩))
      go_wp2_with fail
      obtain⟨w6,hw6⟩:=zx (wr.drewN nq)
      have HW6E:=zh hw6
      have hd7:(by_.tdiv 7).natAbs=by_.natAbs / 7:=by rw[Int.natAbs_tdiv];rfl
      have hd42:(by_.tdiv 42).natAbs=by_.natAbs / 42:=by rw[Int.natAbs_tdiv];rfl
      have hib:=HI.out.2.2
      unfold I64 at hib
      obtain⟨D7,hD7⟩:=zx (by_.tdiv 7)
      obtain⟨D42,hD42⟩:=zx (by_.tdiv 42)
      rw[←hD7] at hd7
      rw[←hD42] at hd42
      have h7:wrap64 (by_.tdiv 7)=D7:=by rw[←hD7];exact IntWalk.wrap64_in D7 (by omega)
      have h42:wrap64 (by_.tdiv 42)=D42:=by rw[←hD42];exact IntWalk.wrap64_in D42 (by omega)
      have HC7:=zh (fun(w':World)=>within_any D7 6 w' (by unfold I64;omega) (by unfold I64;omega))
      have HC42:=zh (fun(w':World)=>within_any D42 ((ND:Int)+2) w' (by unfold I64;omega) (by unfold I64;omega))
      have hr7:=within_range D7 6 (by omega)
      have hr42:=within_range D42 ((ND:Int)+2) (by omega)
      obtain⟨ST,hST⟩:=zx (within D7 6)
      obtain⟨DR,hDR⟩:=zx (within D42 ((ND:Int)+2))
      rw[←hST] at HC7 hr7
      rw[←hDR] at HC42 hr42
      rw[h7,←hw6]
      have y6:(w6.cell? ⟨gc,pb * 2,none⟩=some (.int .i64 sm.x.causes[pb].state)∧w6.frozen? ⟨gc,pb * 2,none⟩=false)∧(w6.cell? ⟨gc,pb * 2+1,none⟩=some (.int .i64 sm.x.causes[pb].drive)∧w6.frozen? ⟨gc,pb * 2+1,none⟩=false):=by rw[hw6];exact HY.out
      have hdr1:wrap64 (DR - 1)=DR - 1:=IntWalk.wrap64_in _ (by omega)
      obtain⟨⟨q0,g0⟩,q1,g1⟩:=y6
      have HSOc:=zh (show wr.ownsRow W0.heap.size 102 2 (.slice (some ⟨gc,0,none⟩) CL cA) CL (sm.x.causes.flatMap cauC) from by have h:wr.ownsRow W0.heap.size 102 2 (.slice (some ⟨gc,0,none⟩) CL cA) sm.x.causes.length (sm.x.causes.flatMap cauC):=HSO.out;rwa [←HCL2.out] at h)
      have HGC:=zh (World.ownsRow.lt HSOc.out gc rfl)
      have HB6:=zh (show Below W0.heap.size W0 w6 from by rw[hw6];exact Below.drewN' HBR.out nq)
      have HOW6:=zh (show w6.ownsRow W0.heap.size 102 2 (.slice (some ⟨gc,0,none⟩) CL cA) CL (sm.x.causes.flatMap cauC) from by rw[hw6];exact own_keepB HSOc.out (fun b hb=>rfl))
      clear hd7 hd42 hib hD7 hD42 hr7 hr42 hST hDR hw6 h7
      refine(HC7.out _).mono ?_
      rintro e w' ⟨rfl,rfl⟩
      clear c0 c1 c2 c3 c4 c5 c6 x4
      go_upto_region 24 with fail
      clear q0 g0 q1 g1
      obtain⟨W7,hW7⟩:=zx (w6.setCell ⟨gc,pb * 2,none⟩ (.int .i64 ST))
      rw[←hW7]
      have hb7:Below W0.heap.size W0 W7:=by rw[hW7];exact HB6.out.setCell (p:=⟨gc,pb * 2,none⟩) HGC.out.1 _
      have how7:=own_set HOW6.out (pb * 2) (.int .i64 ST)
      rw[←hW7] at how7
      have hq1:W7.cell? ⟨gc,pb * 2+1,none⟩=some (.int .i64 sm.x.causes[pb].drive):=by
       have h1:=flat_cau _ pb _ (List.getElem?_eq_getElem HPL.out) 1 _ rfl
       have h2:=World.ownsRow.cells how7 (g:=gc) rfl (pb * 2+1) (.int .i64 sm.x.causes[pb].drive) (by rw[List.getElem?_set_ne (by omega)];exact h1)
       rw[addr0] at h2
       exact h2
      have hg1:=own_fz how7 (pb * 2+1)
      obtain⟨c0,c1,c2,c3,c4,c5,c6⟩:=HC.out W7 hb7
      have HW7:=zh hW7
      have HB7:=zh hb7
      have hnw:IntKind.i64.wrap ((ND:Int)+2)=(ND:Int)+2:=IntWalk.i64_in _ (by omega)
      clear hW7 hb7 how7
      go_wp2_with fail
      rw[h42]
      refine(HC42.out _).mono ?_
      rintro e w' ⟨rfl,rfl⟩
      go_wp2_with fail
      go_ret
      rw[HW7.out,HW6E.out]
      exact HFIN.out _ _ _ (HBN.out.inner (cs:=sm.x.causes.set pb ⟨ST,DR - 1⟩) HKS.out (by rw[HSV.out];exact grown_set2 wr nq gc (pb * 2) (pb * 2+1) _ _) (by rw[HSV.out];exact own_setc (show OwnCau (wr.drewN nq) W0.heap.size (.slice (some ⟨gc,0,none⟩) CL cA) sm.x.causes from own_keepB HSO.out (fun b hb=>rfl)) HCL2.out HPL.out ⟨ST,DR - 1⟩))
       (((Below.drewN' HBR.out nq).setCell (p:=⟨gc,pb * 2,none⟩) HGC.out.1 _).setCell (p:=⟨gc,pb * 2+1,none⟩) HGC.out.1 _) (by rw[List.length_set];have:=HML.out;omega) (fun y hy=>by
       rcases List.mem_or_eq_of_mem_set hy with h1 | h1
       ·have:=HMC.out y h1;omega
       ·subst h1;have:=HMC.out sm (List.mem_of_getElem? HKS.out);show(sm.x.causes.set pb ⟨ST,DR - 1⟩).length≤901;rw[List.length_set];omega)
     ·have hc00:CL=0:=by omega
      clear hCL hsv hso hc0
      subst hc00
      go_wp2_with fail
      go_ret
      exact HFIN.out _ _ M HBN.out HBR.out (by have:=HML.out;omega) (fun s hs=>by have:=HMC.out s hs;omega)
    ·have hso:=HBN.out.own sm (List.mem_of_getElem? HKS.out)
     obtain⟨As,cA,hsv⟩:=hso.form
     obtain⟨CL,hCL⟩:=zx sm.x.causes.length
     rw[←hCL] at hsv
     rw[hsv] at hso
     have x4:=(HX.out 4 _ rfl).1
     rw[hsv] at x4
     have hmc:=HMC.out sm (List.mem_of_getElem? HKS.out)
     rw[←hCL] at hmc
     have HCL2:=zh hCL
     have HSV:=zh hsv
     have HSO:=zh (show wr.ownsRow W0.heap.size 102 2 (.slice As CL cA) CL (sm.x.causes.flatMap cauC) from by have h:wr.ownsRow W0.heap.size 102 2 (.slice As CL cA) sm.x.causes.length (sm.x.causes.flatMap cauC):=hso;rwa [←hCL] at h)
     clear hso hsv hCL
     go_wp2_with (at_builtin;refine app_cau ⟨4,-1⟩ _ _ rfl rfl W0.heap.size _ CL sm.x.causes HCL2.out.symm rfl HSO.out rfl (by omega) HBR.out.size ?_)
     intro vc w9 how hg9 hat9
     obtain⟨Av,kv,hvc⟩:=how.form
     rw[List.length_append,List.length_singleton,←HCL2.out] at hvc
     subst hvc
     have hgl:g<wr.heap.size:=(HBN.out.row.lt g rfl).2
     have hne:(Value.slice As CL cA).ownBlock≠some g:=fun e=>HBN.out.off sm (List.mem_of_getElem? HKS.out) g (by rw[HSV.out];exact e) rfl
     have hk9:w9.heap[g]?=wr.heap[g]?:=hg9.block g hgl (fun e=>hne e.symm)
     have d4:w9.cell? ⟨g,k * 5+4,none⟩=some (.slice As CL cA):=(World.cell?_of_block (w:=wr) (w':=w9) hk9).trans x4
     have f4:w9.frozen? ⟨g,k * 5+4,none⟩=false:=own_fz (n:=M.length) (own_keepB (by rw[HML.out];exact(by have h:=HBN.out.row;rwa [HML.out] at h)) (fun b hb=>by
      have e:g=b:=by injection hb
      subst e;exact hk9)) _
     have HOW9:=zh how
     have HG9:=zh hg9
     have HAT9:=zh hat9
     clear how hg9 hat9 hgl hne hk9
     go_wp2_with fail
     go_ret
     have hg9:wr.grownBy w9 sm.cv.ownBlock:=by rw[HSV.out];exact HG9.out
     exact HFIN.out _ _ _ (HBN.out.setc (cs:=sm.x.causes++[⟨4,-1⟩]) (cv:=.slice Av (CL+1) kv) HML.out.symm HKS.out hg9 HOW9.out (by
       rcases HAT9.out with h | h
       ·exact .inl (by rw[HSV.out];exact h)
       ·exact .inr ⟨_,h,by omega⟩))
      ((HBR.out.grown HG9.out HBR.out.size (fun b hb=>(World.ownsRow.lt HSO.out b hb).1)).setCell (p:=⟨g,k * 5+4,none⟩) (HBN.out.row.lt g rfl).1 _) (by rw[List.length_set];have:=HML.out;omega) (fun y hy=>by
      rcases List.mem_or_eq_of_mem_set hy with h1 | h1
      ·have:=HMC.out y h1;omega
      ·subst h1;show(sm.x.causes++[(⟨4,-1⟩:Cau)]).length≤901;rw[List.length_append,List.length_singleton];have:=HCL2.out;omega)
    ·obtain⟨x0,-⟩:=HX.out 0 _ rfl
     obtain⟨x1,-⟩:=HX.out 1 _ rfl
     obtain⟨x2,-⟩:=HX.out 2 _ rfl
     obtain⟨x3,-⟩:=HX.out 3 _ rfl
     obtain⟨x4,-⟩:=HX.out 4 _ rfl
     rw[Nat.add_zero] at x0
     have HNEW:=zh (HBN.out.incs.each sm (List.mem_of_getElem? HKS.out))
     have HIN:=zh HBN.out.incs
     go_wp2_with (at_builtin;refine app_inc sm.x sm.cv _ _ rfl rfl W0.heap.size _ M rfl HIN.out HNEW.out rfl (by have:=HML.out;omega) HBR.out.size ?_)
     intro v2 w11 hbn11 hg11
     have HB11:=zh (HBR.out.grown hg11 HBR.out.size (fun k hk=>(HBN.out.row.lt k hk).1))
     have HBN11:=zh hbn11
     clear hbn11 hg11 x0 x1 x2 x3 x4
     go_wp2_with fail
     go_ret
     exact⟨v2,(M++[(⟨sm.x,sm.cv⟩:IncW)]).map (fun s:IncW=>s.x),rfl,SlS.mono incK HBN11.out.slS (fun b hb=>⟨Nat.le_trans HB0.out.size hb.1,hb.2⟩),by rw[List.length_map,List.length_append,HML.out];show LN+1≤901;omega,fun y hy=>by
      obtain⟨s,hs,rfl⟩:=List.mem_map.1 hy
      rcases List.mem_append.1 hs with h1 | h1
      ·have:=HMC.out s h1;omega
      ·rw[List.mem_singleton.1 h1];have:=HMC.out sm (List.mem_of_getElem? HKS.out);show sm.x.causes.length≤901;omega,HRE.out _ HB11.out⟩
end Go.Proofs.YtcfkllnpkmebpaaGreatDoor

namespace Go.Proofs.YtcfkllnpkmebpaaGreatDoor
open Go.RowKit
set_option linter.unusedVariables false
set_option linter.unusedSimpArgs false
def upF(r:Re) (v s:Int) (set:List Nat) (i:Nat):Bool:=(pieces r).any fun x=>isB x.p v (i:Int) s&&(onB r x.drive||decide (x.drive∈set))
def cntS(r:Re) (v s:Int) (n:Nat) (set:List Nat):Nat:=((List.range n).filter (upF r v s set)).length
theorem upF_iff{r:Re} {v s:Int} {set:List Nat} {i:Nat}:upF r v s set i=true↔∃x∈pieces r,isB x.p v (i:Int) s=true∧(onB r x.drive=true∨x.drive∈set):=by
 unfold upF
 rw[List.any_eq_true]
 constructor
 ·rintro ⟨x,hx,h⟩
  rw[Bool.and_eq_true,Bool.or_eq_true,decide_eq_true_eq] at h
  exact⟨x,hx,h⟩
 ·rintro ⟨x,hx,h1,h2⟩
  exact⟨x,hx,by rw[Bool.and_eq_true,Bool.or_eq_true,decide_eq_true_eq];exact⟨h1,h2⟩⟩
theorem pieces_lt(r:Re):∀x∈pieces r,x.drive<r.plat.length:=fun x hx=>by
 have:=piecesTo_drive r _ x hx;omega
def anyF(r:Re) (v s:Int) (i:Nat):Bool:=(pieces r).any fun x=>isB x.p v (i:Int) s
theorem anyF_iff{r:Re} {v s:Int} {i:Nat}:anyF r v s i=true↔∃x∈pieces r,isB x.p v (i:Int) s=true:=by
 unfold anyF
 rw[List.any_eq_true]
theorem src_up(r:Re) (v f s:Int):0≤srcI r (pieces r) v f s true↔∃x∈pieces r,isB x.p v f s=true∧onB r x.drive=true:=by
 rw[srcI_has,List.any_eq_true]
 constructor
 ·rintro ⟨x,hx,h⟩
  rw[srcB_on,Bool.and_eq_true] at h
  exact⟨x,hx,h⟩
 ·rintro ⟨x,hx,h⟩
  exact⟨x,hx,by rw[srcB_on,Bool.and_eq_true];exact h⟩
theorem int_count(r:Re) (v s:Int) (on:Bool) (n:Nat) (hn:n≤8):((intI r v s on).filter (fun x=>decide (x<(n:Int)))).length=((List.range n).filter (fun i:Nat=>decide (0≤srcI r (pieces r) v (i:Int) s on))).length:=by
 have h:∀m,((intTo r (pieces r) v s on m).filter (fun x=>decide (x<(n:Int)))).length=((List.range (min m n)).filter (fun i:Nat=>decide (0≤srcI r (pieces r) v (i:Int) s on))).length:=by
  intro m
  induction m with
  | zero=>simp[intTo]
  | succ m ih =>
   rw[intTo_succ,List.filter_append,List.length_append,ih]
   by_cases hm:m<n
   ·rw[show min (m+1) n=m+1 by omega,show min m n=m by omega,List.range_succ,List.filter_append,List.length_append]
    congr 1
    by_cases hs:0≤srcI r (pieces r) v (m:Int) s on
    ·simp[hs,hm]
    ·simp[hs]
   ·rw[show min (m+1) n=n by omega,show min m n=n by omega]
    by_cases hs:0≤srcI r (pieces r) v (m:Int) s on
    ·simp[hs,hm]
    ·simp[hs]
 unfold intI
 rw[h 8,show min 8 n=n by omega]
theorem cnt_up(r:Re) (v s:Nat) (n:Nat) (hn:n≤8):cntI r v s true (n:Int)=(cntS r (v:Int) (s:Int) n []:Int):=by
 unfold cntI cntS
 rw[int_count _ _ _ _ n hn]
 congr 2
 apply List.filter_congr
 intro i hi
 rw[Bool.eq_iff_iff,decide_eq_true_eq,src_up,upF_iff]
 simp
theorem cnt_all(r:Re) (v s:Nat) (n:Nat) (hn:n≤8):cntI r v s false (n:Int)=(((List.range n).filter (anyF r (v:Int) (s:Int))).length:Int):=by
 unfold cntI
 rw[int_count _ _ _ _ n hn]
 congr 2
 apply List.filter_congr
 intro i hi
 rw[Bool.eq_iff_iff,decide_eq_true_eq,srcI_has,List.any_eq_true,anyF_iff]
 constructor
 ·rintro ⟨x,hx,h⟩;rw[srcB_off] at h;exact⟨x,hx,h⟩
 ·rintro ⟨x,hx,h⟩;exact⟨x,hx,by rw[srcB_off];exact h⟩
end Go.Proofs.YtcfkllnpkmebpaaGreatDoor

namespace Go.Proofs.YtcfkllnpkmebpaaGreatDoor
open Go.RowKit
set_option linter.unusedVariables false
set_option linter.unusedSimpArgs false
end Go.Proofs.YtcfkllnpkmebpaaGreatDoor

namespace Go.Proofs.YtcfkllnpkmebpaaGreatDoor
open Go.RowKit
set_option linter.unusedVariables false
set_option linter.unusedSimpArgs false
end Go.Proofs.YtcfkllnpkmebpaaGreatDoor

namespace Go.Proofs.YtcfkllnpkmebpaaGreatDoor
end Go.Proofs.YtcfkllnpkmebpaaGreatDoor

namespace Go.Proofs.YtcfkllnpkmebpaaGreatDoor
open Go.RowKit
set_option linter.unusedVariables false
set_option linter.unusedSimpArgs false
end Go.Proofs.YtcfkllnpkmebpaaGreatDoor

namespace Go.Proofs.YtcfkllnpkmebpaaGreatDoor
open Go.RowKit
set_option linter.unusedVariables false
set_option linter.unusedSimpArgs false
theorem keyL_in(F:FltM) (r:Re) (cond:Int→Int→Int→Bool) (ext NO v s:Nat) (hv:v<NO) (hs:s<ext):(v,s)∈keyL F r cond ext NO 0↔keyP F r cond (v,s)=true:=by
 unfold keyL
 rw[List.mem_filter]
 have hm:(v,s)∈keysTo ext NO 0:=by
  unfold keysTo
  exact List.mem_append_left _ (List.mem_flatMap.2 ⟨v,List.mem_range.2 hv,List.mem_map.2 ⟨s,List.mem_range.2 hs,rfl⟩⟩)
 exact⟨fun h=>h.2,fun h=>⟨hm,h⟩⟩
theorem keyL_dec(F:FltM) (r:Re) (cond:Int→Int→Int→Bool) (ext NO v s:Nat) (hv:v<NO) (hs:s<ext):decide ((v,s)∈keyL F r cond ext NO 0)=keyP F r cond (v,s):=by
 rw[Bool.eq_iff_iff,decide_eq_true_eq];exact keyL_in F r cond ext NO v s hv hs
end Go.Proofs.YtcfkllnpkmebpaaGreatDoor

namespace Go.Proofs.YtcfkllnpkmebpaaGreatDoor
open Go.RowKit
set_option linter.unusedVariables false
set_option linter.unusedSimpArgs false
theorem in_any(va:Value) (ks:List (Nat×Nat)) (x y:Nat) (R:Nat→Prop) (w:World) (ha:SlS 2 KyK w R va ks) (hR:∀b,R b→b<w.heap.size) :
  Calls Tryz.prog 39 #[va,.agg #[.int .i64 (x:Int),.int .i64 (y:Int)]] w fun e w'=>e=.returned (.bool (decide ((x,y)∈ks)))∧Below w.heap.size w w':=by
 obtain⟨A,c,rfl,h1,h2⟩:=ha.form
 unfold maxLen at h2
 obtain⟨W0,hW0⟩:=zx (w.alloc (.cells #[.int .i64 (x:Int),.int .i64 (y:Int)] 67))
 obtain⟨q,hq⟩:=zx w.heap.size
 have hb0:Below w.heap.size w W0:=by rw[hW0];exact(Below.refl _ _).alloc (Nat.le_refl _) _
 have p0:W0.cell? ⟨q,0,none⟩=some (.int .i64 (x:Int)):=by rw[hW0,hq];simp
 have p1:W0.cell? ⟨q,1,none⟩=some (.int .i64 (y:Int)):=by rw[hW0,hq];simp
 have hq0:q<W0.heap.size:=by rw[hW0,hq];simp
 have HA:=zh ha
 have HB0:=zh hb0
 have HW0:=zh hW0
 have HQ:=zh hq
 have HQ0:=zh hq0
 have HR:=zh hR
 obtain⟨L,hL⟩:=zx ks.length
 rw[←hL] at HA h1 h2 ⊢
 have HL:=zh hL
 obtain⟨res,hres⟩:=zx (decide ((x,y)∈ks))
 rw[←hres]
 have HRES:=zh hres
 clear ha hL hW0 hq hb0 hq0 hres hR
 go_enter Tryz.func39,Tryz.ntmps39
 go_wp2_with fail
 rw[←HW0.out,←HQ.out]
 go_loopg [5] L (fun z v5 wr=>∃j:Nat,j≤L∧z=L - j∧v5=.int .i64 (j:Int)∧Hid (∀k∈ks.take j,k≠(x,y))∧Hid (Below W0.heap.size W0 wr))
 case atStart=>exact⟨0,by omega,rfl,rfl,zh (fun k hk=>by simp at hk),zh (Below.refl _ _)⟩
 case round =>
  obtain⟨j,hj,rfl,rfl,HN,HB⟩:=hrel
  have e0:=(HB.out.cell (p:=⟨q,0,none⟩) HQ0.out).trans p0
  have e1:=(HB.out.cell (p:=⟨q,1,none⟩) HQ0.out).trans p1
  have HBB:=zh (HB0.out.trans (HB.out.mono HB0.out.size))
  by_cases hlt:j<L
  ·have hjl:j<ks.length:=by rw[←HL.out];exact hlt
   obtain⟨b,off,cs,rfl,hRb,-,hc,hcs⟩:=HA.out.at_ (k:=j) hjl
   obtain⟨c0,c1⟩:=two_ky hc hcs
   have hbw:=HR.out b hRb
   have d0:=(HBB.out.cell (p:=⟨b,off+j * 2,none⟩) hbw).trans c0
   have d1:=(HBB.out.cell (p:=⟨b,off+j * 2+1,none⟩) hbw).trans c1
   have HKM:=zh (List.getElem_mem hjl)
   have HST:=zh (fun(h:ks[j]≠(x,y))=>(fun k hk=>by
    rw[List.take_succ_eq_append_getElem hjl,List.mem_append,List.mem_singleton] at hk
    rcases hk with hk | rfl
    ·exact HN.out k hk
    ·exact h:∀k∈ks.take (j+1),k≠(x,y)))
   clear c0 c1 hc hcs
   generalize ks[j]=u at *
   obtain⟨u1,u2⟩:=u
   simp only at d0 d1
   by_cases hu:u1=x∧u2=y
   ·obtain⟨rfl,rfl⟩:=hu
    have HE:=zh (show res=true by rw[HRES.out];exact decide_eq_true HKM.out)
    go_upto_region 4 with fail
    go_quiet (fail)
    go_wp2_with fail
    go_ret
    exact⟨by rw[HE.out];rfl,(by first | exact HBB.out | exact Below.drewN' HBB.out _)⟩
   ·have HS:=zh (HST.out (fun e=>hu (by injection e with e1 e2;exact⟨e1,e2⟩)))
    by_cases e:u1=x
    ·subst e
     have hv:((u2:Int)==(y:Int))=false:=by rw[beq_eq_false_iff_ne];exact fun e2=>hu ⟨rfl,by omega⟩
     clear hu
     go_upto_region 4 with fail
     go_quiet (fail)
     go_wp2_with fail
     go_roundg (L - (j+1))
     case measure=>omega
     case rel=>exact⟨j+1,by omega,rfl,by go_num,HS,zh (by first | exact HB.out | exact Below.drewN' HB.out _)⟩
    ·have hv:((u1:Int)==(x:Int))=false:=by rw[beq_eq_false_iff_ne];omega
     clear hu e
     go_upto_region 4 with fail
     go_quiet (fail)
     go_wp2_with fail
     go_roundg (L - (j+1))
     case measure=>omega
     case rel=>exact⟨j+1,by omega,rfl,by go_num,HS,zh (by first | exact HB.out | exact Below.drewN' HB.out _)⟩
  ·have HE:=zh (show res=false by rw[HRES.out];exact decide_eq_false (fun h=>HN.out _ (by rw[List.take_of_length_le (by have:=HL.out;omega)];exact h) rfl))
   go_wp2_with fail
   go_ret
   exact⟨by rw[HE.out];rfl,HBB.out⟩
end Go.Proofs.YtcfkllnpkmebpaaGreatDoor

namespace Go.Proofs.YtcfkllnpkmebpaaGreatDoor
open Go.RowKit
open Go.ChangeMaps Go.MapKept Go.WideShapes
open Go.WideElems (Fit rd rg pl rd_key rd_val rg_of)
open Go.Maps (Keyed)
set_option linter.unusedVariables false
set_option linter.unusedSimpArgs false
section
variable {κ : Type} {kval : κ → Value} {ok : κ → Prop}
variable {w w' : World} {kt t e : TypeId} {b n : Nat} {f : κ → Option Value} {x : κ} {z : Value}
end
section
variable {κ : Type} {kval : κ → Value} {ok : κ → Prop}
variable {w : World} {ops : Array Oper} {rest : List Oper} {o : Oper} {a : Act} {Q : Exit → Act → World → Prop}
end
end Go.Proofs.YtcfkllnpkmebpaaGreatDoor

namespace Go.Proofs.YtcfkllnpkmebpaaGreatDoor
open Go.RowKit
open Go.ChangeMaps Go.MapKept Go.WideShapes
open Go.WideElems (Fit rd rg pl rd_key rd_val rg_of)
open Go.Maps (Keyed)
set_option linter.unusedVariables false
set_option linter.unusedSimpArgs false
structure Ky3 where
 v:Int
 f:Int
 s:Int
deriving DecidableEq
def k3(x:Ky3):Value:=.agg #[.int .i64 x.v,.int .i64 x.f,.int .i64 x.s]
end Go.Proofs.YtcfkllnpkmebpaaGreatDoor

namespace Go.Proofs.YtcfkllnpkmebpaaGreatDoor
open Go.RowKit
set_option linter.unusedVariables false
set_option linter.unusedSimpArgs false
end Go.Proofs.YtcfkllnpkmebpaaGreatDoor

namespace Go.Proofs.YtcfkllnpkmebpaaGreatDoor
open Go.RowKit
set_option linter.unusedVariables false
set_option linter.unusedSimpArgs false
end Go.Proofs.YtcfkllnpkmebpaaGreatDoor

namespace Go.Proofs.YtcfkllnpkmebpaaGreatDoor
open Go.RowKit
open Go.ChangeMaps Go.MapKept Go.WideShapes
set_option linter.unusedVariables false
set_option linter.unusedSimpArgs false
end Go.Proofs.YtcfkllnpkmebpaaGreatDoor

namespace Go.Proofs.YtcfkllnpkmebpaaGreatDoor
open Go.RowKit
set_option linter.unusedVariables false
set_option linter.unusedSimpArgs false
end Go.Proofs.YtcfkllnpkmebpaaGreatDoor

namespace Go.Proofs.YtcfkllnpkmebpaaGreatDoor
open Go.RowKit
set_option linter.unusedVariables false
set_option linter.unusedSimpArgs false
def causL(r:Re) (v s:Int) (n:Nat):List Cau:=(List.range n).map fun i:Nat=>causeOf r v (i:Int) s
theorem causL_len(r:Re) (v s:Int) (n:Nat):(causL r v s n).length=n:=by unfold causL;simp
theorem causL_succ(r:Re) (v s:Int) (n:Nat):causL r v s (n+1)=causL r v s n++[causeOf r v (n:Int) s]:=by
 unfold causL
 rw[List.range_succ,List.map_append]
 rfl
theorem incOf_eq(F:FltM) (r:Re) (lost:Bool) (v s KN KM:Nat) (hk:kOf F v=(KN:Int)) (hm:kOf F v+mOf F v=(KM:Int)):incOf F r lost (v,s)=⟨(v:Int),(s:Int),lost,(KN:Int),causL r (v:Int) (s:Int) KM⟩:=by
 unfold incOf causL
 dsimp only
 rw[hm,hk,Int.toNat_natCast]
structure IncT (W0:World) (g:Nat) (c0 c1 c2 c3:Value) (w:World) (cv:Value) (l:List Cau):Prop where
 hot:Below W0.heap.size W0 w
 row:w.heap[g]?=some (.cells #[c0,c1,c2,c3,cv] 27 (0,0))
 own:OwnCau w W0.heap.size cv l
 ge:W0.heap.size≤g
section
variable {W0 w w' : World} {g : Nat} {c0 c1 c2 c3 cv : Value} {l : List Cau}
theorem IncT.lt(h:IncT W0 g c0 c1 c2 c3 w cv l):g<w.heap.size:=(Array.getElem?_eq_some_iff.1 h.row).1
theorem IncT.below(h:IncT W0 g c0 c1 c2 c3 w cv l) (hb:Below w.heap.size w w'):IncT W0 g c0 c1 c2 c3 w' cv l :=
 ⟨h.hot.trans (hb.mono h.hot.size),(hb.block g h.lt).trans h.row,h.own.below hb,h.ge⟩
theorem IncT.cells(h:IncT W0 g c0 c1 c2 c3 w cv l):w.cell? ⟨g,4,none⟩=some cv∧w.frozen? ⟨g,4,none⟩=false∧g<w.heap.size :=
 ⟨by rw[cell_of_row _ _ _ _ _ _ h.row];rfl,frozen_of_row _ _ _ _ _ h.row,h.lt⟩
theorem IncT.grown(h:IncT W0 g c0 c1 c2 c3 w cv l) (hg:w.grownBy w' cv.ownBlock):Below W0.heap.size W0 w'∧w'.heap[g]?=some (.cells #[c0,c1,c2,c3,cv] 27 (0,0)) :=
 ⟨below_hotW h.hot (HotBy.grown (hot:=[cv.ownBlock]) hg (.inl (by simp))) (fun x hx=>(h.own.lt x (by simp at hx;exact hx.symm)).1),
  (hg.block g h.lt (fun e=>own_nty h.own h.row (by decide) e.symm)).trans h.row⟩
theorem IncT.push{cv':Value} {c:Cau} (h:IncT W0 g c0 c1 c2 c3 w cv l) (hg:w.grownBy w' cv.ownBlock) (hown:OwnCau w' W0.heap.size cv' (l++[c])):IncT W0 g c0 c1 c2 c3 (w'.setCell ⟨g,4,none⟩ cv') cv' (l++[c]):=by
 obtain⟨h1,h2⟩:=h.grown hg
 have hh:HotBy [some g] w' (w'.setCell ⟨g,4,none⟩ cv'):=HotBy.setCell _ _ _ _ (by simp)
 refine⟨below_hotW h1 hh (fun x hx=>by simp at hx;rw[hx];exact h.ge),heap_setCell_same _ g 4 _ _ cv' h2,?_,h.ge⟩
 exact own_hot hown hh (fun b hb e=>by simp at e;subst e;exact own_nty hown h2 (by decide) hb)
theorem IncT.all(h:IncT W0 g c0 c1 c2 c3 w cv l):w.rangeAt g 0 [c0,c1,c2,c3,cv]:=World.rangeAt_of_block h.row 0 5
end
end Go.Proofs.YtcfkllnpkmebpaaGreatDoor

namespace Go.Proofs.YtcfkllnpkmebpaaGreatDoor
open Go.RowKit
open Go.ChangeMaps Go.MapKept Go.WideShapes
set_option linter.unusedVariables false
set_option linter.unusedSimpArgs false
theorem size_inc:(Tryz.prog.info? 27).map (·.size)=some 5:=by kernel_rfl
end Go.Proofs.YtcfkllnpkmebpaaGreatDoor
