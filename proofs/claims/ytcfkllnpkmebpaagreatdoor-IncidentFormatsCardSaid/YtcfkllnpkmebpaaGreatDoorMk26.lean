/- The reference's Format, walked. -/
import Derived.Test.YtcfkllnpkmebpaaGreatDoorMk24
import Derived.Test.YtcfkllnpkmebpaaGreatDoorMk25
import Derived.Test.YtcfkllnpkmebpaaGreatDoorMk01
import Derived.Deep.Upon
import Derived.Laws.AppendOwnNone
import Derived.Test.YtcfkllnpkmebpaaGreatDoorMk20
import Derived.Lib.BufferMore
import Derived.Lib.BufferWrite
set_option maxRecDepth 100000
set_option maxHeartbeats 12800000
namespace Go.Proofs.YtcfkllnpkmebpaaGreatDoor
open Go.RowKit Go.Shelf
set_option linter.unusedVariables false
set_option linter.unusedSimpArgs false
theorem rformat_any(N:Nat) (hN:N≤12) (vl vm vd vv vp vo vL:Value) (F:FltM) (L:List Inc) (w:World) (hf:FleetS w (Bl w.heap.size) vl vm vd vv vp vo F) (hok:FleetOk N F) (hL:SlS 5 IncK w (Bl w.heap.size) vL L) (hlen:L.length≤1000) (hcl:∀x∈L,x.causes.length≤1000) :
  Calls Tryz.prog 15 #[.agg #[.int .i64 F.ext,vl,vm,vd,vv,vp,vo],vL] w fun e w'=>e=.returned (.tuple #[.string ⟨(fmtR F L).1.toArray⟩,.int .i64 (fmtR F L).2])∧Below w.heap.size w w':=by
 obtain⟨pb,pof,ob,oof,cp,co,rfl,rfl,hRp,hRo,-⟩:=polAt hf hok
 obtain⟨Ad,cd,rfl,-,-⟩:=SlS.form hf.2.2.2.1
 obtain⟨AL,cL,rfl,-,-⟩:=hL.form
 have HVI:=zh (fun(w':World) (hb:Below w.heap.size w w')=>rvalidI_any N hN vl vm vd _ _ _ _ F L w' (hf.below hb) hok (SlS.mono incK (SlS.keep incK hL (fun b h=>hb.block b h)) (fun b h=>Nat.lt_of_lt_of_le h hb.size)) hlen hcl)
 have HLW:=zh (fun(w':World) (hb:Below w.heap.size w w')=>(show SlS 5 IncK w' (Bl w.heap.size) _ L from SlS.keep incK hL (fun b h=>hb.block b h)))
 have HVN:=zh (fun(v:Nat) (hv:v<F.vols.length) (w':World) (hb:Below w.heap.size w w')=>(show w'.cell? ⟨ob,oof+v * 2,none⟩=some (.string (nmOf F v))∧(nmOf F v).size=3 from⟨(hb.cell (p:=⟨ob,oof+v * 2,none⟩) hRo).trans (vol_name hf hok hv).1,(vol_name hf hok hv).2⟩))
 have HDN:=zh (fun(d:Nat) (hd:d<F.dves.length) (w':World) (hb:Below w.heap.size w w')=>(show(∃b off,Ad=some ⟨b,off,none⟩∧b<w.heap.size∧w'.cell? ⟨b,off+d * 3,none⟩=some (.string (dnOf F d)))∧(dnOf F d).size=3 from by
  obtain⟨⟨b,off,h1,h2,h3⟩,h4⟩:=drv_name hf hok hd
  exact⟨⟨b,off,h1,h2,(hb.cell (p:=⟨b,off+d * 3,none⟩) h2).trans h3⟩,h4⟩))
 have HKM:=zh (fun(a:Nat) (ha:a<F.vols.length)=>kmq_ok hok ha)
 have hno:F.vols.length≤12:=Nat.le_trans hok.volN hN
 have hext:F.ext=1∨F.ext=2:=hok.ext
 have hnd:F.dves.length≤9:=hok.dveN
 have HDL:=zh (fun d=>dn_len hok d)
 have HALL:=zh (fun h:validB F L=true=>all_ok h)
 obtain⟨R,hR⟩:=zx (fmtR F L)
 obtain⟨VB,hVB⟩:=zx (validB F L)
 rw[←hVB] at HVI HALL
 have HRR:=zh (show R=if VB=true then(fmtT F L,0) else([],1) by rw[hR,hVB];rfl)
 rw[←hR]
 obtain⟨EX,hEX⟩:=zx F.ext
 obtain⟨ND,hND⟩:=zx F.dves.length
 obtain⟨NO,hNO⟩:=zx F.vols.length
 obtain⟨NP,hNP⟩:=zx F.pols.length
 obtain⟨LN,hLN⟩:=zx L.length
 rw[←hEX,←hND,←hNO,←hNP] at HVI ⊢
 rw[←hLN] at HVI HLW hlen ⊢
 rw[←hEX] at hext
 rw[←hND] at hnd
 rw[←hNO] at hno
 have HE:=zh (And.intro hEX (And.intro hND hNO))
 have HLN:=zh hLN
 obtain⟨W0,hW0⟩:=zx (w.alloc (.cells #[.int .i64 EX,vl,vm,vd,.slice Ad ND cd,.slice (some ⟨pb,pof,none⟩) NP cp,.slice (some ⟨ob,oof,none⟩) NO co] 35))
 obtain⟨z,hz⟩:=zx w.heap.size
 have hb0:Below w.heap.size w W0:=by rw[hW0];exact(Below.refl _ _).alloc (Nat.le_refl _) _
 have hzk:W0.heap[z]?=some (.cells #[.int .i64 EX,vl,vm,vd,.slice Ad ND cd,.slice (some ⟨pb,pof,none⟩) NP cp,.slice (some ⟨ob,oof,none⟩) NO co] 35 (0,0)):=by rw[hW0,hz];exact heap_alloc_new w _
 have hzl:z<W0.heap.size:=(Array.getElem?_eq_some_iff.1 hzk).1
 have HC:=zh (fun(w':World) (hb:Below W0.heap.size W0 w')=>cells7 ((hb.block z hzl).trans hzk))
 have HRE:=zh (fun(w':World) (hb:Below W0.heap.size W0 w')=>hb0.trans (hb.mono hb0.size))
 have HW0:=zh hW0
 have HZ:=zh hz
 have HB0:=zh hb0
 obtain⟨c0,c1,c2,c3,c4,c5,c6⟩:=HC.out W0 (Below.refl _ _)
 clear hf hok hL hcl hRp hRo hR hVB hEX hND hNO hNP hLN hW0 hz hb0 hzk hzl hN
 go_enter Tryz.func15,Tryz.ntmps15
 go_upto_region 1 with fail
 rw[←HW0.out,←HZ.out]
 go_wp2_with fail
 refine(HVI.out _ HB0.out).mono ?_
 rintro e w1 ⟨rfl,hb1⟩
 have HB1:=zh hb1
 clear c0 c1 c2 c3 c4 c5 c6 hb1
 cases VB with
 | false =>
  have HR:=zh (show R=([],1) by rw[HRR.out];rfl)
  go_wp2_with fail
  go_ret2
  exact⟨tup2 (by rw[HR.out]) (by rw[HR.out]),HRE.out _ HB1.out⟩
 | true =>
  have HR:=zh (show R=(fmtT F L,0) by rw[HRR.out];rfl)
  go_wp2_with fail
  go_loopg [6,7] LN (fun z v6 v7 wr=>∃(i:Nat) (O:ByteArray),v6=.string O∧v7=.int .i64 (i:Int)∧i≤LN∧z=LN - i∧Hid (O=⟨(fmtT F (L.take i)).toArray⟩)∧Hid ((fmtT F (L.take i)).length≤i * 200)∧Hid (Below w1.heap.size w1 wr))
  case atStart=>exact⟨0,_,rfl,rfl,Nat.zero_le _,rfl,zh (by simp[fmtT]),zh (by simp[fmtT]),zh (Below.refl _ _)⟩
  case round =>
   obtain⟨i,O,rfl,rfl,hi,rfl,HO,HLE,HBR⟩:=hrel
   by_cases hlt:i<LN
   ·have HLT:=zh hlt
    have hil:i<L.length:=by rw[←HLN.out];exact hlt
    have hb0r:=HB1.out.trans (HBR.out.mono HB1.out.size)
    have hbw:=HRE.out wr hb0r
    obtain⟨b,off,cs,hA,hRb,-,hc,hcs⟩:=(HLW.out wr hbw).at_ (k:=i) hil
    subst hA
    obtain⟨Ax,cx,x0,x1,x2,x3,x4,hsl,-⟩:=five_inc hc hcs
    have HOK:=zh (one_parts (HALL.out (by simp) _ (List.getElem_mem hil)))
    have HFN:=zh (fmt_next F hil)
    obtain⟨x,hx⟩:=zx (L[i])
    rw[←hx] at x0 x1 x2 x3 x4 hsl HOK HFN
    obtain⟨xv,xs,xl,xn,xc⟩:=x
    simp only at x0 x1 x2 x3 x4 hsl
    obtain⟨h1,h2,h3,h4⟩:=HOK.out
    simp only at h1 h2 h3 h4
    rw[←HE.out.1,←HE.out.2.2,isStr_iff] at h1
    obtain⟨⟨hv0,hv1⟩,⟨hs0,hs1⟩⟩:=h1
    obtain⟨v,rfl⟩:∃v:Nat,xv=(v:Int):=⟨xv.toNat,by omega⟩
    obtain⟨s,rfl⟩:∃s:Nat,xs=(s:Int):=⟨xs.toNat,by omega⟩
    rw[Int.toNat_natCast] at h2 h4
    have hvF:v<F.vols.length:=by rw[←HE.out.2.2];omega
    obtain⟨hk12,hm0,hm2,-,-⟩:=HKM.out v hvF
    obtain⟨KN,rfl⟩:∃k:Nat,xn=(k:Int):=⟨xn.toNat,by omega⟩
    have hkn:KN≤2:=by omega
    have hfl:=fin_len h4
    have hcn4:xc.length≤4:=by omega
    have HCA:=zh h3
    have HINC:=zh (show incT F ⟨(v:Int),(s:Int),xl,(KN:Int),xc⟩=headL xl (nmOf F v) s KN++(10 :: linesT F 0 xc) from by unfold incT;simp only[Int.toNat_natCast])
    obtain⟨CN,hCN⟩:=zx xc.length
    rw[←hCN] at x4 hsl hcn4
    have HCN:=zh hCN
    have HSL:=zh hsl
    have HRB:=zh (show b<w.heap.size from hRb)
    have HXC:=zh (And.intro x0 (And.intro x1 (And.intro x2 (And.intro x3 x4))))
    have HSLQ:=zh (fun(w':World) (hb:Below w.heap.size w w')=>(show SlS 2 CauK w' (Bl w.heap.size) (.slice Ax CN cx) xc from SlS.keep cauK HSL.out (fun bb hbb=>(hb.block bb hbb).trans ((HRE.out wr (HB1.out.trans (HBR.out.mono HB1.out.size))).block bb hbb).symm)))
    have HSA:=zh (fun(w':World) (hb:Below w1.heap.size w1 w')=>(show(w'.cell? ⟨z,0,none⟩=some (.int .i64 EX)∧w'.cell? ⟨z,1,none⟩=some vl∧w'.cell? ⟨z,2,none⟩=some vm∧w'.cell? ⟨z,3,none⟩=some vd∧w'.cell? ⟨z,4,none⟩=some (.slice Ad ND cd)∧w'.cell? ⟨z,5,none⟩=some (.slice (some ⟨pb,pof,none⟩) NP cp)∧w'.cell? ⟨z,6,none⟩=some (.slice (some ⟨ob,oof,none⟩) NO co))∧(w'.cell? ⟨b,off+i * 5,none⟩=some (.int .i64 (v:Int))∧w'.cell? ⟨b,off+i * 5+1,none⟩=some (.int .i64 (s:Int))∧w'.cell? ⟨b,off+i * 5+2,none⟩=some (.bool xl)∧w'.cell? ⟨b,off+i * 5+3,none⟩=some (.int .i64 (KN:Int))∧w'.cell? ⟨b,off+i * 5+4,none⟩=some (.slice Ax CN cx))∧Below w1.heap.size w1 w' from by
     have m:∀o u,wr.cell? ⟨b,o,none⟩=some u→w'.cell? ⟨b,o,none⟩=some u:=fun o u hu=>by
      have h1:=(HRE.out w' (HB1.out.trans (hb.mono HB1.out.size))).cell (p:=⟨b,o,none⟩) HRB.out
      have h2:=(HRE.out wr (HB1.out.trans (HBR.out.mono HB1.out.size))).cell (p:=⟨b,o,none⟩) HRB.out
      exact h1.trans (h2.symm.trans hu)
     exact⟨HC.out w' (HB1.out.trans (hb.mono HB1.out.size)),⟨m _ _ HXC.out.1,m _ _ HXC.out.2.1,m _ _ HXC.out.2.2.1,m _ _ HXC.out.2.2.2.1,m _ _ HXC.out.2.2.2.2⟩,hb⟩))
    obtain⟨H,hH⟩:∃b:ByteArray,b=⟨(headL xl (nmOf F v) s KN++[10]).toArray⟩:=⟨_,rfl⟩
    have hnz:=(HVN.out v hvF wr hbw).2
    have HHD:=zh (fun(w':World) (hb:Below w1.heap.size w1 w')=>(show Calls Tryz.prog 46 #[.agg #[.int .i64 EX,vl,vm,vd,.slice Ad ND cd,.slice (some ⟨pb,pof,none⟩) NP cp,.slice (some ⟨ob,oof,none⟩) NO co],.agg #[.int .i64 (v:Int),.int .i64 (s:Int),.bool xl,.int .i64 (KN:Int),.slice Ax CN cx]] w' fun e w2=>e=.returned (.string H)∧Below w'.heap.size w' w2 from by
     rw[hH]
     exact rhead_any xl EX vl vm vd (.slice Ad ND cd) (.slice (some ⟨pb,pof,none⟩) NP cp) (.slice Ax CN cx) ob oof NO co v s KN (nmOf F v) w' (by omega) (by omega) (by omega) (by omega) (by omega) (HVN.out v hvF w' (HRE.out w' (HB1.out.trans (hb.mono HB1.out.size)))).1))
    have hhl:=headL_len xl (nmOf F v) s KN (by omega) (by omega) (by omega)
    have hHs:H.size≤31:=by rw[hH,size_l];simp only[List.length_append,List.length_cons,List.length_nil];omega
    have hOs:O.size≤200000:=by rw[HO.out,size_l];have:=HLE.out;omega
    have HLN2:=zh (show(fmtT F (L.take i)).length≤200000 by have:=HLE.out;omega)
    have nH:¬9223372036854775807<O.size+H.size:=by omega
    have HHL:=zh hH
    have HHZ:=zh hhl
    have hvO:(v:Int)<(NO:Int):=by omega
    clear hCN hx hH hhl hHs hOs hnz hsl hb0r hbw hc hcs hkn hfl h2 h4 h3 hv0 hv1 hs0 hs1 hm0 hm2 hk12 hvF hRb hil
    go_upto_region 7 with fail
    clear x0 x1 x2 x3 x4
    refine region_tail (S:=(fun w'=>(w'.cell? ⟨z,0,none⟩=some (.int .i64 EX)∧w'.cell? ⟨z,1,none⟩=some vl∧w'.cell? ⟨z,2,none⟩=some vm∧w'.cell? ⟨z,3,none⟩=some vd∧w'.cell? ⟨z,4,none⟩=some (.slice Ad ND cd)∧w'.cell? ⟨z,5,none⟩=some (.slice (some ⟨pb,pof,none⟩) NP cp)∧w'.cell? ⟨z,6,none⟩=some (.slice (some ⟨ob,oof,none⟩) NO co))∧(w'.cell? ⟨b,off+i * 5,none⟩=some (.int .i64 (v:Int))∧w'.cell? ⟨b,off+i * 5+1,none⟩=some (.int .i64 (s:Int))∧w'.cell? ⟨b,off+i * 5+2,none⟩=some (.bool xl)∧w'.cell? ⟨b,off+i * 5+3,none⟩=some (.int .i64 (KN:Int))∧w'.cell? ⟨b,off+i * 5+4,none⟩=some (.slice Ax CN cx))∧Below w1.heap.size w1 w')) [] (by kernel_rfl) (HSA.out _ HBR.out.drew) (fun hHeld=>?_)
    refine tk 0 19 ?_
    refine tk 1 20 ?_
    refine tk 2 21 ?_
    refine tk 3 22 ?_
    refine tk 4 23 ?_
    refine tk 5 24 ?_
    refine readyT (rs:=[6]) (by kernel_rfl) (by simp) ?_
    refine AllReadyT.cons rfl (fun K hK=>?_) ?_
    ·go_simp
     refine(HHD.out _ HBR.out.drew).mono ?_
     rintro e w5 ⟨rfl,hb5⟩
     have hx5:=(HBR.out.drew).trans (hb5.mono (HBR.out.drew).size)
     refine hK.out _ _ ?_ (fun hHeld=>?_)
     ·exact HSA.out _ hx5
     clear hK K
     (try simp only[Act.put,z1,z2,z3])
     refine tk 7 26 ?_
     refine tk 8 6 ?_
     refine doneT (by kernel_rfl) ?_ _
     clear hHeld
     have HX5:=zh hx5
     have HO2:=zh (show O++H=⟨(fmtT F (L.take i)++(headL xl (nmOf F v) s KN++(10 :: linesT F 0 (xc.take 0)))).toArray⟩ from by
      rw[HO.out,HHL.out];refine baEq ?_;simp[ByteArray.data_append,linesT])
     clear hx5 hb5 nH
     go_wp2_with fail
     go_loopg [6,8] CN (fun z v6 v8 wr=>∃(j:Nat) (P:ByteArray),v6=.string P∧v8=.int .i64 (j:Int)∧j≤CN∧z=CN - j∧Hid (P=⟨(fmtT F (L.take i)++(headL xl (nmOf F v) s KN++(10 :: linesT F 0 (xc.take j)))).toArray⟩)∧Hid ((linesT F 0 (xc.take j)).length≤j * 21)∧Hid (Below w1.heap.size w1 wr))
     case atStart=>exact⟨0,_,rfl,rfl,Nat.zero_le _,rfl,HO2,zh (by simp[linesT]),HX5⟩
     case round =>
      clear HO2 HX5
      obtain⟨j,P,rfl,rfl,hj,rfl,HP,HLJ,HBQ⟩:=hrel
      have x4:=(HSA.out wr HBQ.out).2.1.2.2.2.2
      by_cases hlj:j<CN
      ·have HLTJ:=zh hlj
       have hjl:j<xc.length:=by rw[←HCN.out];exact hlj
       have hbq:=HRE.out wr (HB1.out.trans (HBQ.out.mono HB1.out.size))
       obtain⟨bq,oq,cq,hAq,hRq,-,hcq,hcsq⟩:=(HSLQ.out wr hbq).at_ (k:=j) hjl
       subst hAq
       obtain⟨e0,e1⟩:=two_cau hcq hcsq
       have HNX:=zh (lines_next F hjl)
       have hcp:=cau_parts (HCA.out _ (List.getElem_mem hjl))
       obtain⟨cc,hcc⟩:=zx (xc[j])
       rw[←hcc] at e0 e1 HNX hcp
       obtain⟨st,dr⟩:=cc
       simp only at e0 e1 hcp
       obtain⟨hst,hdr,-⟩:=hcp
       have HRQ:=zh (show bq<w.heap.size from hRq)
       have HYC:=zh (And.intro e0 e1)
       have HSB:=zh (fun(w':World) (hb:Below w1.heap.size w1 w')=>(show(w'.cell? ⟨z,0,none⟩=some (.int .i64 EX)∧w'.cell? ⟨z,1,none⟩=some vl∧w'.cell? ⟨z,2,none⟩=some vm∧w'.cell? ⟨z,3,none⟩=some vd∧w'.cell? ⟨z,4,none⟩=some (.slice Ad ND cd)∧w'.cell? ⟨z,5,none⟩=some (.slice (some ⟨pb,pof,none⟩) NP cp)∧w'.cell? ⟨z,6,none⟩=some (.slice (some ⟨ob,oof,none⟩) NO co))∧(w'.cell? ⟨b,off+i * 5,none⟩=some (.int .i64 (v:Int))∧w'.cell? ⟨b,off+i * 5+1,none⟩=some (.int .i64 (s:Int))∧w'.cell? ⟨b,off+i * 5+2,none⟩=some (.bool xl)∧w'.cell? ⟨b,off+i * 5+3,none⟩=some (.int .i64 (KN:Int))∧w'.cell? ⟨b,off+i * 5+4,none⟩=some (.slice (some ⟨bq,oq,none⟩) CN cx))∧(w'.cell? ⟨bq,oq+j * 2,none⟩=some (.int .i64 st)∧w'.cell? ⟨bq,oq+j * 2+1,none⟩=some (.int .i64 dr))∧Below w1.heap.size w1 w' from by
        have h:=HSA.out w' hb
        have m:∀o u,wr.cell? ⟨bq,o,none⟩=some u→w'.cell? ⟨bq,o,none⟩=some u:=fun o u hu=>by
         have h1:=(HRE.out w' (HB1.out.trans (hb.mono HB1.out.size))).cell (p:=⟨bq,o,none⟩) HRQ.out
         have h2:=(HRE.out wr (HB1.out.trans (HBQ.out.mono HB1.out.size))).cell (p:=⟨bq,o,none⟩) HRQ.out
         exact h1.trans (h2.symm.trans hu)
        exact⟨h.1,h.2.1,⟨m _ _ HYC.out.1,m _ _ HYC.out.2⟩,hb⟩))
       have HDR:=zh hdr
       obtain⟨D,hD⟩:∃b:ByteArray,b=⟨(lineL j st (dnOf F dr.toNat)++[10]).toArray⟩:=⟨_,rfl⟩
       have HLI:=zh (fun(w':World) (hb:Below w1.heap.size w1 w')=>(show Calls Tryz.prog 47 #[.agg #[.int .i64 EX,vl,vm,vd,.slice Ad ND cd,.slice (some ⟨pb,pof,none⟩) NP cp,.slice (some ⟨ob,oof,none⟩) NO co],.int .i64 (j:Int),.agg #[.int .i64 st,.int .i64 dr]] w' fun e w2=>e=.returned (.string D)∧Below w'.heap.size w' w2 from by
        rw[hD]
        have hww:=HRE.out w' (HB1.out.trans (hb.mono HB1.out.size))
        exact rline_any j st dr (dnOf F dr.toNat) (.int .i64 EX) vl vm vd (.slice (some ⟨pb,pof,none⟩) NP cp) (.slice (some ⟨ob,oof,none⟩) NO co) Ad ND cd w' (by omega) hst (by omega) (by have:=HDL.out dr.toNat;omega) (fun h4=>by
         have hd:=HDR.out h4
         rw[←HE.out.2.1] at hd
         refine⟨hd.1,hd.2,?_⟩
         obtain⟨⟨b',off',h1,h2,h3⟩,-⟩:=HDN.out dr.toNat (by rw[←HE.out.2.1];omega) w' hww
         exact⟨b',off',h1,Nat.lt_of_lt_of_le h2 hww.size,h3⟩)))
       have hDl:=lineL_len j st (dnOf F dr.toNat) (by omega) (HDL.out _)
       have hDs:D.size≤21:=by rw[hD,size_l];simp only[List.length_append,List.length_cons,List.length_nil];omega
       have hPs:P.size≤300000:=by rw[HP.out,size_l];have h1:=HLN2.out;have h2:=HHZ.out;have h3:=HLJ.out;simp only[List.length_append,List.length_cons];omega
       have nD:¬9223372036854775807<P.size+D.size:=by omega
       have HP2:=zh (show P++D=⟨(fmtT F (L.take i)++(headL xl (nmOf F v) s KN++(10 :: linesT F 0 (xc.take (j+1))))).toArray⟩ from by
        rw[HP.out,hD,HNX.out];refine baEq ?_;simp[ByteArray.data_append])
       have HLL:=zh (show(linesT F 0 (xc.take (j+1))).length≤(j+1) * 21 from by rw[HNX.out];have h1:=HLJ.out;have h2:=hDl;simp only[List.length_append,List.length_cons,List.length_nil];omega)
       clear hD hDl hDs hPs hbq hcq hcsq hcc hRq hst hdr hjl
       go_upto_region 11 with fail
       clear e0 e1 x4
       refine region_tail (S:=(fun w'=>(w'.cell? ⟨z,0,none⟩=some (.int .i64 EX)∧w'.cell? ⟨z,1,none⟩=some vl∧w'.cell? ⟨z,2,none⟩=some vm∧w'.cell? ⟨z,3,none⟩=some vd∧w'.cell? ⟨z,4,none⟩=some (.slice Ad ND cd)∧w'.cell? ⟨z,5,none⟩=some (.slice (some ⟨pb,pof,none⟩) NP cp)∧w'.cell? ⟨z,6,none⟩=some (.slice (some ⟨ob,oof,none⟩) NO co))∧(w'.cell? ⟨b,off+i * 5,none⟩=some (.int .i64 (v:Int))∧w'.cell? ⟨b,off+i * 5+1,none⟩=some (.int .i64 (s:Int))∧w'.cell? ⟨b,off+i * 5+2,none⟩=some (.bool xl)∧w'.cell? ⟨b,off+i * 5+3,none⟩=some (.int .i64 (KN:Int))∧w'.cell? ⟨b,off+i * 5+4,none⟩=some (.slice (some ⟨bq,oq,none⟩) CN cx))∧(w'.cell? ⟨bq,oq+j * 2,none⟩=some (.int .i64 st)∧w'.cell? ⟨bq,oq+j * 2+1,none⟩=some (.int .i64 dr))∧Below w1.heap.size w1 w')) [] (by kernel_rfl) (HSB.out _ HBQ.out.drew) (fun hHeld=>?_)
       refine tk 0 37 ?_
       refine tk 1 38 ?_
       refine tk 2 39 ?_
       refine tk 3 40 ?_
       refine tk 4 41 ?_
       refine tk 5 42 ?_
       refine tk 6 43 ?_
       refine tk 7 44 ?_
       refine tk 8 45 ?_
       refine tk 9 46 ?_
       refine tk 10 47 ?_
       refine readyT (rs:=[11]) (by kernel_rfl) (by simp) ?_
       refine AllReadyT.cons rfl (fun K hK=>?_) ?_
       ·go_simp
        refine(HLI.out _ HBQ.out.drew).mono ?_
        rintro e w6 ⟨rfl,hb6⟩
        have hx6:=(HBQ.out.drew).trans (hb6.mono (HBQ.out.drew).size)
        refine hK.out _ _ ?_ (fun hHeld=>?_)
        ·exact HSB.out _ hx6
        clear hK K
        (try simp only[Act.put,z1,z2,z3])
        refine tk 12 49 ?_
        refine tk 13 6 ?_
        refine doneT (by kernel_rfl) ?_ _
        clear hHeld
        have HX6:=zh hx6
        clear hx6 hb6 nD
        go_wp2_with fail
        go_roundg (CN - (j+1))
        case measure=>have:=HLTJ.out;omega
        case rel=>exact⟨j+1,_,rfl,by go_num,by have:=HLTJ.out;omega,rfl,HP2,HLL,HX6⟩
       exact AllReadyT.nil
      ·have ej:j=CN:=by omega
       have HP2:=zh (show P=⟨(fmtT F (L.take (i+1))).toArray⟩ from by
        have h:=HP.out
        rw[List.take_of_length_le (l:=xc) (i:=j) (by rw[←HCN.out,ej];exact Nat.le_refl _)] at h
        rw[h,HFN.out,HINC.out])
       have HLN3:=zh (show(fmtT F (L.take (i+1))).length≤(i+1) * 200 from by
        have h1:=HLJ.out
        rw[List.take_of_length_le (l:=xc) (i:=j) (by rw[←HCN.out,ej];exact Nat.le_refl _)] at h1
        have h2:=HLE.out
        have h3:=HHZ.out
        rw[HFN.out,HINC.out]
        simp only[List.length_append,List.length_cons]
        omega)
       clear ej
       go_wp2_with fail
       go_roundg (LN - (i+1))
       case measure=>have:=HLT.out;omega
       case rel=>exact⟨i+1,_,rfl,by go_num,by have:=HLT.out;omega,rfl,HP2,HLN3,HBQ⟩
    exact AllReadyT.nil
   ·have HOE:=zh (show O=⟨(fmtT F L).toArray⟩ from by
     have h:=HO.out
     rw[List.take_of_length_le (by rw[←HLN.out];omega)] at h
     exact h)
    go_wp2_with fail
    go_ret2
    exact⟨by rw[HR.out,HOE.out];rfl,HRE.out _ (HB1.out.trans (HBR.out.mono HB1.out.size))⟩
end Go.Proofs.YtcfkllnpkmebpaaGreatDoor

namespace Go.Proofs.YtcfkllnpkmebpaaGreatDoor
open Go.RowKit
set_option linter.unusedVariables false
set_option linter.unusedSimpArgs false
theorem flatc_len:∀(l:List Cau),(l.flatMap cauC).length=l.length * 2
 | []=>rfl
 | x :: r=>by rw[List.flatMap_cons,List.length_append,flatc_len r,List.length_cons];show 2+_=_;omega
theorem flatc_at(l:List Cau) (j:Nat) (u:Value) (h:(l.flatMap cauC)[j]?=some u):∃(hk:j / 2<l.length),(cauC l[j / 2])[j % 2]?=some u:=by
 have hl:=(List.getElem?_eq_some_iff.1 h).1
 rw[flatc_len] at hl
 have hk:j / 2<l.length:=by omega
 refine⟨hk,?_⟩
 have hj:j % 2<(cauC l[j / 2]).length:=by show j % 2<2;omega
 have:=flat_cau l (j / 2) l[j / 2] (List.getElem?_eq_getElem hk) (j % 2) _ (List.getElem?_eq_getElem hj)
 rw[show j / 2 * 2+j % 2=j by omega,h] at this
 rw[List.getElem?_eq_getElem hj,←this]
theorem flatc_one(l:List Cau):∀u∈l.flatMap cauC,u.oneCell'=true:=fun u hu=>by
 obtain⟨c,-,hc⟩:=List.mem_flatMap.1 hu
 unfold cauC at hc
 simp at hc
 rcases hc with rfl | rfl <;> rfl
theorem app_caus{ops:Array Oper} {rest:List Oper} {o:Oper} {a:Act} {Q:Exit→Act→World→Prop} {w:World} (s x:Operand) (hgd:o.guard=none) (ho:o.op=.call { callee:=.builtin .append,args:=#[s,x],argTypes:=#[25,25] })
  (R:Nat→Prop) (v2:Value) (xc:List Cau) (hs:a.eval s=.slice none 0 0) (hx:a.eval x=v2) (hsl:SlS 2 CauK w R v2 xc) (hn:xc.length≤65536)
  (h:∀v' w',OwnCau w' w.heap.size v' xc→Below w.heap.size w w'→wpList Tryz.prog ops Q rest (a.put o.dst v') w') :
  wpList Tryz.prog ops Q (o :: rest) a w:=by
 obtain⟨i0,hi0,hz0,hz1,hz2⟩:=info_parts info_cau
 obtain⟨A,c,rfl,hc0,-⟩:=hsl.form
 by_cases h0:xc.length=0
 ·have e:xc=[]:=List.eq_nil_of_length_eq_zero h0
  subst e
  refine wpList_plain hgd fun K hK=>?_
  have hrun:=run_append_nothing (P:=Tryz.prog) w 25 25 o.type 102 i0 Tryz.underlying25 hi0 none 0 0 (Nat.le_refl _) (.slice A 0 c) ?_
  ·unfold Oper.wp
   simp[execOp,ho,resolve,invoke,builtin,hs,hx,hrun,Result.andThen]
   exact hK _ _ (h _ _ (OwnCau.nil _ _) (Below.refl _ _))
  ·cases A with
   | none=>exact Src.ofNil _ Tryz.underlying25 c
   | some ad=>exact Src.ofSlice _ Tryz.underlying25 ad 0 c [] (by simp) (fun j u hu=>by simp at hu) (fun u hu=>by simp at hu)
 ·obtain⟨b,off,cs,rfl,-,-,-,-⟩:=hsl.at_ (k:=0) (by omega)
  refine wpList_append_own _ hgd s x _ ho w.heap.size _ i0 _ 2 16 Tryz.underlying25 hi0 hz0 hz1 hz2 rfl (by omega) (.slice none 0 0) 0 [] hs (World.ownsRow_nil _ _ _ _) ⟨b,off,none⟩ xc.length c (xc.flatMap cauC) hx (flatc_len xc) (fun j u hu=>?_) (flatc_one xc) (by unfold maxLen;omega) (by omega) (Nat.le_refl _) (fun v' w' h1 h2 _=>h v' w' ?_ ?_)
  ·obtain⟨hk,hu2⟩:=flatc_at xc j u hu
   obtain⟨b',off',cs',e,-,-,hcs,hck⟩:=hsl.at_ (k:=j / 2) hk
   injection e with e
   injection e with e1 e2
   subst e1;subst e2
   unfold CauK at hck
   subst hck
   have:=hcs (j % 2) u hu2
   rw[Nat.add_assoc,show j / 2 * 2+j % 2=j by omega] at this
   have e3:(⟨b,off,none⟩:Addr).add j=⟨b,off+j,none⟩:=by unfold Addr.add;split <;> simp_all
   rw[e3];exact this
  ·unfold OwnCau
   simpa using h1
  ·exact⟨h2.os,h2.tape,h2.output,h2.size,fun b hb=>h2.block b hb (by simp[Value.ownBlock])⟩
end Go.Proofs.YtcfkllnpkmebpaaGreatDoor

namespace Go.Proofs.YtcfkllnpkmebpaaGreatDoor
open Go.RowKit
set_option linter.unusedVariables false
set_option linter.unusedSimpArgs false
theorem own_keepB{w w':World} {B:Nat} {e:TypeId} {size n:Nat} {v:Value} {xs:List Value} (h:w.ownsRow B e size v n xs) (hk:∀b,v.ownBlock=some b→w'.heap[b]?=w.heap[b]?):w'.ownsRow B e size v n xs:=by
 refine⟨h.1,?_⟩
 rcases h.2 with h | ⟨g,cap,cur,rfl,h1,h2,h3⟩
 ·exact .inl h
 ·exact .inr ⟨g,cap,cur,rfl,h1,(hk g rfl).trans h2,h3⟩
theorem OwnCau.slB{w:World} {base:Nat} {v:Value} {l:List Cau} (h:OwnCau w base v l):SlS 2 CauK w (fun b=>(base≤b∧b<w.heap.size)∧v.ownBlock=some b) v l:=by
 have h1:w.ownsRow base 102 2 v l.length (l.flatMap cauC):=h
 have hc:=fun g=>h1.cells (g:=g)
 have hlt:=h1.lt
 rcases h1.2 with ⟨rfl,h0⟩ | ⟨g,cap,cur,rfl,_,_,h2,h3,_⟩
 ·unfold SlS;rw[h0];exact Row.nil _ _ _
 ·refine⟨_,cap,rfl,h2,Nat.le_trans h2 h3,fun _=>⟨g,0,rfl,⟨hlt g rfl,rfl⟩,fun k f hf=>⟨cauC f,rfl,fun i c hi=>?_,rfl⟩⟩⟩
  have e1:∀j,(⟨g,0,none⟩:Addr).add j=⟨g,0+j,none⟩:=fun j=>by unfold Addr.add;split <;> simp_all
  rw[Nat.add_assoc,←e1]
  exact hc g rfl _ _ (flat_cau l k f hf i c hi)
structure BentS (w:World) (B:Nat) (v:Value) (L:List IncW):Prop where
 row:w.ownsRow B 27 5 v L.length (L.flatMap incC)
 own:∀s∈L,OwnCau w B s.cv s.x.causes
 off:∀s∈L,∀b,s.cv.ownBlock=some b→v.ownBlock≠some b
 apart:L.Pairwise (fun s t=>∀b,s.cv.ownBlock=some b→t.cv.ownBlock≠some b)
theorem BentS.nil(w:World) (B:Nat):BentS w B (.slice none 0 0) []:=⟨World.ownsRow_nil _ _ _ _,fun s h=>(by cases h),fun s h=>(by cases h),List.Pairwise.nil⟩
theorem BentS.below{w w':World} {B:Nat} {v:Value} {L:List IncW} (h:BentS w B v L) (hb:Below w.heap.size w w'):BentS w' B v L :=
 ⟨own_below h.row hb,fun s hs=>(h.own s hs).below hb,h.off,h.apart⟩
theorem BentS.incs{w:World} {B:Nat} {v:Value} {L:List IncW} (h:BentS w B v L):IncsS w B v L :=
 ⟨h.row,fun s hs=>SlS.mono cauK (h.own s hs).slB (fun b hb=>⟨hb.1.1,hb.1.2,h.off s hs b hb.2⟩)⟩
theorem BentS.push{w w':World} {B:Nat} {v v':Value} {L:List IncW} {s:IncW} (h:BentS w B v L) (hs:OwnCau w B s.cv s.x.causes) (hoff:∀b,s.cv.ownBlock=some b→v.ownBlock≠some b)
  (hap:∀t∈L,∀b,t.cv.ownBlock=some b→s.cv.ownBlock≠some b)
  (ho:w'.ownsRow B 27 5 v' (L.length+1) (L.flatMap incC++incC s)) (hg:w.grownBy w' v.ownBlock) (hat:v'.ownBlock=v.ownBlock∨∃g,v'.ownBlock=some g∧w.heap.size≤g):BentS w' B v' (L++[s]):=by
 have hk:∀u:IncW,OwnCau w B u.cv u.x.causes→(∀b,u.cv.ownBlock=some b→v.ownBlock≠some b)→OwnCau w' B u.cv u.x.causes:=fun u hu hv =>
  own_keepB hu (fun b hb=>hg.block b (hu.lt b hb).2 (fun e=>hv b hb e.symm))
 have hv:∀u:IncW,OwnCau w B u.cv u.x.causes→(∀b,u.cv.ownBlock=some b→v.ownBlock≠some b)→(∀b,u.cv.ownBlock=some b→v'.ownBlock≠some b):=fun u hu hv b hb e=>by
  rcases hat with h2 | ⟨g,h2,h3⟩
  ·rw[h2] at e;exact hv b hb e
  ·rw[h2] at e;injection e with e;have:=(hu.lt b hb).2;omega
 refine⟨by rw[List.length_append,List.flatMap_append];simpa using ho,fun u hu=>?_,fun u hu=>?_,?_⟩
 ·rcases List.mem_append.1 hu with h2 | h2
  ·exact hk u (h.own u h2) (h.off u h2)
  ·rw[List.mem_singleton.1 h2];exact hk s hs hoff
 ·rcases List.mem_append.1 hu with h2 | h2
  ·exact hv u (h.own u h2) (h.off u h2)
  ·rw[List.mem_singleton.1 h2];exact hv s hs hoff
 ·refine List.pairwise_append.2 ⟨h.apart,List.pairwise_singleton _ _,fun t ht u hu=>?_⟩
  rw[List.mem_singleton.1 hu]
  exact hap t ht
theorem app_bent{ops:Array Oper} {rest:List Oper} {o:Oper} {a:Act} {Q:Exit→Act→World→Prop} {w:World} (u:Inc) (cv:Value) (s x:Operand) (hgd:o.guard=none) (ho:o.op=.call { callee:=.builtin .append,args:=#[s,x],argTypes:=#[23,23] })
  (base:Nat) (v:Value) (L:List IncW) (hs:a.eval s=v) (hown:BentS w base v L) (hnew:OwnCau w base cv u.causes) (hoff:∀b,cv.ownBlock=some b→v.ownBlock≠some b)
  (hap:∀t∈L,∀b,t.cv.ownBlock=some b→cv.ownBlock≠some b)
  (hx:a.eval x=.slice (some ⟨w.heap.size,0,none⟩) 1 1) (hn:L.length+1≤16777216) (hbase:base≤w.heap.size)
  (h:∀v' w',BentS w' base v' (L++[⟨u,cv⟩])→w.grownBy w' v.ownBlock→wpList Tryz.prog ops Q rest (a.put o.dst v') w') :
  wpList Tryz.prog ops Q (o :: rest) a (w.alloc (.cells #[.int .i64 u.vol,.int .i64 u.stripe,.bool u.lost,.int .i64 u.need,cv] 27)):=by
 obtain⟨i0,hi0,hz0,hz1,hz2⟩:=info_parts info_inc
 have h1c:=one_sls hnew.slB
 refine wpList_append1 hgd s x _ ho base i0 _ 5 56 Tryz.underlying23 hi0 hz0 hz1 hz2 rfl (by omega) (by omega) v L.length (L.flatMap incC) hs hown.row hx rfl (fun y hy=>?_) hn hbase (fun v' w' h1 h2 h3=>h v' w' (hown.push (s:=⟨u,cv⟩) hnew hoff hap h1 h2 ?_) h2)
 ·simp at hy
  rcases hy with rfl | rfl | rfl | rfl | rfl
  ·rfl
  ·rfl
  ·rfl
  ·rfl
  ·exact h1c
 ·rcases h3 with h3 | h3
  ·exact .inl h3
  ·exact .inr ⟨_,h3,by omega⟩
end Go.Proofs.YtcfkllnpkmebpaaGreatDoor

namespace Go.Proofs.YtcfkllnpkmebpaaGreatDoor
open Go.RowKit
set_option linter.unusedVariables false
set_option linter.unusedSimpArgs false
theorem own_set{w:World} {B:Nat} {e:TypeId} {size n g cap:Nat} {xs:List Value} (h:w.ownsRow B e size (.slice (some ⟨g,0,none⟩) n cap) n xs) (p:Nat) (u:Value) :
  (w.setCell ⟨g,p,none⟩ u).ownsRow B e size (.slice (some ⟨g,0,none⟩) n cap) n (xs.set p u):=by
 refine⟨by rw[List.length_set];exact h.1,?_⟩
 rcases h.2 with ⟨hv,-⟩ | ⟨g',cap',cur,hv,h1,h2,h3,h4,h5,h6⟩
 ·cases hv
 ·injection hv with a1 a2 a3
  injection a1 with a1
  injection a1 with a1 a4
  subst a1;subst a3
  refine .inr ⟨g,cap,cur.setIfInBounds p u,rfl,h1,Lib.heap_setCell_same h2 u,h3,h4,by rw[Array.size_setIfInBounds];exact h5,?_⟩
  rw[Array.toList_setIfInBounds,List.take_set,h6]
theorem addr0(g j:Nat):(⟨g,0,none⟩:Addr).add j=⟨g,j,none⟩:=by unfold Addr.add;split <;> simp_all
theorem own_fz{w:World} {B:Nat} {e:TypeId} {size n g cap:Nat} {xs:List Value} (h:w.ownsRow B e size (.slice (some ⟨g,0,none⟩) n cap) n xs) (p:Nat):w.frozen? ⟨g,p,none⟩=false:=by
 rcases h.2 with ⟨hv,-⟩ | ⟨g',cap',cur,hv,h1,h2,-⟩
 ·cases hv
 ·injection hv with a1 a2 a3
  injection a1 with a1
  injection a1 with a1 a4
  subst a1
  exact Lib.frozen_of_heap h2 _
theorem flat_set:∀(M:List IncW) (k:Nat) (s t:IncW) (o:Nat) (u:Value),M[k]?=some s→o<5→incC t=(incC s).set o u→(M.set k t).flatMap incC=(M.flatMap incC).set (k * 5+o) u
 | [],k,s,t,o,u,h,_,_=>by simp at h
 | x :: r,0,s,t,o,u,h,ho,e=>by
  simp at h;subst h
  rw[List.set_cons_zero,List.flatMap_cons,List.flatMap_cons,e,Nat.zero_mul,Nat.zero_add]
  have:o<(incC x).length:=by show o<5;exact ho
  rw[List.set_append_left _ _ this]
 | x :: r,k+1,s,t,o,u,h,ho,e=>by
  rw[List.set_cons_succ,List.flatMap_cons,List.flatMap_cons,flat_set r k s t o u (by simpa using h) ho e]
  have hl:(incC x).length=5:=rfl
  rw[List.set_append_right _ _ (by rw[hl];omega),hl]
  congr 1
  congr 1
  omega
theorem BentS.set{w:World} {B g n cap:Nat} {M:List IncW} (h:BentS w B (.slice (some ⟨g,0,none⟩) n cap) M) (hn:n=M.length) {k:Nat} {s t:IncW} (hk:M[k]?=some s) (o:Nat) (u:Value) (ho:o<5) (e:incC t=(incC s).set o u) (hcv:t.cv=s.cv) (hca:t.x.causes=s.x.causes) :
  BentS (w.setCell ⟨g,k * 5+o,none⟩ u) B (.slice (some ⟨g,0,none⟩) n cap) (M.set k t):=by
 have hm:∀y∈M.set k t,∃s'∈M,y.cv=s'.cv∧y.x.causes=s'.x.causes:=fun y hy=>by
  rcases List.mem_or_eq_of_mem_set hy with h1 | h1
  ·exact⟨y,h1,rfl,rfl⟩
  ·subst h1;exact⟨s,List.mem_of_getElem? hk,hcv,hca⟩
 subst hn
 refine⟨?_,fun y hy=>?_,fun y hy=>?_,?_⟩
 ·rw[flat_set M k s t o u hk ho e]
  have:=own_set h.row (k * 5+o) u
  rw[List.length_set]
  exact this
 ·obtain⟨s',hs',e1,e2⟩:=hm y hy
  rw[e1,e2]
  exact own_keepB (h.own s' hs') (fun b hb=>(Lib.grownBy_setCell w g (k * 5+o) u).block b ((h.own s' hs').lt b hb).2 (fun e3=>by injection e3 with e3;exact h.off s' hs' b hb (by rw[e3];rfl)))
 ·obtain⟨s',hs',e1,e2⟩:=hm y hy
  rw[e1]
  exact h.off s' hs'
 ·rw[List.pairwise_iff_getElem]
  intro i j hi hj hij
  have h1:=List.pairwise_iff_getElem.1 h.apart i j (by simpa using hi) (by simpa using hj) hij
  rw[List.getElem_set,List.getElem_set]
  have hkk:∀(q:Nat) (hq:q<M.length),k=q→M[q]=s:=fun q hq e3=>by
   subst e3;rw[List.getElem?_eq_getElem hq] at hk;injection hk
  split
  ·rename_i e3
   rw[hcv,←hkk i (by simpa using hi) e3]
   split
   ·omega
   ·exact h1
  ·split
   ·rename_i e3 e4
    rw[hcv,←hkk j (by simpa using hj) e4]
    exact h1
   ·exact h1
end Go.Proofs.YtcfkllnpkmebpaaGreatDoor

namespace Go.Proofs.YtcfkllnpkmebpaaGreatDoor
open Go.RowKit
set_option linter.unusedVariables false
set_option linter.unusedSimpArgs false
theorem BentS.change{w w1:World} {B:Nat} {v:Value} {M:List IncW} {k:Nat} {s t:IncW} (h:BentS w B v M) (hk:M[k]?=some s)
  (hg:∀b,b<w.heap.size→s.cv.ownBlock≠some b→v.ownBlock≠some b→w1.heap[b]?=w.heap[b]?)
  (hrow:w1.ownsRow B 27 5 v M.length ((M.set k t).flatMap incC)) (hnew:OwnCau w1 B t.cv t.x.causes)
  (hat:t.cv.ownBlock=s.cv.ownBlock∨∃q,t.cv.ownBlock=some q∧w.heap.size≤q):BentS w1 B v (M.set k t):=by
 have hkl:k<M.length:=(List.getElem?_eq_some_iff.1 hk).1
 have hks:M[k]=s:=(List.getElem?_eq_some_iff.1 hk).2
 have hsM:s∈M:=List.mem_of_getElem? hk
 have hcase:∀y∈M.set k t,y=t∨∃j,∃hj:j<M.length,j≠k∧y=M[j]:=fun y hy=>by
  obtain⟨j,hj,e⟩:=List.getElem_of_mem hy
  rw[List.getElem_set] at e
  split at e
  ·exact .inl e.symm
  ·rename_i hne
   exact .inr ⟨j,by simpa using hj,fun e2=>hne e2.symm,e.symm⟩
 have hpw:=List.pairwise_iff_getElem.1 h.apart
 have hap:∀(j:Nat) (hj:j<M.length),j≠k→∀b,M[j].cv.ownBlock=some b→s.cv.ownBlock≠some b:=fun j hj hne b hb e=>by
  rcases Nat.lt_or_gt_of_ne hne with h1 | h1
  ·exact hpw j k hj hkl h1 b hb (by rw[hks];exact e)
  ·exact hpw k j hkl hj h1 b (by rw[hks];exact e) hb
 have htn:∀(j:Nat) (hj:j<M.length),j≠k→∀b,M[j].cv.ownBlock=some b→t.cv.ownBlock≠some b:=fun j hj hne b hb e=>by
  rcases hat with h1 | ⟨q,h1,h2⟩
  ·rw[h1] at e;exact hap j hj hne b hb e
  ·rw[h1] at e;injection e with e
   have:=((h.own _ (List.getElem_mem hj)).lt b hb).2
   omega
 refine⟨by rw[List.length_set];exact hrow,fun y hy=>?_,fun y hy=>?_,?_⟩
 ·rcases hcase y hy with rfl | ⟨j,hj,hne,rfl⟩
  ·exact hnew
  ·exact own_keepB (h.own _ (List.getElem_mem hj)) (fun b hb=>hg b ((h.own _ (List.getElem_mem hj)).lt b hb).2 (hap j hj hne b hb) (h.off _ (List.getElem_mem hj) b hb))
 ·rcases hcase y hy with rfl | ⟨j,hj,hne,rfl⟩
  ·intro b hb
   rcases hat with h1 | ⟨q,h1,h2⟩
   ·rw[h1] at hb;exact h.off s hsM b hb
   ·rw[h1] at hb;injection hb with hb
    intro e
    have:=(h.row.lt b e).2
    omega
  ·exact h.off _ (List.getElem_mem hj)
 ·rw[List.pairwise_iff_getElem]
  intro i j hi hj hij
  have hi':i<M.length:=by simpa using hi
  have hj':j<M.length:=by simpa using hj
  rw[List.getElem_set,List.getElem_set]
  split
  ·rename_i e1
   split
   ·omega
   ·intro b hb e
    exact htn j hj' (by omega) b e hb
  ·split
   ·intro b hb e
    exact htn i hi' (by omega) b hb e
   ·exact hpw i j hi' hj' hij
theorem BentS.inner{w w1:World} {B:Nat} {v:Value} {M:List IncW} {k:Nat} {s:IncW} {cs:List Cau} (h:BentS w B v M) (hk:M[k]?=some s) (hg:w.grownBy w1 s.cv.ownBlock) (hnew:OwnCau w1 B s.cv cs) :
  BentS w1 B v (M.set k ⟨⟨s.x.vol,s.x.stripe,s.x.lost,s.x.need,cs⟩,s.cv⟩):=by
 have e0:M.set k ⟨⟨s.x.vol,s.x.stripe,s.x.lost,s.x.need,cs⟩,s.cv⟩=M.set k ⟨⟨s.x.vol,s.x.stripe,s.x.lost,s.x.need,cs⟩,s.cv⟩:=rfl
 refine h.change hk (fun b hb h1 h2=>hg.block b hb (fun e=>h1 e.symm)) ?_ hnew (.inl rfl)
 have e1:(M.set k ⟨⟨s.x.vol,s.x.stripe,s.x.lost,s.x.need,cs⟩,s.cv⟩).flatMap incC=M.flatMap incC:=by
  have hkl:k<M.length:=(List.getElem?_eq_some_iff.1 hk).1
  have hks:M[k]=s:=(List.getElem?_eq_some_iff.1 hk).2
  clear hg hnew hk h e0
  induction M generalizing k with
  | nil=>simp at hkl
  | cons a l ih =>
   cases k with
   | zero=>simp at hks;subst hks;rfl
   | succ k =>
    rw[List.set_cons_succ,List.flatMap_cons,List.flatMap_cons,ih (by simpa using hkl) (by simpa using hks)]
 rw[e1]
 exact own_keepB h.row (fun b hb=>hg.block b (h.row.lt b hb).2 (fun e=>h.off s (List.mem_of_getElem? hk) b e.symm hb))
theorem BentS.setc{w w1:World} {B g n cap:Nat} {M:List IncW} {k:Nat} {s:IncW} {cs:List Cau} {cv:Value} (h:BentS w B (.slice (some ⟨g,0,none⟩) n cap) M) (hn:n=M.length) (hk:M[k]?=some s) (hg:w.grownBy w1 s.cv.ownBlock) (hnew:OwnCau w1 B cv cs)
  (hat:cv.ownBlock=s.cv.ownBlock∨∃q,cv.ownBlock=some q∧w.heap.size≤q) :
  BentS (w1.setCell ⟨g,k * 5+4,none⟩ cv) B (.slice (some ⟨g,0,none⟩) n cap) (M.set k ⟨⟨s.x.vol,s.x.stripe,s.x.lost,s.x.need,cs⟩,cv⟩):=by
 have hsM:s∈M:=List.mem_of_getElem? hk
 have hgl:=(h.row.lt g rfl).2
 have hsg:s.cv.ownBlock≠some g:=fun e=>h.off s hsM g e rfl
 have hcg:cv.ownBlock≠some g:=fun e=>by
  rcases hat with h1 | ⟨q,h1,h2⟩
  ·rw[h1] at e;exact hsg e
  ·rw[h1] at e;injection e with e;omega
 have hg1:=Lib.grownBy_setCell w1 g (k * 5+4) cv
 subst hn
 refine h.change hk (fun b hb h1 h2=>?_) ?_ (own_keepB hnew (fun b hb=>hg1.block b (hnew.lt b hb).2 (fun e=>hcg (by rw[hb];exact e)))) hat
 ·rw[hg1.block b (Nat.lt_of_lt_of_le hb hg.size) (fun e=>h2 (by rw[e];rfl))]
  exact hg.block b hb (fun e=>h1 e.symm)
 ·rw[flat_set M k s ⟨⟨s.x.vol,s.x.stripe,s.x.lost,s.x.need,cs⟩,cv⟩ 4 cv hk (by omega) rfl]
  exact own_set (own_keepB h.row (fun b hb=>by
   have e:g=b:=by injection hb
   subst e
   exact hg.block g hgl (fun e=>hsg e.symm))) (k * 5+4) cv
theorem flatc_set:∀(l:List Cau) (k:Nat) (c:Cau),k<l.length→(l.set k c).flatMap cauC=((l.flatMap cauC).set (k * 2) (.int .i64 c.state)).set (k * 2+1) (.int .i64 c.drive)
 | [],k,c,h=>by simp at h
 | x :: r,0,c,h=>by
  rw[List.set_cons_zero,List.flatMap_cons,List.flatMap_cons]
  rfl
 | x :: r,k+1,c,h=>by
  rw[List.set_cons_succ,List.flatMap_cons,List.flatMap_cons,flatc_set r k c (by simpa using h)]
  have hl:(cauC x).length=2:=rfl
  rw[List.set_append_right _ _ (by rw[hl];omega),hl,List.set_append_right _ _ (by rw[hl];omega),hl]
  congr 1
  have e1:(k+1) * 2 - 2=k * 2:=by omega
  have e2:(k+1) * 2+1 - 2=k * 2+1:=by omega
  rw[e1,e2]
theorem own_setc{w:World} {B g n cap:Nat} {l:List Cau} (h:OwnCau w B (.slice (some ⟨g,0,none⟩) n cap) l) (hn:n=l.length) {k:Nat} (hk:k<l.length) (c:Cau) :
  OwnCau ((w.setCell ⟨g,k * 2,none⟩ (.int .i64 c.state)).setCell ⟨g,k * 2+1,none⟩ (.int .i64 c.drive)) B (.slice (some ⟨g,0,none⟩) n cap) (l.set k c):=by
 subst hn
 unfold OwnCau
 rw[List.length_set,flatc_set l k c hk]
 exact own_set (own_set h (k * 2) (.int .i64 c.state)) (k * 2+1) (.int .i64 c.drive)
theorem grown_set2(w:World) (n g a b:Nat) (u v:Value):w.grownBy (((w.drewN n).setCell ⟨g,a,none⟩ u).setCell ⟨g,b,none⟩ v) (some g):=by
 have h1:=Lib.grownBy_setCell (w.drewN n) g a u
 have h2:=Lib.grownBy_setCell ((w.drewN n).setCell ⟨g,a,none⟩ u) g b v
 exact⟨h2.os.trans h1.os,h2.tape.trans h1.tape,h2.output.trans h1.output,Nat.le_trans h1.size h2.size,fun k hk hne=>(h2.block k (Nat.lt_of_lt_of_le hk h1.size) hne).trans (h1.block k hk hne)⟩
end Go.Proofs.YtcfkllnpkmebpaaGreatDoor
