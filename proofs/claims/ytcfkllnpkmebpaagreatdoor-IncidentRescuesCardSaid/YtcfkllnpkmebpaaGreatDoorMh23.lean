/- The program's parseHead on a text that is no head, walked. -/
import Derived.Test.YtcfkllnpkmebpaaGreatDoorMh22
import Derived.Test.YtcfkllnpkmebpaaGreatDoorMh01
import Derived.Test.YtcfkllnpkmebpaaGreatDoorMh14
import Derived.Test.YtcfkllnpkmebpaaGreatDoorMh06
import Derived.Deep.LoopGhost
import Derived.Test.YtcfkllnpkmebpaaGreatDoorRows
import Derived.Laws.AppendOwnNone
import Derived.Test.YtcfkllnpkmebpaaGreatDoorMh05
import Derived.Test.YtcfkllnpkmebpaaGreatDoorMh07
set_option maxRecDepth 100000
set_option maxHeartbeats 12800000
namespace Go.Proofs.YtcfkllnpkmebpaaGreatDoor
open Go.RowKit
set_option linter.unusedVariables false
set_option linter.unusedSimpArgs false
def nmOf(F:FltM) (v:Nat):ByteArray:=match F.vols[v]? with | some x=>x.name | none=>⟨#[]⟩
theorem vol_name{N:Nat} {F:FltM} {w:World} {R:Nat→Prop} {vl vm vd vv vp:Value} {ob oof co:Nat} (hf:FleetS w R vl vm vd vv vp (.slice (some ⟨ob,oof,none⟩) F.vols.length co) F) (hok:FleetOk N F) {v:Nat} (hv:v<F.vols.length) :
  w.cell? ⟨ob,oof+v * 2,none⟩=some (.string (nmOf F v))∧(nmOf F v).size=3:=by
 have e:nmOf F v=F.vols[v].name:=by unfold nmOf;rw[List.getElem?_eq_getElem hv]
 obtain⟨b,off,cs,e2,-,-,hc,hcs⟩:=hf.2.2.2.2.2.at_ (k:=v) hv
 injection e2 with e2
 injection e2 with e3 e4
 subst e3 e4
 unfold VolK at hcs
 subst hcs
 have h0:=hc 0 _ rfl
 rw[e]
 refine⟨h0,?_⟩
 obtain⟨-,h1,-⟩:=hok.vols v F.vols[v] (List.getElem?_eq_getElem hv)
 rw[h1];rfl
theorem parseHead_no(N:Nat) (hN:N≤12) (vl vm vd vv vp vo:Value) (F:FltM) (EX:Nat) (t:ByteArray) (w:World) (hf:FleetS w (Bl w.heap.size) vl vm vd vv vp vo F) (hok:FleetOk N F) (hEX:F.ext=(EX:Int))
  (hno:∀v s K:Nat,v<F.vols.length→s<EX→kOf F v=(K:Int)→∀b,hdlB b (nmOf F v) s K≠t) :
  Calls Tryz.prog 57 #[.agg #[.int .i64 F.ext,vl,vm,vd,vv,vp,vo],.string t] w fun e w'=>e=.returned (.tuple #[.agg #[.int .i64 0,.int .i64 0,.bool false,.int .i64 0,.slice none 0 0],.bool false])∧Below w.heap.size w w':=by
 obtain⟨pb,pof,ob,oof,cp,co,rfl,rfl,hRp,hRo,hPA⟩:=polAt hf hok
 have hex:EX≤2:=by have:=hok.ext;omega
 have hno2:=hok.volN
 have hnp:=hok.polN
 have hfa:∀a,a<F.vols.length→∃(p0 K:Nat),p0<F.pols.length∧kOf F a=(K:Int)∧K≤2∧∀w',Below w.heap.size w w'→w'.cell? ⟨ob,oof+a * 2,none⟩=some (.string (nmOf F a))∧w'.cell? ⟨ob,oof+a * 2+1,none⟩=some (.int .i64 (p0:Int))∧w'.cell? ⟨pb,pof+p0 * 17+1,none⟩=some (.int .i64 (K:Int)):=fun a ha=>by
  obtain⟨hp1,nm,hv1,a0,a4,a5,a6,a7,a8,a9,a10,a11,a12,a13,a14,a15,a16,hpol,-⟩:=hPA a ha
  obtain⟨kk,-,-,-,-⟩:=kmq_ok hok ha
  obtain⟨K,hK⟩:∃K:Nat,kOf F a=(K:Int):=⟨(kOf F a).toNat,by omega⟩
  refine⟨volP F a,K,hp1,hK,by omega,fun w' hb=>⟨?_,?_,?_⟩⟩
  ·exact(hb.cell (p:=⟨ob,oof+a * 2,none⟩) hRo).trans (vol_name hf hok ha).1
  ·exact(hb.cell (p:=⟨ob,oof+a * 2+1,none⟩) hRo).trans (hv1 1 _ rfl)
  ·rw[hK] at hpol
   exact(hb.cell (p:=⟨pb,pof+volP F a * 17+1,none⟩) hRp).trans (hpol 1 _ rfl)
 have hnm:∀a,a<F.vols.length→(nmOf F a).size=3:=fun a ha=>(vol_name hf hok ha).2
 rw[hEX]
 obtain⟨NO,hNO⟩:=zx F.vols.length
 obtain⟨NP,hNP⟩:=zx F.pols.length
 rw[←hNO] at hno2 hno hfa hnm ⊢
 rw[←hNP] at hnp hfa ⊢
 have HNM:=zh hnm
 have HFA:=zh hfa
 have HNO:=zh hno
 obtain⟨W0,hW0⟩:=zx ((w.alloc (.cells #[.int .i64 (EX:Int),vl,vm,vd,vv,.slice (some ⟨pb,pof,none⟩) NP cp,.slice (some ⟨ob,oof,none⟩) NO co] 35)).alloc (.cells #[.int .i64 0,.int .i64 0,.bool false,.int .i64 0,.slice none 0 0] 27))
 obtain⟨z,hz⟩:=zx w.heap.size
 obtain⟨gR,hgR⟩:=zx (w.heap.size+1)
 have hb0:Below w.heap.size w W0:=by rw[hW0];exact((Below.refl _ _).alloc (Nat.le_refl _) _).alloc (by simp) _
 have hrk:W0.heap[gR]?=some (.cells #[.int .i64 0,.int .i64 0,.bool false,.int .i64 0,.slice none 0 0] 27 (0,0)):=by
  rw[hW0];exact heap_alloc_at _ _ _ (by rw[hgR];simp)
 have hzk:W0.heap[z]?=some (.cells #[.int .i64 (EX:Int),vl,vm,vd,vv,.slice (some ⟨pb,pof,none⟩) NP cp,.slice (some ⟨ob,oof,none⟩) NO co] 35 (0,0)):=by
  rw[hW0,hz];exact(Below.heap_alloc _ _ _ (by simp)).trans (heap_alloc_new w _)
 have hzl:z<W0.heap.size:=(Array.getElem?_eq_some_iff.1 hzk).1
 have hrl:gR<W0.heap.size:=(Array.getElem?_eq_some_iff.1 hrk).1
 have HC:=zh (fun(w':World) (hb:Below W0.heap.size W0 w')=>cells7 ((hb.block z hzl).trans hzk))
 have HRK:=zh (fun(w':World) (hb:Below W0.heap.size W0 w')=>(hb.block gR hrl).trans hrk)
 have HW0:=zh hW0
 have HZ:=zh hz
 have HGR:=zh hgR
 have HB0:=zh hb0
 clear hf hok hPA hRp hRo hW0 hz hgR hb0 hrk hzk hzl hrl hNO hNP hEX hno hfa hnm
 go_enter Tryz.func57,Tryz.ntmps57
 go_upto_region 1 with fail
 rw[←HW0.out,←HGR.out,←HZ.out]
 obtain⟨c0,c1,c2,c3,c4,c5,c6⟩:=HC.out W0 (Below.refl _ _)
 go_wp2_with fail
 clear c0 c1 c2 c3 c4 c5 c6
 go_loopg [15] NO (fun z v15 wr=>∃a:Nat,v15=.int .i64 (a:Int)∧a≤NO∧z=NO - a∧Hid (Below W0.heap.size W0 wr))
 case atStart=>exact⟨0,rfl,Nat.zero_le _,rfl,zh (Below.refl _ _)⟩
 case round =>
  obtain⟨a,rfl,ha,rfl,HB⟩:=hrel
  by_cases hlt:a<NO
  ·have HLT:=zh hlt
   obtain⟨p0,K,hp0,hK,hK2,hcell⟩:=HFA.out a hlt
   have HKF:=zh hK
   have HCE:=zh hcell
   have HNMA:=zh (HNM.out a hlt)
   obtain⟨nm,hnm⟩:=zx (nmOf F a)
   rw[←hnm] at HCE HNMA
   have HNN:=zh hnm
   have hbw:=HB0.out.trans (HB.out.mono HB0.out.size)
   obtain⟨n0,n1,-⟩:=HCE.out wr hbw
   obtain⟨c0,c1,c2,c3,c4,c5,c6⟩:=HC.out wr HB.out
   obtain⟨W1,hW1⟩:=zx (wr.alloc (.cells #[.string nm,.int .i64 (p0:Int)] 87))
   obtain⟨gv,hgv⟩:=zx wr.heap.size
   have hb1:Below wr.heap.size wr W1:=by rw[hW1];exact(Below.refl _ _).alloc (Nat.le_refl _) _
   have hgk:W1.heap[gv]?=some (.cells #[.string nm,.int .i64 (p0:Int)] 87 (0,0)):=by rw[hW1,hgv];exact heap_alloc_new wr _
   have hgl:gv<W1.heap.size:=(Array.getElem?_eq_some_iff.1 hgk).1
   have HB1:=zh (HB.out.trans (hb1.mono HB.out.size))
   have HGV:=zh (fun(w':World) (hb:Below W1.heap.size W1 w')=>(show w'.cell? ⟨gv,1,none⟩=some (.int .i64 (p0:Int)) from by rw[cell_of_row _ _ _ _ _ _ ((hb.block gv hgl).trans hgk)];rfl))
   have HW1:=zh hW1
   have HGVE:=zh hgv
   have i1:(a:Int)<(NO:Int):=by omega
   have i2:(p0:Int)<(NP:Int):=by omega
   clear hK hcell hnm hbw hW1 hgv hb1 hgk hgl
   go_upto_region 4 with fail
   rw[←HW1.out,←HGVE.out]
   clear n0 n1 c0 c1 c2 c3 c4 c5 c6
   obtain⟨c0,c1,c2,c3,c4,c5,c6⟩:=HC.out W1 HB1.out
   go_wp2_with fail
   clear c0 c1 c2 c3 c4 c5 c6
   go_loopg [22] EX (fun z v22 wr=>∃st:Nat,v22=.int .i64 (st:Int)∧st≤EX∧z=EX - st∧Hid (Below W1.heap.size W1 wr))
   case atStart=>exact⟨0,rfl,Nat.zero_le _,rfl,zh (Below.refl _ _)⟩
   case round =>
    clear HB
    obtain⟨st,rfl,hst,rfl,HB⟩:=hrel
    by_cases hls:st<EX
    ·have HLS:=zh hls
     obtain⟨W2,hW2⟩:=zx (wr.alloc (.cells #[.bool false,.bool true] 4))
     obtain⟨gb,hgb⟩:=zx wr.heap.size
     have hb2:Below wr.heap.size wr W2:=by rw[hW2];exact(Below.refl _ _).alloc (Nat.le_refl _) _
     have hgk:W2.heap[gb]?=some (.cells #[.bool false,.bool true] 4 (0,0)):=by rw[hW2,hgb];exact heap_alloc_new wr _
     have hgl:gb<W2.heap.size:=(Array.getElem?_eq_some_iff.1 hgk).1
     have HB2:=zh (HB.out.trans (hb2.mono HB.out.size))
     have HGB:=zh (fun(w':World) (hb:Below W2.heap.size W2 w') (c:Nat) (hc:c<2)=>(show w'.cell? ⟨gb,c,none⟩=some (.bool (decide (c=1))) from by
      rw[cell_of_row _ _ _ _ _ _ ((hb.block gb hgl).trans hgk)]
      have:c=0∨c=1:=by omega
      rcases this with rfl | rfl <;> rfl))
     have HW2:=zh hW2
     have HGBE:=zh hgb
     clear hW2 hgb hb2 hgk hgl
     go_wp2_with fail
     rw[←HW2.out,←HGBE.out]
     go_loopg [27] 2 (fun z v27 wr=>∃c:Nat,v27=.int .i64 (c:Int)∧c≤2∧z=2 - c∧Hid (Below W2.heap.size W2 wr))
     case atStart=>exact⟨0,rfl,Nat.zero_le _,rfl,zh (Below.refl _ _)⟩
     case round =>
      clear HB
      obtain⟨c,rfl,hc,rfl,HB⟩:=hrel
      by_cases hlc:c<2
      ·have HLC:=zh hlc
       have hb1w:=HB2.out.trans (HB.out.mono HB2.out.size)
       have hb0w:=HB1.out.trans (hb1w.mono HB1.out.size)
       have hbw:=HB0.out.trans (hb0w.mono HB0.out.size)
       have g0:=HGB.out wr HB.out c hlc
       have v1:=HGV.out wr hb1w
       obtain⟨-,-,k1⟩:=HCE.out wr hbw
       obtain⟨c0,c1,c2,c3,c4,c5,c6⟩:=HC.out wr hb0w
       obtain⟨lb,hlb⟩:=zx (decide (c=1))
       rw[←hlb] at g0
       obtain⟨W3,hW3⟩:=zx (wr.alloc (.cells #[.int .i64 (a:Int),.int .i64 (st:Int),.bool lb,.int .i64 (K:Int),.slice none 0 0] 27))
       obtain⟨gi,hgi⟩:=zx wr.heap.size
       have hb3:Below wr.heap.size wr W3:=by rw[hW3];exact(Below.refl _ _).alloc (Nat.le_refl _) _
       have hgk3:W3.heap[gi]?=some (.cells #[.int .i64 (a:Int),.int .i64 (st:Int),.bool lb,.int .i64 (K:Int),.slice none 0 0] 27 (0,0)):=by rw[hW3,hgi];exact heap_alloc_new wr _
       have hb03:=hb0w.trans (hb3.mono hb0w.size)
       have hbw3:=HB0.out.trans (hb03.mono HB0.out.size)
       have hhd:=head_any lb (EX:Int) vl vm vd vv (.slice (some ⟨pb,pof,none⟩) NP cp) (.slice none 0 0) ob oof NO co a st K nm W3 (by omega) (by omega) (by omega) (by omega) (by have:=HNMA.out;omega) (HCE.out W3 hbw3).1
       obtain⟨hb,hhb⟩:=zx (hdlB lb nm st K)
       rw[←hhb] at hhd
       have hne:(hb.toList==t.toList)=false:=seq_no (by rw[hhb,HNN.out];exact HNO.out a st K HLT.out HLS.out HKF.out lb)
       have HHD:=zh hhd
       have HB3:=zh (HB.out.trans (hb3.mono HB.out.size))
       have HW3:=zh hW3
       have HGI:=zh hgi
       have HX3:=zh (show(W3.cell? ⟨gi,0,none⟩=some (.int .i64 (a:Int))∧W3.cell? ⟨gi,1,none⟩=some (.int .i64 (st:Int))∧W3.cell? ⟨gi,2,none⟩=some (.bool lb)∧W3.cell? ⟨gi,3,none⟩=some (.int .i64 (K:Int))∧W3.cell? ⟨gi,4,none⟩=some (.slice none 0 0))∧_ from⟨⟨by rw[cell_of_row _ _ _ _ _ _ hgk3];rfl,by rw[cell_of_row _ _ _ _ _ _ hgk3];rfl,by rw[cell_of_row _ _ _ _ _ _ hgk3];rfl,by rw[cell_of_row _ _ _ _ _ _ hgk3];rfl,by rw[cell_of_row _ _ _ _ _ _ hgk3];rfl⟩,HC.out W3 hb03⟩)
       clear hb1w hb0w hbw hlb hW3 hgi hb3 hgk3 hb03 hbw3 hhd hhb
       have hci:(c:Int)<2:=by omega
       go_upto_region 11 with fail
       rw[←HW3.out,←HGI.out]
       clear g0 v1 k1 c0 c1 c2 c3 c4 c5 c6
       obtain⟨⟨x0,x1,x2,x3,x4⟩,c0,c1,c2,c3,c4,c5,c6⟩:=HX3.out
       go_wp2_with (go_at_call 43;refine HHD.out.mono ?_;rintro e w5 ⟨rfl,hb5⟩;have HB5:=zh hb5;clear hb5)
       go_roundg (2 - (c+1))
       case measure=>have:=HLC.out;omega
       case rel=>exact⟨c+1,by go_num,by have:=HLC.out;omega,rfl,zh (HB3.out.trans (HB5.out.mono HB3.out.size))⟩
      ·obtain rfl:c=2:=by omega
       go_wp2_with fail
       go_roundg (EX - (st+1))
       case measure=>have:=HLS.out;omega
       case rel=>exact⟨st+1,by go_num,by have:=HLS.out;omega,rfl,zh (HB2.out.trans (HB.out.mono HB2.out.size))⟩
    ·obtain rfl:st=EX:=by omega
     go_wp2_with fail
     go_roundg (NO - (a+1))
     case measure=>have:=HLT.out;omega
     case rel=>exact⟨a+1,by go_num,by have:=HLT.out;omega,rfl,zh (HB1.out.trans (HB.out.mono HB1.out.size))⟩
  ·obtain rfl:a=NO:=by omega
   have HZO:=zh (HRK.out wr HB.out)
   have zf:=fun i=>frozen_of_row wr gR i _ _ (HRK.out wr HB.out)
   have z0:wr.cell? ⟨gR,0,none⟩=some (.int .i64 0):=by rw[cell_of_row _ _ _ _ _ _ HZO.out];rfl
   have z1:wr.cell? ⟨gR,1,none⟩=some (.int .i64 0):=by rw[cell_of_row _ _ _ _ _ _ HZO.out];rfl
   have z2:wr.cell? ⟨gR,2,none⟩=some (.bool false):=by rw[cell_of_row _ _ _ _ _ _ HZO.out];rfl
   have z3:wr.cell? ⟨gR,3,none⟩=some (.int .i64 0):=by rw[cell_of_row _ _ _ _ _ _ HZO.out];rfl
   have z4:wr.cell? ⟨gR,4,none⟩=some (.slice none 0 0):=by rw[cell_of_row _ _ _ _ _ _ HZO.out];rfl
   have f0:=zf 0
   have f1:=zf 1
   have f2:=zf 2
   have f3:=zf 3
   have f4:=zf 4
   clear zf
   go_wp2_with fail
   obtain⟨WZ,hWZ⟩:=zx ((((((wr.setCell ⟨gR,0,none⟩ (.int .i64 0)).setCell ⟨gR,1,none⟩ (.int .i64 0)).setCell ⟨gR,2,none⟩ (.bool false)).setCell ⟨gR,3,none⟩ (.int .i64 0)).setCell ⟨gR,4,none⟩ (.slice none 0 0)):World)
   have hz:WZ.heap[gR]?=some (.cells #[.int .i64 0,.int .i64 0,.bool false,.int .i64 0,.slice none 0 0] 27 (0,0)):=by
    rw[hWZ]
    exact heap_setCell_same _ gR 4 _ _ _ (heap_setCell_same _ gR 3 _ _ _ (heap_setCell_same _ gR 2 _ _ _ (heap_setCell_same _ gR 1 _ _ _ (heap_setCell_same _ gR 0 _ _ _ HZO.out))))
   rw[←hWZ]
   have hg:w.heap.size≤gR:=by have:=HGR.out;omega
   have hbz:Below w.heap.size w WZ:=by
    rw[hWZ]
    exact(((((HB0.out.trans (HB.out.mono HB0.out.size)).setCell hg _).setCell hg _).setCell hg _).setCell hg _).setCell hg _
   have n0:WZ.cell? ⟨gR,0,none⟩=some (.int .i64 0):=by rw[cell_of_row _ _ _ _ _ _ hz];rfl
   have n1:WZ.cell? ⟨gR,1,none⟩=some (.int .i64 0):=by rw[cell_of_row _ _ _ _ _ _ hz];rfl
   have n2:WZ.cell? ⟨gR,2,none⟩=some (.bool false):=by rw[cell_of_row _ _ _ _ _ _ hz];rfl
   have n3:WZ.cell? ⟨gR,3,none⟩=some (.int .i64 0):=by rw[cell_of_row _ _ _ _ _ _ hz];rfl
   have n4:WZ.cell? ⟨gR,4,none⟩=some (.slice none 0 0):=by rw[cell_of_row _ _ _ _ _ _ hz];rfl
   refine bodyPost_ret (v:=.tuple #[.agg #[.int .i64 0,.int .i64 0,.bool false,.int .i64 0,.slice none 0 0],.bool false]) ?_ rfl ⟨rfl,hbz⟩
   simp[results,Tryz.results57,go_sem,n0,n1,n2,n3,n4]
end Go.Proofs.YtcfkllnpkmebpaaGreatDoor

namespace Go.Proofs.YtcfkllnpkmebpaaGreatDoor
open Go.RowKit
set_option linter.unusedVariables false
set_option linter.unusedSimpArgs false
theorem ivalid_nil(N:Nat) (hN:N≤12) (vl vm vd vv vp vo:Value) (F:FltM) (w:World) (hf:FleetS w (Bl w.heap.size) vl vm vd vv vp vo F) (hok:FleetOk N F) :
  Calls Tryz.prog 16 #[.agg #[.int .i64 F.ext,vl,vm,vd,vv,vp,vo],.slice none 0 0] w fun e w'=>e=.returned (.bool true)∧Below w.heap.size w w':=by
 obtain⟨W0,hW0⟩:=zx (w.alloc (.cells #[.int .i64 F.ext,vl,vm,vd,vv,vp,vo] 35))
 obtain⟨z,hz⟩:=zx w.heap.size
 have hb0:Below w.heap.size w W0:=by rw[hW0];exact(Below.refl _ _).alloc (Nat.le_refl _) _
 have hzk:W0.heap[z]?=some (.cells #[.int .i64 F.ext,vl,vm,vd,vv,vp,vo] 35 (0,0)):=by rw[hW0,hz];exact heap_alloc_new w _
 obtain⟨c0,c1,c2,c3,c4,c5,c6⟩:=cells7 hzk
 have HV:=zh (fvalidate_any N hN vl vm vd vv vp vo F W0 (hf.below hb0) hok)
 obtain⟨EX,hEX⟩:=zx F.ext
 rw[←hEX] at HV hW0 c0 ⊢
 have HW0:=zh hW0
 have HZ:=zh hz
 have HB0:=zh hb0
 clear hf hok hW0 hz hb0 hzk hEX
 go_enter Tryz.func16,Tryz.ntmps16
 go_upto_region 1 with fail
 rw[←HW0.out,←HZ.out]
 go_wp2_with fail
 refine HV.out.mono ?_
 rintro e w1 ⟨rfl,hb1⟩
 have HB1:=zh (HB0.out.trans (hb1.mono HB0.out.size))
 clear c0 c1 c2 c3 c4 c5 c6 hb1
 go_wp2_with fail
 go_loopg [15] 0 (fun z v15 wr=>v15=.int .i64 0∧w1=wr)
 case atStart=>exact⟨rfl,rfl⟩
 case round =>
  obtain⟨rfl,rfl⟩:=hrel
  go_wp2_with fail
  go_ret
  exact⟨rfl,HB1.out⟩
theorem ivalid_empty(v:Value) (w:World) :
  Calls Tryz.prog 16 #[.agg #[.int .i64 0,.slice none 0 0,.slice none 0 0,.slice none 0 0,.slice none 0 0,.slice none 0 0,.slice none 0 0],v] w fun e w'=>e=.returned (.bool false)∧Below w.heap.size w w':=by
 obtain⟨W0,hW0⟩:=zx (w.alloc (.cells #[.int .i64 0,.slice none 0 0,.slice none 0 0,.slice none 0 0,.slice none 0 0,.slice none 0 0,.slice none 0 0] 35))
 obtain⟨z,hz⟩:=zx w.heap.size
 have hb0:Below w.heap.size w W0:=by rw[hW0];exact(Below.refl _ _).alloc (Nat.le_refl _) _
 have hzk:W0.heap[z]?=some (.cells #[.int .i64 0,.slice none 0 0,.slice none 0 0,.slice none 0 0,.slice none 0 0,.slice none 0 0,.slice none 0 0] 35 (0,0)):=by rw[hW0,hz];exact heap_alloc_new w _
 obtain⟨c0,c1,c2,c3,c4,c5,c6⟩:=cells7 hzk
 have HV:=zh (fvalidate_empty W0)
 have HW0:=zh hW0
 have HZ:=zh hz
 have HB0:=zh hb0
 clear hW0 hz hb0 hzk
 go_enter Tryz.func16,Tryz.ntmps16
 go_upto_region 1 with fail
 rw[←HW0.out,←HZ.out]
 go_wp2_with fail
 refine HV.out.mono ?_
 rintro e w1 ⟨rfl,hb1⟩
 have HB1:=zh (HB0.out.trans (hb1.mono HB0.out.size))
 clear c0 c1 c2 c3 c4 c5 c6 hb1
 go_wp2_with fail
 go_ret
 exact⟨rfl,HB1.out⟩
theorem iformat_empty(v:Value) (w:World) :
  Calls Tryz.prog 14 #[.agg #[.int .i64 0,.slice none 0 0,.slice none 0 0,.slice none 0 0,.slice none 0 0,.slice none 0 0,.slice none 0 0],v] w fun e w'=>e=.returned (.tuple #[.string ⟨#[]⟩,.int .i64 1])∧Below w.heap.size w w':=by
 obtain⟨W0,hW0⟩:=zx (w.alloc (.cells #[.int .i64 0,.slice none 0 0,.slice none 0 0,.slice none 0 0,.slice none 0 0,.slice none 0 0,.slice none 0 0] 35))
 obtain⟨z,hz⟩:=zx w.heap.size
 have hb0:Below w.heap.size w W0:=by rw[hW0];exact(Below.refl _ _).alloc (Nat.le_refl _) _
 have hzk:W0.heap[z]?=some (.cells #[.int .i64 0,.slice none 0 0,.slice none 0 0,.slice none 0 0,.slice none 0 0,.slice none 0 0,.slice none 0 0] 35 (0,0)):=by rw[hW0,hz];exact heap_alloc_new w _
 obtain⟨c0,c1,c2,c3,c4,c5,c6⟩:=cells7 hzk
 have HV:=zh (ivalid_empty v W0)
 have HW0:=zh hW0
 have HZ:=zh hz
 have HB0:=zh hb0
 clear hW0 hz hb0 hzk
 go_enter Tryz.func14,Tryz.ntmps14
 go_upto_region 1 with fail
 rw[←HW0.out,←HZ.out]
 go_wp2_with fail
 refine HV.out.mono ?_
 rintro e w1 ⟨rfl,hb1⟩
 have HB1:=zh (HB0.out.trans (hb1.mono HB0.out.size))
 clear c0 c1 c2 c3 c4 c5 c6 hb1
 go_wp2_with fail
 go_ret2
 exact⟨rfl,HB1.out⟩
theorem iformat_nil(N:Nat) (hN:N≤12) (vl vm vd vv vp vo:Value) (F:FltM) (w:World) (hf:FleetS w (Bl w.heap.size) vl vm vd vv vp vo F) (hok:FleetOk N F) :
  Calls Tryz.prog 14 #[.agg #[.int .i64 F.ext,vl,vm,vd,vv,vp,vo],.slice none 0 0] w fun e w'=>e=.returned (.tuple #[.string ⟨#[]⟩,.int .i64 0])∧Below w.heap.size w w':=by
 obtain⟨W0,hW0⟩:=zx (w.alloc (.cells #[.int .i64 F.ext,vl,vm,vd,vv,vp,vo] 35))
 obtain⟨z,hz⟩:=zx w.heap.size
 have hb0:Below w.heap.size w W0:=by rw[hW0];exact(Below.refl _ _).alloc (Nat.le_refl _) _
 have hzk:W0.heap[z]?=some (.cells #[.int .i64 F.ext,vl,vm,vd,vv,vp,vo] 35 (0,0)):=by rw[hW0,hz];exact heap_alloc_new w _
 obtain⟨c0,c1,c2,c3,c4,c5,c6⟩:=cells7 hzk
 have HV:=zh (ivalid_nil N hN vl vm vd vv vp vo F W0 (hf.below hb0) hok)
 obtain⟨EX,hEX⟩:=zx F.ext
 rw[←hEX] at HV hW0 c0 ⊢
 have HW0:=zh hW0
 have HZ:=zh hz
 have HB0:=zh hb0
 clear hf hok hW0 hz hb0 hzk hEX
 go_enter Tryz.func14,Tryz.ntmps14
 go_upto_region 1 with fail
 rw[←HW0.out,←HZ.out]
 go_wp2_with fail
 refine HV.out.mono ?_
 rintro e w1 ⟨rfl,hb1⟩
 have HB1:=zh (HB0.out.trans (hb1.mono HB0.out.size))
 clear c0 c1 c2 c3 c4 c5 c6 hb1
 obtain⟨W7,hW7⟩:=zx (w1.alloc (.cells #[.pointer none,.slice none 0 0] 108))
 obtain⟨gb,hgb⟩:=zx w1.heap.size
 have hb7:Below w1.heap.size w1 W7:=by rw[hW7];exact(Below.refl _ _).alloc (Nat.le_refl _) _
 have hgk:W7.heap[gb]?=some (.cells #[.pointer none,.slice none 0 0] 108 (0,0)):=by rw[hW7,hgb];exact heap_alloc_new _ _
 have hbl:Lib.IsBuilder 108 5 gb gb (Lib.byteCells []) W7:=.inl ⟨Nat.le_refl _,_,hgk,World.ownsRow_nil _ _ _ _,by intro e;cases e⟩
 have HST:=zh (bstring_any gb gb [] W7 hbl (Nat.le_of_lt (Array.getElem?_eq_some_iff.1 hgk).1))
 have HGB:=zh hgb
 have HW7:=zh hW7
 have HB7:=zh hb7
 clear hW7 hgb hb7 hgk hbl
 go_upto_region 4 with fail
 rw[←HW7.out,←HGB.out]
 go_wp2_with fail
 go_loopg [17] 0 (fun z v17 wr=>v17=.int .i64 0∧W7=wr)
 case atStart=>exact⟨rfl,rfl⟩
 case round =>
  obtain⟨rfl,rfl⟩:=hrel
  go_wp2_with fail
  refine HST.out.mono ?_
  rintro e w8 ⟨rfl,hb8⟩
  have HB8:=zh (show Below w1.heap.size w1 w8 from by have h:=HB7.out;exact h.trans (by rw[←HGB.out];exact hb8))
  clear hb8
  go_wp2_with fail
  go_ret2
  exact⟨rfl,HB1.out.trans (HB8.out.mono HB1.out.size)⟩
def lostB:ByteArray:=⟨#[108,111,115,116,10]⟩
theorem lost_cut:cutV lostB ⟨#[10]⟩=.tuple #[.string ⟨#[108,111,115,116]⟩,.string ⟨#[]⟩,.bool true]:=by kernel_rfl
theorem hdl_long(b:Bool) (nm:ByteArray) (s K:Nat):hdlB b nm s K≠⟨#[108,111,115,116]⟩:=fun e=>by
 have h:=congrArg ByteArray.size e
 unfold hdlB at h
 have h4:(⟨#[108,111,115,116]⟩:ByteArray).size=4:=rfl
 have h5:∀b:Bool,(if b then(⟨#[108,111,115,116,32]⟩:ByteArray) else⟨#[97,119,97,121,32]⟩).size=5:=fun b=>by cases b <;> rfl
 rw[h4,ByteArray.size_append,ByteArray.size_append,ByteArray.size_append,ByteArray.size_append,ByteArray.size_append,h5] at h
 omega
theorem iparse_lost(N:Nat) (hN:N≤12) (vl vm vd vv vp vo:Value) (F:FltM) (w:World) (hf:FleetS w (Bl w.heap.size) vl vm vd vv vp vo F) (hok:FleetOk N F) :
  Calls Tryz.prog 19 #[.agg #[.int .i64 F.ext,vl,vm,vd,vv,vp,vo],.string lostB] w fun e w'=>e=.returned (.tuple #[.slice none 0 0,.int .i64 104,.int .i64 1])∧Below w.heap.size w w':=by
 obtain⟨W0,hW0⟩:=zx (w.alloc (.cells #[.int .i64 F.ext,vl,vm,vd,vv,vp,vo] 35))
 obtain⟨z,hz⟩:=zx w.heap.size
 have hb0:Below w.heap.size w W0:=by rw[hW0];exact(Below.refl _ _).alloc (Nat.le_refl _) _
 have hzk:W0.heap[z]?=some (.cells #[.int .i64 F.ext,vl,vm,vd,vv,vp,vo] 35 (0,0)):=by rw[hW0,hz];exact heap_alloc_new w _
 have hzl:z<W0.heap.size:=(Array.getElem?_eq_some_iff.1 hzk).1
 have HC:=zh (fun(w':World) (hb:Below W0.heap.size W0 w')=>cells7 ((hb.block z hzl).trans hzk))
 have HV:=zh (fvalidate_any N hN vl vm vd vv vp vo F W0 (hf.below hb0) hok)
 obtain⟨EXN,hEXN⟩:∃e:Nat,F.ext=(e:Int):=⟨F.ext.toNat,by have:=hok.ext;omega⟩
 have HP:=zh (fun(w':World) (hb:Below W0.heap.size W0 w')=>parseHead_no N hN vl vm vd vv vp vo F EXN ⟨#[108,111,115,116]⟩ w' (hf.below (hb0.trans (hb.mono hb0.size))) hok hEXN (fun v s K _ _ _ b=>hdl_long b _ s K))
 have HCU:=zh (fun(w':World)=>(show Calls Tryz.prog 56 #[.string lostB,.string ⟨#[10]⟩] w' (fun e w2=>e=.returned (.tuple #[.string ⟨#[108,111,115,116]⟩,.string ⟨#[]⟩,.bool true])∧∃n,w2=w'.drewN n) from by
  have h:=cut_any lostB 10 w' (by decide)
  rw[lost_cut] at h
  exact h))
 obtain⟨EX,hEX⟩:=zx F.ext
 rw[←hEX] at HV hW0 HC HP ⊢
 obtain⟨S,hS⟩:=zx lostB
 rw[←hS] at HCU ⊢
 have hs0:S.toList.isEmpty=false:=by rw[hS];decide +kernel
 obtain⟨L4,hL4⟩:∃q:ByteArray,q=⟨#[108,111,115,116]⟩:=⟨_,rfl⟩
 rw[←hL4] at HCU HP
 have HW0:=zh hW0
 have HZ:=zh hz
 have HB0:=zh hb0
 obtain⟨c0,c1,c2,c3,c4,c5,c6⟩:=HC.out W0 (Below.refl _ _)
 clear hf hok hW0 hz hb0 hzk hzl hEX hEXN hS hL4
 go_enter Tryz.func19,Tryz.ntmps19
 go_upto_region 1 with fail
 rw[←HW0.out,←HZ.out]
 go_wp2_with fail
 refine HV.out.mono ?_
 rintro e w1 ⟨rfl,hb1⟩
 have HB1:=zh hb1
 clear c0 c1 c2 c3 c4 c5 c6 hb1
 obtain⟨W2,hW2⟩:=zx (w1.alloc (.cells #[.int .i64 0,.int .i64 0,.int .i64 0,.bool false] 118))
 obtain⟨gt,hgt⟩:=zx w1.heap.size
 have hb2:Below w1.heap.size w1 W2:=by rw[hW2];exact(Below.refl _ _).alloc (Nat.le_refl _) _
 have t2:W2.cell? ⟨gt,2,none⟩=some (.int .i64 0):=by rw[hW2,hgt];simp
 have HB2:=zh (HB1.out.trans (hb2.mono HB1.out.size))
 have HW2:=zh hW2
 have HGT:=zh hgt
 have HT2:=zh (fun(n:Nat)=>(show(W2.drewN n).cell? ⟨gt,2,none⟩=some (.int .i64 0) from by rw[←t2];exact World.cell?_of_block (w:=W2) (w':=W2.drewN n) ((Below.drewN' (Below.refl W2.heap.size W2) n).block gt (World.block_lt_of_cell? W2 _ t2))))
 clear hW2 hgt hb2 t2
 go_upto_region 5 with fail
 rw[←HW2.out,←HGT.out]
 go_wp2_with fail
 go_loopg [1,7,9] 0 (fun z v1 v7 v9 wr=>v1=.string S∧v7=.slice none 0 0∧v9=.int .i64 1∧W2=wr)
 case atStart=>exact⟨rfl,rfl,rfl,rfl⟩
 case round =>
  obtain⟨rfl,rfl,rfl,rfl⟩:=hrel
  go_wp2_with fail
  refine(HCU.out _).mono ?_
  rintro e w3 ⟨rfl,n,rfl⟩
  have t2:=HT2.out n
  have HB3:=zh (Below.drewN' HB2.out n)
  obtain⟨W3,hW3⟩:=zx (W2.drewN n)
  rw[←hW3] at t2 HB3 ⊢
  clear hW3
  obtain⟨c0,c1,c2,c3,c4,c5,c6⟩:=HC.out W3 HB3.out
  go_wp2_with fail
  refine(HP.out _ HB3.out).mono ?_
  rintro e w4 ⟨rfl,hb4⟩
  have HB4:=zh (HB3.out.trans (hb4.mono HB3.out.size))
  clear c0 c1 c2 c3 c4 c5 c6 t2 hb4
  go_upto_region 14 with fail
  go_quiet (fail)
  go_wp2_with fail
  go_ret3
  have hbw:=HB0.out.trans (HB4.out.mono HB0.out.size)
  exact⟨rfl,by first | exact Below.drewN' (hbw.alloc hbw.size _) _ | exact(hbw.alloc hbw.size _).drew | exact hbw.alloc hbw.size _⟩
end Go.Proofs.YtcfkllnpkmebpaaGreatDoor

namespace Go.Proofs.YtcfkllnpkmebpaaGreatDoor
open Go.RowKit
set_option linter.unusedVariables false
set_option linter.unusedSimpArgs false
theorem awake44_any(w:World):Calls Tryz.prog 10 #[] w fun e w'=>e=.returned (.bool true)∧Below w.heap.size w w':=by
 obtain⟨W1,hW1⟩:=zx (w.alloc (.cells #[.slice none 0 0,.int .i64 0] 75))
 obtain⟨gT,hgT⟩:=zx w.heap.size
 have hT1:TapeB W1 gT (.slice none 0 0) 0:=by rw[hW1,hgT];exact heap_alloc_new w _
 have hb1:Below w.heap.size w W1:=by rw[hW1];exact(Below.refl _ _).alloc (Nat.le_refl _) _
 have HFL:=zh (fleet_any gT (.slice none 0 0) [] 0 1 W1 (fun _=>False) hT1 ⟨Row.nil _ _ _,fun x hx=>by cases hx⟩ (fun b h=>h.elim) (by omega) (by omega) (by omega))
 have HW1:=zh hW1
 have HGT:=zh hgT
 have HB1:=zh hb1
 clear hW1 hgT hT1 hb1
 go_enter Tryz.func10,Tryz.ntmps10
 go_wp2_with fail
 rw[←HW1.out,←HGT.out]
 refine HFL.out.mono ?_
 rintro e w2 ⟨vl,vm,vd,vv,vp,vo,F,I0,rfl,hfs,hT2,hI0,hg,hok⟩
 obtain⟨Al,nl,cl,hvl⟩:=hfs.1.form3
 obtain⟨Am,nm,cm,hvm⟩:=hfs.2.1.form3
 obtain⟨Ad,nd,cd,hvd⟩:=hfs.2.2.1.form3
 obtain⟨Av,nv,cv,hvv⟩:=hfs.2.2.2.1.form3
 obtain⟨Ap,np,cp,hvp⟩:=hfs.2.2.2.2.1.form3
 obtain⟨Ao,no,co,hvo⟩:=hfs.2.2.2.2.2.form3
 subst hvl hvm hvd hvv hvp hvo
 have hb2:Below w.heap.size w w2:=HB1.out.grown hg HB1.out.size (fun b e=>by injection e with e;have:=HGT.out;omega)
 have hf2:FleetS w2 (Bl w2.heap.size) (.slice Al nl cl) (.slice Am nm cm) (.slice Ad nd cd) (.slice Av nv cv) (.slice Ap np cp) (.slice Ao no co) F:=hfs.mono (fun b h=>h.2)
 obtain⟨W3,hW3⟩:=zx (w2.alloc (.cells #[.int .i64 F.ext,.slice Al nl cl,.slice Am nm cm,.slice Ad nd cd,.slice Av nv cv,.slice Ap np cp,.slice Ao no co] 35))
 obtain⟨gF,hgF⟩:=zx w2.heap.size
 have hb3:Below w2.heap.size w2 W3:=by rw[hW3];exact(Below.refl _ _).alloc (Nat.le_refl _) _
 have hgk:W3.heap[gF]?=some (.cells #[.int .i64 F.ext,.slice Al nl cl,.slice Am nm cm,.slice Ad nd cd,.slice Av nv cv,.slice Ap np cp,.slice Ao no co] 35 (0,0)):=by rw[hW3,hgF];exact heap_alloc_new _ _
 have hgl:gF<W3.heap.size:=(Array.getElem?_eq_some_iff.1 hgk).1
 have HC:=zh (fun(w':World) (hb:Below W3.heap.size W3 w')=>cells7 ((hb.block gF hgl).trans hgk))
 have HF:=zh (fun(w':World) (hb:Below W3.heap.size W3 w')=>iformat_nil 1 (by omega) _ _ _ _ _ _ F w' ((hf2.below hb3).below hb) hok)
 have HP:=zh (fun(w':World) (hb:Below W3.heap.size W3 w')=>iparse_lost 1 (by omega) _ _ _ _ _ _ F w' ((hf2.below hb3).below hb) hok)
 unfold lostB at HP
 have HE:=zh (fun(w':World)=>iformat_empty (.slice none 0 0) w')
 have HB3:=zh (hb2.trans (hb3.mono hb2.size))
 obtain⟨EX,hEX⟩:=zx F.ext
 rw[←hEX] at HC HF HP hW3 ⊢
 have HW3:=zh hW3
 have HGF:=zh hgF
 clear hfs hT2 hI0 hg hok hb2 hf2 hW3 hgF hb3 hgk hgl hEX HFL
 go_upto_region 2 with fail
 rw[←HW3.out,←HGF.out]
 obtain⟨c0,c1,c2,c3,c4,c5,c6⟩:=HC.out W3 (Below.refl _ _)
 go_wp2_with fail
 refine(HF.out _ (Below.refl _ _)).mono ?_
 rintro e w4 ⟨rfl,hb4⟩
 have HB4:=zh hb4
 clear c0 c1 c2 c3 c4 c5 c6 hb4
 go_wp2_with fail
 refine(HE.out _).mono ?_
 rintro e w5 ⟨rfl,hb5⟩
 have HB5:=zh (HB4.out.trans (hb5.mono HB4.out.size))
 clear hb5
 obtain⟨c0,c1,c2,c3,c4,c5,c6⟩:=HC.out w5 HB5.out
 go_wp2_with fail
 refine(HP.out _ HB5.out).mono ?_
 rintro e w6 ⟨rfl,hb6⟩
 have HB6:=zh (HB5.out.trans (hb6.mono HB5.out.size))
 clear c0 c1 c2 c3 c4 c5 c6 hb6
 go_wp2_with fail
 go_ret
 exact⟨rfl,HB3.out.trans (HB6.out.mono HB3.out.size)⟩
end Go.Proofs.YtcfkllnpkmebpaaGreatDoor

namespace Go.Proofs.YtcfkllnpkmebpaaGreatDoor
open Go.RowKit
open Go.ChangeMaps Go.MapKept Go.WideShapes
open Go.WideElems (Fit rd rg pl rd_key rd_val rg_of)
open Go.Maps (Keyed)
set_option linter.unusedVariables false
set_option linter.unusedSimpArgs false
structure KeyT {κ:Type} (kt:TypeId) (kval:κ→Value) (ok:κ→Prop):Prop where
 law:Keyed Tryz.prog kt
 lit:∀k,ok k→∃l,keyOf Tryz.prog kt (kval k)=some l
 inv:∀v l,keyOf Tryz.prog kt v=some l→∃k,v=kval k∧ok k
 inj:∀k k',kval k=kval k'→k=k'
section
variable {κ : Type} {kval : κ → Value} {ok : κ → Prop}
def MapG(w:World) (kt:TypeId) (kval:κ→Value) (b n:Nat) (f:κ→Option Value):Prop :=
 ∃D,w.ownsMap Tryz.prog kt rawR b n D∧∀k l,keyOf Tryz.prog kt (kval k)=some l→Maps.has D l=(f k).isSome∧∀z,D.atKey l (.held z)=.held ((f k).getD z)
def updG [DecidableEq κ] (f:κ→Option Value) (k:κ) (v:Value):κ→Option Value:=fun c=>if c=k then some v else f c
theorem updG_same [DecidableEq κ] (f:κ→Option Value) (k:κ) (v:Value):updG f k v k=some v:=if_pos rfl
theorem updG_other [DecidableEq κ] {f:κ→Option Value} {k c:κ} {v:Value} (h:c≠k):updG f k v c=f c:=if_neg h
theorem MapG.made(w:World) (kt:TypeId):MapG (w.alloc (.map #[] 0)) kt kval w.heap.size 0 (fun _=>none) :=
 ⟨_,World.ownsMap_made w Tryz.prog kt rawR,fun k l _=>⟨rfl,fun z=>rfl⟩⟩
variable {w w' : World} {kt t e : TypeId} {b n : Nat} {f : κ → Option Value} {x : κ} {z : Value}
theorem MapG.lt(h:MapG w kt kval b n f):b<w.heap.size:=by
 obtain⟨D,h1,-⟩:=h
 exact h1.lt
theorem MapG.same(h:MapG w kt kval b n f) (e:w'.heap[b]?=w.heap[b]?):MapG w' kt kval b n f:=by
 obtain⟨D,⟨es,clock,hb,r⟩,h2⟩:=h
 exact⟨D,⟨es,clock,e.trans hb,r⟩,h2⟩
theorem MapG.below{B:Nat} (h:MapG w kt kval b n f) (hb:Below B w w') (hB:b<B):MapG w' kt kval b n f:=h.same (hb.block b hB)
theorem MapG.look(T:KeyT kt kval ok) (h:MapG w kt kval b n f) (ht:Tryz.prog.underlying t=some (.map kt e)) (hz:(zeroValue e).run Tryz.prog w=.ok z w) (hx:ok x) :
  (Instr.lookup t (.map (some b)) (kval x) false).run Tryz.prog w=.ok ((f x).getD z) w:=by
 obtain⟨D,h1,h2⟩:=h
 obtain⟨l,hl⟩:=T.lit x hx
 obtain⟨v,ps,hrun,hv⟩:=h1.lookup T.law ht hz (zd:=.held z) (zp:=[]) rfl hl
 rw[(h2 x l hl).2 z] at hv
 rw[hrun,held_inj (rawR_inj hv)]
theorem put_updG [DecidableEq κ] {D:DataW Value} {l:Lit} {v:Value} (T:KeyT kt kval ok) (hD:Maps.IsMap D) (h2:∀k l,keyOf Tryz.prog kt (kval k)=some l→Maps.has D l=(f k).isSome∧∀z,D.atKey l (.held z)=.held ((f k).getD z)) (hl:keyOf Tryz.prog kt (kval x)=some l) :
  ∀c l',keyOf Tryz.prog kt (kval c)=some l'→Maps.has (D.put l (.held v)) l'=(updG f x v c).isSome∧∀z,(D.put l (.held v)).atKey l' (.held z)=.held ((updG f x v c).getD z):=by
 intro c l' hl'
 by_cases hk:c=x
 ·subst hk
  rw[hl'] at hl
  injection hl with hl
  subst hl
  rw[updG_same]
  exact⟨Maps.has_put_same hD (T.law.key hl') _,fun z=>Maps.atKey_put_same hD (T.law.key hl') _ _⟩
 ·rw[updG_other hk]
  have hne:l'≠l:=fun e=>hk (T.inj _ _ (T.law.inj hl' (e▸hl)))
  exact⟨by rw[Maps.has_put_other hne];exact(h2 c l' hl').1,fun z=>by rw[Maps.atKey_put_other hne];exact(h2 c l' hl').2 z⟩
theorem MapG.store [DecidableEq κ] (T:KeyT kt kval ok) (h:MapG w kt kval b n f) (ht:Tryz.prog.underlying t=some (.map kt e)) (hn:n<maxLen) (hx:ok x) (v:Value) :
  ∃w',(Instr.mapUpdate t (.map (some b)) (kval x) v).run Tryz.prog w=.ok () w'∧MapG w' kt kval b (n+1) (updG f x v)∧w.grownBy w' (some b):=by
 obtain⟨D,h1,h2⟩:=h
 obtain⟨l,hl⟩:=T.lit x hx
 obtain⟨w',hrun,r1,r2⟩:=h1.update T.law ht hn hl (d:=.held v) (ps:=[]) rfl
 exact⟨w',hrun,⟨_,r1,put_updG T h1.isMap h2 hl⟩,r2⟩
end
section
variable {κ : Type} {kval : κ → Value} {ok : κ → Prop}
variable {w : World} {ops : Array Oper} {rest : List Oper} {o : Oper} {a : Act} {Q : Exit → Act → World → Prop}
theorem kg_look(hg:o.guard=none) (m xo:Operand) (t kt e:TypeId) (hop:o.op=Op.lookup t m xo false) (T:KeyT kt kval ok) (ht:Tryz.prog.underlying t=some (.map kt e)) (b n:Nat) (f:κ→Option Value) (x:κ) (z:Value)
  (hm:a.eval m=.map (some b)) (hxo:a.eval xo=kval x) (h:MapG w kt kval b n f) (hz:(zeroValue e).run Tryz.prog w=.ok z w) (hx:ok x) (u:Value) (hu:(f x).getD z=u)
  (hK:wpList Tryz.prog ops Q rest (a.put o.dst u) w):wpList Tryz.prog ops Q (o :: rest) a w:=by
 refine wpList_plain hg fun K' hK'=>?_
 have hrun:=h.look T ht hz hx
 rw[hu] at hrun
 unfold Oper.wp
 simp[execOp,hop,hm,hxo,hrun,Result.andThen]
 exact hK' _ _ hK
end
def kint(x:Int):Value:=.int .i64 x
theorem int_key{kt:TypeId} (hk:Tryz.prog.underlying kt=some (.int .i64)):KeyT kt kint I64 where
 law:=Go.Maps.int_keyed hk
 lit x hx:=⟨_,Go.Maps.keyOf_int_mk hk ((i64_wf x).2 hx)⟩
 inv v l h:=by
  simp[keyOf,hk] at h
  cases v <;> simp[mapKey,hk] at h
  obtain⟨⟨rfl,hw⟩,-⟩:=h
  exact⟨_,rfl,(i64_wf _).1 hw⟩
 inj a c h:=by unfold kint at h;simpa using h
end Go.Proofs.YtcfkllnpkmebpaaGreatDoor

namespace Go.Proofs.YtcfkllnpkmebpaaGreatDoor
open Go.RowKit
set_option linter.unusedVariables false
set_option linter.unusedSimpArgs false
def popc(s:Nat):Nat:=((List.range 8).filter fun i=>s.testBit i).length
theorem popc_all:((List.range 256).all fun s=>s==0||(popc (s &&& (s - 1))+1==popc s))=true:=by decide +kernel
theorem popc_step{s:Nat} (h:s<256) (h0:s≠0):popc (s &&& (s - 1))+1=popc s:=by
 have:=List.all_eq_true.1 popc_all s (by simpa using h)
 rw[Bool.or_eq_true,beq_iff_eq,beq_iff_eq] at this
 exact this.resolve_left h0
theorem popc_zero:popc 0=0:=by decide +kernel
theorem popc_le(s:Nat):popc s≤8:=by
 unfold popc
 exact Nat.le_trans (List.length_filter_le _ _) (by simp)
def chs(hv:Nat→Nat) (m k:Nat):Nat→Nat→Nat→Option (List Nat)
 | 0,_,s=>if k≤popc s then some [] else none
 | n+1,fr,s=>(List.range' fr (m - fr)).findSome? fun d=>if hv d=0 then none else(chs hv m k n (d+1) (s ||| hv d)).map (d :: ·)
theorem chs_zero(hv:Nat→Nat) (m k fr s:Nat):chs hv m k 0 fr s=if k≤popc s then some [] else none:=rfl
theorem chs_end{hv:Nat→Nat} {m k n fr s:Nat} (h:m≤fr):chs hv m k (n+1) fr s=none:=by
 unfold chs
 rw[show m - fr=0 by omega]
 rfl
theorem chs_skip{hv:Nat→Nat} {m k n fr s:Nat} (h:fr<m) (h0:hv fr=0):chs hv m k (n+1) fr s=chs hv m k (n+1) (fr+1) s:=by
 show List.findSome? _ _=List.findSome? _ _
 rw[show m - fr=(m - (fr+1))+1 by omega,List.range'_succ,List.findSome?_cons,if_pos h0]
theorem chs_none{hv:Nat→Nat} {m k n fr s:Nat} (h:fr<m) (h0:hv fr≠0) (h1:chs hv m k n (fr+1) (s ||| hv fr)=none):chs hv m k (n+1) fr s=chs hv m k (n+1) (fr+1) s:=by
 show List.findSome? _ _=List.findSome? _ _
 rw[show m - fr=(m - (fr+1))+1 by omega,List.range'_succ,List.findSome?_cons,if_neg h0,h1]
 rfl
theorem chs_some{hv:Nat→Nat} {m k n fr s:Nat} {l:List Nat} (h:fr<m) (h0:hv fr≠0) (h1:chs hv m k n (fr+1) (s ||| hv fr)=some l):chs hv m k (n+1) fr s=some (fr :: l):=by
 show List.findSome? _ _=_
 rw[show m - fr=(m - (fr+1))+1 by omega,List.range'_succ,List.findSome?_cons,if_neg h0,h1]
 rfl
def pick2{β:Type} (p:Nat→Nat→Option β):List Nat→Option β
 | []=>none
 | a :: l=>(l.findSome? (p a)).or (pick2 p l)
theorem chs_one(hv:Nat→Nat) (m k:Nat) (s:Nat):∀c fr,m - fr=c→chs hv m k 1 fr s=((List.range' fr (m - fr)).filter (fun d=>decide (hv d≠0))).findSome? fun d=>if k≤popc (s ||| hv d) then some [d] else none:=by
 intro c
 induction c with
 | zero=>intro fr h;rw[chs_end (by omega),h];rfl
 | succ c ih =>
  intro fr h
  rw[show m - fr=(m - (fr+1))+1 by omega,List.range'_succ,List.filter_cons]
  by_cases h0:hv fr=0
  ·rw[chs_skip (by omega) h0,ih (fr+1) (by omega),if_neg (by simpa using h0)]
  ·rw[if_pos (by simpa using h0),List.findSome?_cons]
   by_cases hk:k≤popc (s ||| hv fr)
   ·rw[chs_some (by omega) h0 (by rw[chs_zero,if_pos hk]),if_pos hk]
   ·rw[chs_none (by omega) h0 (by rw[chs_zero,if_neg hk]),if_neg hk,ih (fr+1) (by omega)]
theorem chs_two(hv:Nat→Nat) (m k:Nat) (s:Nat):∀c fr,m - fr=c→chs hv m k 2 fr s=pick2 (fun a b=>if k≤popc (s ||| hv a ||| hv b) then some [a,b] else none) ((List.range' fr (m - fr)).filter (fun d=>decide (hv d≠0))):=by
 intro c
 induction c with
 | zero=>intro fr h;rw[chs_end (by omega),h];rfl
 | succ c ih =>
  intro fr h
  rw[show m - fr=(m - (fr+1))+1 by omega,List.range'_succ,List.filter_cons]
  by_cases h0:hv fr=0
  ·rw[chs_skip (by omega) h0,ih (fr+1) (by omega),if_neg (by simpa using h0)]
  ·rw[if_pos (by simpa using h0)]
   show _=Option.or _ _
   have h1:=chs_one hv m k (s ||| hv fr) _ (fr+1) rfl
   have hmap:∀l:List Nat,l.findSome? (fun b=>if k≤popc (s ||| hv fr ||| hv b) then some [fr,b] else none)=(l.findSome? (fun d=>if k≤popc (s ||| hv fr ||| hv d) then some [d] else none)).map (fr :: ·):=by
    intro l
    induction l with
    | nil=>rfl
    | cons a l ihl =>
     rw[List.findSome?_cons,List.findSome?_cons]
     by_cases hk:k≤popc (s ||| hv fr ||| hv a)
     ·rw[if_pos hk,if_pos hk];rfl
     ·rw[if_neg hk,if_neg hk];exact ihl
   rw[hmap,←h1]
   cases hc:chs hv m k 1 (fr+1) (s ||| hv fr) with
   | none=>rw[chs_none (by omega) h0 hc,ih (fr+1) (by omega)];rfl
   | some l=>rw[chs_some (by omega) h0 hc];rfl
end Go.Proofs.YtcfkllnpkmebpaaGreatDoor

namespace Go.Proofs.YtcfkllnpkmebpaaGreatDoor
open Go.RowKit
set_option linter.unusedVariables false
set_option linter.unusedSimpArgs false
theorem i64_and_nat(a b:Nat) (ha:a<9223372036854775808) (hb:b<9223372036854775808):bits .and .i64 (a:Int) (b:Int)=((a &&& b:Nat):Int):=by
 have hx:a &&& b<2 ^ 63:=Nat.and_lt_two_pow _ (by omega)
 show IntKind.i64.wrap ((BitVec.ofInt 64 (a:Int) &&& BitVec.ofInt 64 (b:Int)).toNat:Int)=_
 rw[BitVec.toNat_and,ofInt_i64 a ha,ofInt_i64 b hb,IntKind.wrap_i64]
 omega
theorem and_step{s:Nat} (h:s<256) (h0:s≠0):bits .and .i64 (s:Int) ((s:Int) - 1)=((s &&& (s - 1):Nat):Int):=by
 rw[show(s:Int) - 1=((s - 1:Nat):Int) by omega]
 exact i64_and_nat _ _ (by omega) (by omega)
theorem count_any(s:Nat) (w:World) (hs:s<256) :
  Calls Tryz.prog 110 #[.int .i64 (s:Int)] w fun e w'=>e=.returned (.int .i64 (popc s:Int))∧w'=w:=by
 have hp8:=popc_le s
 obtain⟨p,hp⟩:=zx (popc s)
 rw[←hp] at hp8 ⊢
 have HP:=zh hp
 clear hp
 go_enter Tryz.func110,Tryz.ntmps110
 go_wp2
 go_loopg [0,3] p (fun z v0 v3 wr=>∃(t c:Nat),v0=.int .i64 (t:Int)∧v3=.int .i64 (c:Int)∧z+c=p∧t<256∧Hid (z=popc t)∧wr=w)
 case atStart=>exact⟨s,0,rfl,rfl,by omega,hs,zh HP.out,rfl⟩
 case round =>
  obtain⟨t,c,rfl,rfl,hz,ht,HZ,rfl⟩:=hrel
  by_cases h0:t=0
  ·subst h0
   have hgk:=HZ.out
   rw[popc_zero] at hgk
   have hc:c=p:=by omega
   subst hc
   clear hgk hz
   go_wp2
   go_ret
   exact⟨rfl,rfl⟩
  ·have h1:(t:Int)≠0:=by omega
   have hst:=popc_step ht h0
   have han:=and_step ht h0
   have hlt:t &&& (t - 1)<256:=Nat.lt_of_le_of_lt Nat.and_le_left ht
   obtain⟨u,hu⟩:=zx (t &&& (t - 1))
   rw[←hu] at hst han hlt
   have HST:=zh hst
   clear hst hu
   go_wp2
   have hst2:=HST.out
   have hz2:=HZ.out
   go_roundg (gk - 1)
   case measure=>omega
   case rel=>exact⟨u,c+1,rfl,by go_num,by omega,hlt,zh (by omega),rfl⟩
end Go.Proofs.YtcfkllnpkmebpaaGreatDoor

namespace Go.Proofs.YtcfkllnpkmebpaaGreatDoor
open Go.RowKit
set_option linter.unusedVariables false
set_option linter.unusedSimpArgs false
theorem app_ints{ops:Array Oper} {rest:List Oper} {o:Oper} {a:Act} {Q:Exit→Act→World→Prop} {w:World} (s x:Operand) (hgd:o.guard=none) (ho:o.op=.call { callee:=.builtin .append,args:=#[s,x],argTypes:=#[22,22] })
  (base base2:Nat) (v v2:Value) (xs ys:List Int) (hs:a.eval s=v) (hown:OwnI w base v xs)
  (hx:a.eval x=v2) (hown2:OwnI w base2 v2 ys) (hn:xs.length+ys.length≤65536) (hbase:base≤w.heap.size)
  (h:∀v' w',OwnI w' base v' (xs++ys)→w.grownBy w' v.ownBlock→(v'.ownBlock=v.ownBlock∨v'.ownBlock=some w.heap.size)→wpList Tryz.prog ops Q rest (a.put o.dst v') w') :
  wpList Tryz.prog ops Q (o :: rest) a w:=by
 obtain⟨i0,hi0,hz0,hz1,hz2⟩:=info_parts info_int2
 have hown1':w.ownsRow base 3 1 v xs.length (xs.map (Value.int .i64)):=hown
 have hown2':w.ownsRow base2 3 1 v2 ys.length (ys.map (Value.int .i64)):=hown2
 have hcells:=fun g=>hown2'.cells (g:=g)
 rcases hown2'.2 with ⟨rfl,h0⟩ | ⟨g,cap,cur,rfl,-,-,-,-⟩
 ·have e:ys=[]:=List.eq_nil_of_length_eq_zero h0
  subst e
  refine wpList_append_own_none hgd s x _ ho base _ i0 1 Tryz.underlying22 hi0 v xs.length _ hs hown1' hx (h v w ?_ ⟨rfl,rfl,rfl,Nat.le_refl _,fun _ _ _=>rfl⟩ (.inl rfl))
  rw[List.append_nil];exact hown
 ·refine wpList_append_own_at (P:=Tryz.prog) _ hgd s x _ ho base _ i0 _ 1 8 Tryz.underlying22 hi0 hz0 hz1 hz2 rfl (by omega) v xs.length _ hs hown1' ⟨g,0,none⟩ ys.length cap _ hx (by simp) (hcells g rfl) (fun u hu=>?_) (by unfold maxLen;omega) (by omega) hbase (fun v' w' a b _ d=>h v' w' ?_ b d)
  ·obtain⟨y,-,rfl⟩:=List.mem_map.1 hu
   rfl
  ·show w'.ownsRow base 3 1 v' (xs++ys).length ((xs++ys).map (Value.int .i64))
   rw[List.length_append,List.map_append]
   exact a
theorem chs_length{hv:Nat→Nat} {m k:Nat}:∀{n fr s:Nat} {l:List Nat},chs hv m k n fr s=some l→l.length=n:=by
 intro n
 induction n with
 | zero =>
  intro fr s l h
  rw[chs_zero] at h
  split at h
  ·injection h with h;rw[←h];rfl
  ·cases h
 | succ n ih =>
  intro fr s l h
  obtain⟨d,hd,h1⟩:=List.exists_of_findSome?_eq_some (show List.findSome? _ _=some l from h)
  split at h1
  ·cases h1
  ·obtain⟨l',h2,rfl⟩:=Option.map_eq_some_iff.1 h1
   rw[List.length_cons,ih h2]
def ChP(w:World) (o:Option (List Nat)) (e:Ending) (w':World):Prop :=
 ∃u,e=.returned (.tuple #[u,.bool o.isSome])∧OwnI w' w.heap.size u ((o.getD []).map (fun x:Nat=>(x:Int)))∧Below w.heap.size w w'
theorem zero_int8(w:World):(zeroValue 3).run Tryz.prog w=.ok (.int .i64 0) w:=Tryz.zeroValue3 w
theorem own_lit8(w:World) (d:Int):OwnI (w.alloc (.cells #[.int .i64 d] 3)) w.heap.size (.slice (some ⟨w.heap.size,0,none⟩) 1 1) [d] :=
 ⟨rfl,.inr ⟨w.heap.size,1,#[.int .i64 d],rfl,Nat.le_refl _,heap_alloc_new w _,Nat.le_refl _,by unfold maxLen;omega,rfl,by simp⟩⟩
theorem choose_any(b c:Nat) (f:Int→Option Value) (hv:Nat→Nat) (m k:Nat) (hf:∀d:Nat,d<m→(f (d:Int)).getD (.int .i64 0)=.int .i64 (hv d:Int)) (h256:∀d,hv d<256) (hm:m≤1000) (hk:k≤100) :
  ∀n:Nat,n≤2→∀(fr s:Nat) (w:World),fr≤m→s<256→MapG w 3 kint b c f →
   Calls Tryz.prog 63 #[.map (some b),.int .i64 (m:Int),.int .i64 (n:Int),.int .i64 (fr:Int),.int .i64 (s:Int),.int .i64 (k:Int)] w (ChP w (chs hv m k n fr s)):=by
 intro n
 induction n with
 | zero =>
  intro hn fr s w hfr hs hM
  have hp8:=popc_le s
  have HC:=zh (fun w=>count_any s w hs)
  rw[chs_zero]
  obtain⟨p,hp⟩:=zx (popc s)
  rw[←hp] at hp8 HC ⊢
  by_cases h1:k≤p
  ·rw[if_pos h1]
   have h2:(k:Int)≤(p:Int):=by omega
   clear hp hf h256 hM
   go_enter Tryz.func63,Tryz.ntmps63
   go_wp2_with (go_at_call 110;refine(HC.out _).mono ?_;rintro e w' ⟨rfl,rfl⟩)
   go_ret2
   exact⟨_,rfl,OwnI.nil _ _,Below.refl _ _⟩
  ·rw[if_neg h1]
   have h2:(p:Int)<(k:Int):=by omega
   clear hp hf h256 hM
   go_enter Tryz.func63,Tryz.ntmps63
   go_wp2_with (go_at_call 110;refine(HC.out _).mono ?_;rintro e w' ⟨rfl,rfl⟩)
   go_ret2
   exact⟨_,rfl,OwnI.nil _ _,Below.refl _ _⟩
 | succ n IH =>
  intro hn fr s w hfr hs hM
  obtain⟨nn,hnn⟩:∃q:Int,q=((n+1:Nat):Int):=⟨_,rfl⟩
  have n1:nn - 1=(n:Int):=by omega
  have n2:(nn==0)=false:=by rw[beq_eq_false_iff_ne];omega
  rw[←hnn]
  obtain⟨res,hres⟩:=zx (chs hv m k (n+1) fr s)
  rw[←hres]
  have HRES:=zh hres
  have HM:=zh hM
  have HF:=zh hf
  have H256:=zh h256
  have HIH:=zh (IH (by omega))
  have hn2:n≤1:=by omega
  clear hnn hres hM hf h256 IH hn
  go_enter Tryz.func63,Tryz.ntmps63
  go_wp2_with fail
  go_loopg [14] (m - fr) (fun z v14 wr=>∃d:Nat,v14=.int .i64 (d:Int)∧d≤m∧z=m - d∧Hid (res=chs hv m k (n+1) d s)∧Hid (Below w.heap.size w wr))
  case atStart=>exact⟨fr,rfl,hfr,rfl,zh HRES.out,zh (Below.refl _ _)⟩
  case round =>
   obtain⟨d,rfl,hd,rfl,HR,HB⟩:=hrel
   have HMW:=zh (HM.out.below HB.out HM.out.lt)
   by_cases hlt:d<m
   ·have hfd:=HF.out d hlt
    have hx:=H256.out d
    obtain⟨x,hxe⟩:=zx (hv d)
    rw[←hxe] at hfd hx
    have HX:=zh hxe
    have HFD:=zh hfd
    have HID:=zh (show I64 (d:Int) from⟨by omega,by omega⟩)
    clear hxe hfd
    by_cases h0:x=0
    ·subst h0
     go_wp2_with (at_lookup;refine kg_look rfl _ _ _ 3 3 rfl (int_key Tryz.underlying3) Tryz.underlying132 b c f (d:Int) (.int .i64 0) (by rfl) (by rfl) HMW.out (zero_int8 _) HID.out _ HFD.out ?_)
     go_roundg (m - (d+1))
     case measure=>omega
     case rel=>exact⟨d+1,by go_num,by omega,rfl,zh (HR.out.trans (chs_skip hlt HX.out.symm)),HB⟩
    ·have hx0:(x:Int)≠0:=by omega
     have hor:=i64_or_nat s x (by omega) (by omega)
     have hul:s ||| x<256:=Nat.or_lt_two_pow (n:=8) hs hx
     obtain⟨u,hu⟩:=zx (s ||| x)
     rw[←hu] at hor hul
     have HU:=zh (show u=s ||| hv d by rw[hu,HX.out])
     obtain⟨o,ho⟩:=zx (chs hv m k n (d+1) u)
     have HIC:=zh (fun(w1:World) (h1:MapG w1 3 kint b c f)=>HIH.out (d+1) u w1 (by omega) hul h1)
     rw[←ho,show((d+1:Nat):Int)=(d:Int)+1 by omega] at HIC
     have HO:=zh ho
     have HX0:=zh (show hv d≠0 by rw[←HX.out];exact h0)
     clear hu ho h0 hul
     cases o with
     | none =>
      go_wp2_with (first
       | (at_lookup;refine kg_look rfl _ _ _ 3 3 rfl (int_key Tryz.underlying3) Tryz.underlying132 b c f (d:Int) (.int .i64 0) (by rfl) (by rfl) HMW.out (zero_int8 _) HID.out _ HFD.out ?_)
       | (go_at_call 63;refine(HIC.out _ HMW.out).mono ?_;rintro e w1 ⟨v1,rfl,-,hb1⟩))
      go_roundg (m - (d+1))
      case measure=>omega
      case rel=>exact⟨d+1,by go_num,by omega,rfl,zh (HR.out.trans (chs_none hlt HX0.out (by rw[←HU.out];exact HO.out.symm))),zh (HB.out.trans (hb1.mono HB.out.size))⟩
     | some l =>
      have HLN:=zh (chs_length HO.out.symm)
      go_wp2_with (first
       | (at_lookup;refine kg_look rfl _ _ _ 3 3 rfl (int_key Tryz.underlying3) Tryz.underlying132 b c f (d:Int) (.int .i64 0) (by rfl) (by rfl) HMW.out (zero_int8 _) HID.out _ HFD.out ?_)
       | (go_at_call 63;refine(HIC.out _ HMW.out).mono ?_;rintro e w1 ⟨v1,rfl,hO1,hb1⟩;obtain⟨A1,c1,hv1⟩:=OwnI.form (xs:=l.map (fun x:Nat=>(x:Int))) hO1;rw[List.length_map] at hv1;subst hv1;have HO1:=zh hO1;have HB1:=zh hb1;clear hO1 hb1)
       | (at_builtin;refine app_ints (.tmp 51) (.tmp 52) rfl rfl w1.heap.size wr.heap.size _ _ [(d:Int)] (l.map (fun x:Nat=>(x:Int))) (by rfl) (own_lit8 w1 (d:Int)) (by rfl) (HO1.out.below ((Below.refl _ _).alloc (Nat.le_refl _) _)) (by have:=HLN.out;rw[List.length_map];simp only[List.length_cons,List.length_nil];omega) (by simp) ?_;intro v2 w2 hO2 hg2 hat2))
      go_ret2
      have hrs:res=some (d :: l):=HR.out.trans (chs_some hlt HX0.out (by rw[←HU.out];exact HO.out.symm))
      have hbb:Below w.heap.size w w1:=HB.out.trans (HB1.out.mono HB.out.size)
      have hs1:=hbb.size
      refine⟨v2,by rw[hrs];rfl,?_,?_⟩
      ·rw[hrs]
       exact hO2.base hs1
      ·exact(hbb.alloc hs1 _).grown hg2 (by simp;omega) (fun b h=>by simp[Value.ownBlock] at h;omega)
   ·have HE:=zh (show res=none from HR.out.trans (chs_end (by omega)))
    have HBF:=zh HB.out
    go_wp2_with fail
    go_ret2
    refine⟨_,by rw[HE.out];rfl,?_,HBF.out⟩
    rw[HE.out]
    exact OwnI.nil _ _
end Go.Proofs.YtcfkllnpkmebpaaGreatDoor

namespace Go.Proofs.YtcfkllnpkmebpaaGreatDoor
open Go.RowKit
set_option linter.unusedVariables false
set_option linter.unusedSimpArgs false
theorem srcB_off(r:Re) (v f s:Int) (x:Fd):srcB r v f s false x=isB x.p v f s:=by unfold srcB;simp
theorem srcB_on(r:Re) (v f s:Int) (x:Fd):srcB r v f s true x=(isB x.p v f s&&onB r x.drive):=by unfold srcB;simp
theorem goodTo_find(v f s:Int) (q:Int→Bool):∀(l:List Fd) (acc:List Int),(∀a∈acc,q a=false)→(l.foldl (gStep v f s) acc).find? q=(l.find? fun x=>isB x.p v f s&&q (x.drive:Int)).map fun x=>(x.drive:Int)
 | [],acc,h=>by
  simp only[List.foldl_nil,List.find?_nil,Option.map_none]
  rw[List.find?_eq_none]
  intro a ha
  rw[h a ha];decide
 | x :: l,acc,h=>by
  rw[List.foldl_cons,List.find?_cons]
  by_cases hb:isB x.p v f s=true
  ·by_cases hq:q (x.drive:Int)=true
   ·rw[hb,hq]
    simp only[Bool.and_self,Option.map_some]
    have hne:acc.getLast?≠some (x.drive:Int):=fun e=>by
     have:=h _ (List.mem_of_getLast? e)
     rw[hq] at this;cases this
    rw[gStep_new hb hne]
    have hk:∀(l:List Fd) (acc:List Int) (y:Int),acc.find? q=some y→(l.foldl (gStep v f s) acc).find? q=some y:=by
     intro l
     induction l with
     | nil=>intro acc y h;exact h
     | cons z l ih =>
      intro acc y h
      rw[List.foldl_cons]
      refine ih _ _ ?_
      unfold gStep
      split
      ·rw[List.find?_append,h];rfl
      ·exact h
    refine hk l _ _ ?_
    rw[List.find?_append]
    have hn:acc.find? q=none:=by rw[List.find?_eq_none];intro a ha;rw[h a ha];decide
    rw[hn]
    simp[hq]
   ·have hq':q (x.drive:Int)=false:=by simpa using hq
    rw[hb,hq']
    simp only[Bool.and_false]
    refine goodTo_find v f s q l _ (fun a ha=>?_)
    unfold gStep at ha
    split at ha
    ·rcases List.mem_append.1 ha with h1 | h1
     ·exact h a h1
     ·rw[List.mem_singleton.1 h1];exact hq'
    ·exact h a ha
  ·have hb':isB x.p v f s=false:=by simpa using hb
   rw[hb',gStep_off hb']
   simp only[Bool.false_and]
   exact goodTo_find v f s q l acc h
theorem good_find(r:Re) (v f s:Int) (q:Int→Bool):(goodI r v f s).find? q=((pieces r).find? fun x=>isB x.p v f s&&q (x.drive:Int)).map fun x=>(x.drive:Int):=by
 unfold goodI goodTo
 exact goodTo_find v f s q (pieces r) [] (fun a ha=>by cases ha)
end Go.Proofs.YtcfkllnpkmebpaaGreatDoor

namespace Go.Proofs.YtcfkllnpkmebpaaGreatDoor
open Go.RowKit
set_option linter.unusedVariables false
set_option linter.unusedSimpArgs false
def upF(r:Re) (v s:Int) (set:List Nat) (i:Nat):Bool:=(pieces r).any fun x=>isB x.p v (i:Int) s&&(onB r x.drive||decide (x.drive∈set))
def cntS(r:Re) (v s:Int) (n:Nat) (set:List Nat):Nat:=((List.range n).filter (upF r v s set)).length
def offD(r:Re) (v s:Int) (n:Nat):List Nat:=(List.range r.plat.length).filter fun d=>!onB r d&&(List.range n).any fun i=>(pieces r).any fun x=>isB x.p v (i:Int) s&&decide (x.drive=d)
theorem upF_iff{r:Re} {v s:Int} {set:List Nat} {i:Nat}:upF r v s set i=true↔∃x∈pieces r,isB x.p v (i:Int) s=true∧(onB r x.drive=true∨x.drive∈set):=by
 unfold upF
 rw[List.any_eq_true]
 constructor
 ·rintro ⟨x,hx,h⟩
  rw[Bool.and_eq_true,Bool.or_eq_true,decide_eq_true_eq] at h
  exact⟨x,hx,h⟩
 ·rintro ⟨x,hx,h1,h2⟩
  exact⟨x,hx,by rw[Bool.and_eq_true,Bool.or_eq_true,decide_eq_true_eq];exact⟨h1,h2⟩⟩
theorem upF_mono{r:Re} {v s:Int} {set set':List Nat} {i:Nat} (h:∀d∈set,d∈set') (k:upF r v s set i=true):upF r v s set' i=true:=by
 rw[upF_iff] at k ⊢
 obtain⟨x,hx,h1,h2⟩:=k
 exact⟨x,hx,h1,h2.imp id (h _)⟩
theorem pieces_lt(r:Re):∀x∈pieces r,x.drive<r.plat.length:=fun x hx=>by
 have:=piecesTo_drive r _ x hx;omega
theorem off_mem{r:Re} {v s:Int} {n:Nat} {x:Fd} {i:Nat} (hx:x∈pieces r) (hi:i<n) (hb:isB x.p v (i:Int) s=true) (ho:onB r x.drive=false):x.drive∈offD r v s n:=by
 unfold offD
 rw[List.mem_filter,List.mem_range]
 refine⟨pieces_lt r x hx,?_⟩
 rw[ho,Bool.not_false,Bool.true_and,List.any_eq_true]
 exact⟨i,by simpa using hi,by rw[List.any_eq_true];exact⟨x,hx,by rw[hb];simp⟩⟩
theorem two_of{p:Nat→Bool} {n i j:Nat} (hi:i<n) (hj:j<n) (hij:i≠j) (h1:p i=true) (h2:p j=true):2≤((List.range n).filter p).length:=by
 have hn:((List.range n).filter p).Nodup:=List.Nodup.sublist List.filter_sublist List.nodup_range
 have m1:i∈(List.range n).filter p:=List.mem_filter.2 ⟨by simpa using hi,h1⟩
 have m2:j∈(List.range n).filter p:=List.mem_filter.2 ⟨by simpa using hj,h2⟩
 match hl:(List.range n).filter p with
 | []=>rw[hl] at m1;cases m1
 | [a] =>
  rw[hl] at m1 m2
  exact absurd ((List.mem_singleton.1 m1).trans (List.mem_singleton.1 m2).symm) hij
 | a :: b :: l=>simp
theorem one_of{p:Nat→Bool} {n i:Nat} (hi:i<n) (h1:p i=true):1≤((List.range n).filter p).length :=
 List.length_pos_of_mem (List.mem_filter.2 ⟨by simpa using hi,h1⟩)
theorem have_two{p:Nat→Bool} {n:Nat} (h:2≤((List.range n).filter p).length):∃i j,i<n∧j<n∧i≠j∧p i=true∧p j=true:=by
 have hn:((List.range n).filter p).Nodup:=List.Nodup.sublist List.filter_sublist List.nodup_range
 match hl:(List.range n).filter p with
 | []=>rw[hl] at h;simp at h
 | [a]=>rw[hl] at h;simp at h
 | a :: b :: l =>
  have ma:a∈(List.range n).filter p:=by rw[hl];simp
  have mb:b∈(List.range n).filter p:=by rw[hl];simp
  rw[hl,List.nodup_cons] at hn
  obtain⟨a1,a2⟩:=List.mem_filter.1 ma
  obtain⟨b1,b2⟩:=List.mem_filter.1 mb
  exact⟨a,b,by simpa using a1,by simpa using b1,fun e=>hn.1 (by simp[e]),a2,b2⟩
theorem have_one{p:Nat→Bool} {n:Nat} (h:1≤((List.range n).filter p).length):∃i,i<n∧p i=true:=by
 obtain⟨a,ha⟩:=List.exists_mem_of_length_pos (l:=(List.range n).filter p) h
 obtain⟨h1,h2⟩:=List.mem_filter.1 ha
 exact⟨a,by simpa using h1,h2⟩
def anyF(r:Re) (v s:Int) (i:Nat):Bool:=(pieces r).any fun x=>isB x.p v (i:Int) s
theorem anyF_iff{r:Re} {v s:Int} {i:Nat}:anyF r v s i=true↔∃x∈pieces r,isB x.p v (i:Int) s=true:=by
 unfold anyF
 rw[List.any_eq_true]
theorem helps{r:Re} {v s:Int} {n i:Nat} (hi:i<n) (ha:anyF r v s i=true) (hu:upF r v s [] i=false):∃d∈offD r v s n,∀set:List Nat,d∈set→upF r v s set i=true:=by
 obtain⟨x,hx,hb⟩:=anyF_iff.1 ha
 have ho:onB r x.drive=false:=by
  cases h:onB r x.drive with
  | false=>rfl
  | true =>
   have h2:upF r v s [] i=true:=upF_iff.2 ⟨x,hx,hb,Or.inl h⟩
   rw[hu] at h2;cases h2
 exact⟨x.drive,off_mem hx hi hb ho,fun set hs=>upF_iff.2 ⟨x,hx,hb,Or.inr hs⟩⟩
theorem resc_ex{r:Re} {v s:Int} {n K:Nat} (hK:K=1∨K=2) (hl:K≤((List.range n).filter (anyF r v s)).length) (hu:cntS r v s n []<K) :
  (∃d∈offD r v s n,K≤cntS r v s n [d])∨(K=2∧∃a∈offD r v s n,∃b∈offD r v s n,a<b∧2≤cntS r v s n [a,b]):=by
 rcases hK with rfl | rfl
 ·obtain⟨i,hi,ha⟩:=have_one hl
  have hn:upF r v s [] i=false:=by
   cases h:upF r v s [] i with
   | false=>rfl
   | true=>have:=one_of hi h;unfold cntS at hu;omega
  obtain⟨d,hd,hh⟩:=helps hi ha hn
  exact .inl ⟨d,hd,one_of hi (hh [d] (by simp))⟩
 ·obtain⟨i,j,hi,hj,hij,ha,hb⟩:=have_two hl
  by_cases hui:upF r v s [] i=true
  ·have huj:upF r v s [] j=false:=by
    cases h:upF r v s [] j with
    | false=>rfl
    | true=>have:=two_of hi hj hij hui h;unfold cntS at hu;omega
   obtain⟨d,hd,hh⟩:=helps hj hb huj
   exact .inl ⟨d,hd,two_of hi hj hij (upF_mono (fun x hx=>by cases hx) hui) (hh [d] (by simp))⟩
  ·have hui':upF r v s [] i=false:=by simpa using hui
   obtain⟨d,hd,hh⟩:=helps hi ha hui'
   by_cases huj:upF r v s [] j=true
   ·exact .inl ⟨d,hd,two_of hi hj hij (hh [d] (by simp)) (upF_mono (fun x hx=>by cases hx) huj)⟩
   ·obtain⟨e,he,hk⟩:=helps hj hb (by simpa using huj)
    rcases Nat.lt_trichotomy d e with h | h | h
    ·exact .inr ⟨rfl,d,hd,e,he,h,two_of hi hj hij (hh _ (by simp)) (hk _ (by simp))⟩
    ·subst h
     exact .inl ⟨d,hd,two_of hi hj hij (hh [d] (by simp)) (hk [d] (by simp))⟩
    ·exact .inr ⟨rfl,e,he,d,hd,h,two_of hi hj hij (hh _ (by simp)) (hk _ (by simp))⟩
def withR(r:Re) (set:List Nat):Re:=⟨r.plat,(List.range r.plat.length).map (fun d=>onB r d||decide (d∈set)),r.acks⟩
theorem withR_pieces(r:Re) (set:List Nat):pieces (withR r set)=pieces r:=rfl
theorem withR_on{r:Re} {set:List Nat} {d:Nat} (h:d<r.plat.length):onB (withR r set) d=(onB r d||decide (d∈set)):=by
 unfold onB withR
 simp only
 rw[List.getD_eq_getElem?_getD,List.getElem?_map,List.getElem?_range h]
 rfl
theorem src_up(r:Re) (v f s:Int):0≤srcI r (pieces r) v f s true↔∃x∈pieces r,isB x.p v f s=true∧onB r x.drive=true:=by
 rw[srcI_has,List.any_eq_true]
 constructor
 ·rintro ⟨x,hx,h⟩
  rw[srcB_on,Bool.and_eq_true] at h
  exact⟨x,hx,h⟩
 ·rintro ⟨x,hx,h⟩
  exact⟨x,hx,by rw[srcB_on,Bool.and_eq_true];exact h⟩
theorem int_count(r:Re) (v s:Int) (on:Bool) (n:Nat) (hn:n≤8):((intI r v s on).filter (fun x=>decide (x<(n:Int)))).length=((List.range n).filter (fun i:Nat=>decide (0≤srcI r (pieces r) v (i:Int) s on))).length:=by
 have h:∀m,((intTo r (pieces r) v s on m).filter (fun x=>decide (x<(n:Int)))).length=((List.range (min m n)).filter (fun i:Nat=>decide (0≤srcI r (pieces r) v (i:Int) s on))).length:=by
  intro m
  induction m with
  | zero=>simp[intTo]
  | succ m ih =>
   rw[intTo_succ,List.filter_append,List.length_append,ih]
   by_cases hm:m<n
   ·rw[show min (m+1) n=m+1 by omega,show min m n=m by omega,List.range_succ,List.filter_append,List.length_append]
    congr 1
    by_cases hs:0≤srcI r (pieces r) v (m:Int) s on
    ·simp[hs,hm]
    ·simp[hs]
   ·rw[show min (m+1) n=n by omega,show min m n=n by omega]
    by_cases hs:0≤srcI r (pieces r) v (m:Int) s on
    ·simp[hs,hm]
    ·simp[hs]
 unfold intI
 rw[h 8,show min 8 n=n by omega]
theorem cnt_with(r:Re) (v s:Nat) (n:Nat) (hn:n≤8) (set:List Nat):cntI (withR r set) v s true (n:Int)=(cntS r (v:Int) (s:Int) n set:Int):=by
 unfold cntI cntS
 rw[int_count _ _ _ _ n hn]
 congr 2
 apply List.filter_congr
 intro i hi
 rw[withR_pieces]
 have h1:=src_up (withR r set) (v:Int) (i:Int) (s:Int)
 rw[withR_pieces] at h1
 rw[Bool.eq_iff_iff,decide_eq_true_eq,h1,upF_iff]
 constructor
 ·rintro ⟨x,hx,hb,ho⟩
  rw[withR_on (pieces_lt r x hx),Bool.or_eq_true,decide_eq_true_eq] at ho
  exact⟨x,hx,hb,ho⟩
 ·rintro ⟨x,hx,hb,ho⟩
  exact⟨x,hx,hb,by rw[withR_on (pieces_lt r x hx),Bool.or_eq_true,decide_eq_true_eq];exact ho⟩
theorem cnt_up(r:Re) (v s:Nat) (n:Nat) (hn:n≤8):cntI r v s true (n:Int)=(cntS r (v:Int) (s:Int) n []:Int):=by
 unfold cntI cntS
 rw[int_count _ _ _ _ n hn]
 congr 2
 apply List.filter_congr
 intro i hi
 rw[Bool.eq_iff_iff,decide_eq_true_eq,src_up,upF_iff]
 simp
theorem cnt_all(r:Re) (v s:Nat) (n:Nat) (hn:n≤8):cntI r v s false (n:Int)=(((List.range n).filter (anyF r (v:Int) (s:Int))).length:Int):=by
 unfold cntI
 rw[int_count _ _ _ _ n hn]
 congr 2
 apply List.filter_congr
 intro i hi
 rw[Bool.eq_iff_iff,decide_eq_true_eq,srcI_has,List.any_eq_true,anyF_iff]
 constructor
 ·rintro ⟨x,hx,h⟩;rw[srcB_off] at h;exact⟨x,hx,h⟩
 ·rintro ⟨x,hx,h⟩;exact⟨x,hx,by rw[srcB_off];exact h⟩
end Go.Proofs.YtcfkllnpkmebpaaGreatDoor
