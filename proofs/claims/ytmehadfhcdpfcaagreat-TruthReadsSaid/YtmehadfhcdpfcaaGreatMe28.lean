/- PROVED: For every input TruthReads returns true: the data of a stripe, or why there are none, are as the reference says. No condition. -/
import Derived.Test.YtmehadfhcdpfcaaGreatMe25
import Derived.Test.YtmehadfhcdpfcaaGreatMe27
import Derived.Test.YtmehadfhcdpfcaaGreatMe01
import Derived.Test.YtmehadfhcdpfcaaGreatMe07
import Derived.Test.YtmehadfhcdpfcaaGreatMe10
import Derived.ProofKit
import Derived.OpenShut
import Derived.Lib.SmallJoins
import Derived.Deep.Slices
import Derived.Deep.Fields
import Derived.ChangeSame
import Derived.Test.YtmehadfhcdpfcaaGreatMe15
set_option maxRecDepth 100000
set_option maxHeartbeats 12800000
namespace Go.Proofs.YtmehadfhcdpfcaaGreat
open Go.RowKit
set_option linter.unusedVariables false
set_option linter.unusedSimpArgs false
theorem rcontents_bad(N:Nat) (hN:N≤12) (vl vm vd vv vp vo vp0 vo0 va0 vf:Value) (F:FltM) (v s:Int) (up:Bool) (w:World) (hf:FleetS w (Bl w.heap.size) vl vm vd vv vp vo F) (hok:FleetOk N F)
  (hn:¬(0≤v∧v<(F.vols.length:Int)∧0≤s∧s<F.ext)) :
  Calls Tryz.prog 59 #[.agg #[.int .i64 F.ext,vl,vm,vd,vv,vp,vo],.agg #[vp0,vo0,va0],vf,.int .i64 v,.int .i64 s,.bool up] w fun e w'=>e=.returned (.tuple #[.string ⟨#[]⟩,.int .i64 1])∧Below w.heap.size w w':=by
 obtain⟨A6,c6',rfl,-⟩:=SlS.form hf.2.2.2.2.2
 have HVA:=zh (fun(w':World) (hb:Below w.heap.size w w')=>rvalidate_any N hN vl vm vd vv _ _ F w' (hf.below hb) hok)
 obtain⟨NO,hNO⟩:=zx F.vols.length
 obtain⟨EX,hEX⟩:=zx F.ext
 rw[←hNO] at HVA hn ⊢
 rw[←hEX] at HVA hn ⊢
 obtain⟨W0,hW0⟩:=zx ((w.alloc (.cells #[.int .i64 EX,vl,vm,vd,vv,vp,.slice A6 NO c6'] 37)).alloc (.cells #[vp0,vo0,va0] 27))
 obtain⟨z,hz⟩:=zx w.heap.size
 obtain⟨y,hy⟩:=zx (w.heap.size+1)
 have hb0:Below w.heap.size w W0:=by rw[hW0];exact((Below.refl _ _).alloc (Nat.le_refl _) _).alloc (by simp) _
 have hzk:W0.heap[z]?=some (.cells #[.int .i64 EX,vl,vm,vd,vv,vp,.slice A6 NO c6'] 37 (0,0)):=by
  rw[hW0,hz];exact(Below.heap_alloc _ _ _ (by simp)).trans (heap_alloc_new w _)
 have hzl:z<W0.heap.size:=(Array.getElem?_eq_some_iff.1 hzk).1
 have HC:=zh (fun(w':World) (hb:Below W0.heap.size W0 w')=>cells7 ((hb.block z hzl).trans hzk))
 have HW0:=zh hW0
 have HZ:=zh hz
 have HY:=zh hy
 have HB0:=zh hb0
 obtain⟨c0,c1,c2,c3,c4,c5,c6⟩:=HC.out W0 (Below.refl _ _)
 clear hf hok hNO hEX hW0 hz hy hb0 hzk hzl
 go_enter Tryz.func59,Tryz.ntmps59
 go_wp2_with fail
 rw[←HW0.out,←HZ.out]
 try rw[←HY.out]
 refine(HVA.out _ HB0.out).mono ?_
 rintro e w0 ⟨rfl,hb00⟩
 have HB00:=zh (HB0.out.trans (hb00.mono HB0.out.size))
 have HCC:=zh (HC.out w0 hb00)
 clear c0 c1 c2 c3 c4 c5 c6 hb00
 obtain⟨c0,c1,c2,c3,c4,c5,c6⟩:=HCC.out
 by_cases h1:v<0
 ·have f1:decide (v<0)=true:=decide_eq_true h1
  clear hn h1
  go_wp2_with fail
  go_ret2
  exact⟨rfl,HB00.out⟩
 ·by_cases h2:(NO:Int)≤v
  ·have f1:decide (v<0)=false:=decide_eq_false h1
   have f2:decide ((NO:Int)≤v)=true:=decide_eq_true h2
   clear hn h1 h2
   go_wp2_with fail
   go_ret2
   exact⟨rfl,HB00.out⟩
  ·by_cases h3:s<0
   ·have f1:decide (v<0)=false:=decide_eq_false h1
    have f2:decide ((NO:Int)≤v)=false:=decide_eq_false h2
    have f3:decide (s<0)=true:=decide_eq_true h3
    clear hn h1 h2 h3
    go_wp2_with fail
    go_ret2
    exact⟨rfl,HB00.out⟩
   ·have f1:decide (v<0)=false:=decide_eq_false h1
    have f2:decide ((NO:Int)≤v)=false:=decide_eq_false h2
    have f3:decide (s<0)=false:=decide_eq_false h3
    have f4:decide (EX≤s)=true:=decide_eq_true (by omega)
    clear hn h1 h2 h3
    go_wp2_with fail
    go_ret2
    exact⟨rfl,HB00.out⟩
def conT(F:FltM) (r:Re) (v s:Int) (up:Bool):ByteArray:=if 0≤v∧v<(F.vols.length:Int)∧0≤s∧s<F.ext then⟨(conS r v.toNat s.toNat up (kOf F v.toNat).toNat (kOf F v.toNat+mOf F v.toNat).toNat).toArray⟩ else⟨#[]⟩
def conU(F:FltM) (r:Re) (v s:Int) (up:Bool):Int:=if 0≤v∧v<(F.vols.length:Int)∧0≤s∧s<F.ext then conE r v.toNat s.toNat up (kOf F v.toNat).toNat (kOf F v.toNat+mOf F v.toNat).toNat else 1
theorem stripe_nat{N:Nat} {F:FltM} (hok:FleetOk N F) {v s:Int} (h:0≤v∧v<(F.vols.length:Int)∧0≤s∧s<F.ext) :
  ∃a b EX KN KM:Nat,v=(a:Int)∧s=(b:Int)∧a<F.vols.length∧F.ext=(EX:Int)∧b<EX∧kOf F a=(KN:Int)∧kOf F a+mOf F a=(KM:Int):=by
 have hv:v.toNat<F.vols.length:=by omega
 obtain⟨kk,m1,m2,-,-⟩:=kmq_ok hok hv
 exact⟨v.toNat,s.toNat,F.ext.toNat,(kOf F v.toNat).toNat,(kOf F v.toNat+mOf F v.toNat).toNat,by omega,by omega,hv,by omega,by omega,by omega,by omega⟩
theorem conT_at{F:FltM} {r:Re} {up:Bool} {a b KN KM:Nat} (h:0≤(a:Int)∧(a:Int)<(F.vols.length:Int)∧0≤(b:Int)∧(b:Int)<F.ext) (h1:kOf F a=(KN:Int)) (h2:kOf F a+mOf F a=(KM:Int)) :
  conT F r a b up=⟨(conS r a b up KN KM).toArray⟩∧conU F r a b up=conE r a b up KN KM:=by
 unfold conT conU
 rw[if_pos h,if_pos h,Int.toNat_natCast,Int.toNat_natCast,h2,h1,Int.toNat_natCast,Int.toNat_natCast]
 exact⟨rfl,rfl⟩
theorem con_any(N:Nat) (hN:N≤12) (vl vm vd vv vp vo vp0 vo0 va0:Value) (F:FltM) (r:Re) (v s:Int) (up:Bool) (w:World) (hf:FleetS w (Bl w.heap.size) vl vm vd vv vp vo F) (hok:FleetOk N F) (h:ReS w (Bl w.heap.size) vp0 vo0 va0 r) (hp:r.plat.length≤1000) (hl:∀l∈r.plat,l.length≤1000) (hac:r.acks.length≤1000000) :
  Calls Tryz.prog 25 #[.agg #[.int .i64 F.ext,vl,vm,vd,vv,vp,vo],.agg #[vp0,vo0,va0],.int .i64 v,.int .i64 s,.bool up] w fun e w'=>e=.returned (.tuple #[.string (conT F r v s up),.int .i64 (conU F r v s up)])∧Below w.heap.size w w':=by
 by_cases hs:0≤v∧v<(F.vols.length:Int)∧0≤s∧s<F.ext
 ·obtain⟨a,b,EX,KN,KM,rfl,rfl,h1,h2,h3,h4,h5⟩:=stripe_nat hok hs
  rw[(conT_at hs h4 h5).1,(conT_at hs h4 h5).2]
  exact contents_any N hN vl vm vd vv vp vo vp0 vo0 va0 F r a b EX KN KM up w hf hok h hp hl hac h1 h2 h3 h4 h5
 ·unfold conT conU
  rw[if_neg hs,if_neg hs]
  exact contents_bad N hN vl vm vd vv vp vo vp0 vo0 va0 F v s up w hf hok hs
theorem rcon_any(N:Nat) (hN:N≤12) (vl vm vd vv vp vo vf vp0 vo0 va0:Value) (F:FltM) (r:Re) (v s:Int) (up:Bool) (w:World) (hf:FleetS w (Bl w.heap.size) vl vm vd vv vp vo F) (hok:FleetOk N F) (h:ReS w (Bl w.heap.size) vp0 vo0 va0 r) (hps:SlS 7 FdK w (Bl w.heap.size) vf (pieces r)) :
  Calls Tryz.prog 59 #[.agg #[.int .i64 F.ext,vl,vm,vd,vv,vp,vo],.agg #[vp0,vo0,va0],vf,.int .i64 v,.int .i64 s,.bool up] w fun e w'=>e=.returned (.tuple #[.string (conT F r v s up),.int .i64 (conU F r v s up)])∧Below w.heap.size w w':=by
 by_cases hs:0≤v∧v<(F.vols.length:Int)∧0≤s∧s<F.ext
 ·obtain⟨a,b,EX,KN,KM,rfl,rfl,h1,h2,h3,h4,h5⟩:=stripe_nat hok hs
  rw[(conT_at hs h4 h5).1,(conT_at hs h4 h5).2]
  exact rcontents_any N hN vl vm vd vv vp vo vf vp0 vo0 va0 F r a b EX KN KM up w hf hok h hps h1 h2 h3 h4 h5
 ·unfold conT conU
  rw[if_neg hs,if_neg hs]
  exact rcontents_bad N hN vl vm vd vv vp vo vp0 vo0 va0 vf F v s up w hf hok hs
end Go.Proofs.YtmehadfhcdpfcaaGreat

namespace Go.Proofs.YtmehadfhcdpfcaaGreat
open Go.RowKit
set_option linter.unusedVariables false
set_option linter.unusedSimpArgs false
def HeldFR(W0:World) (g p:Nat) (a b c d e f h y0 y1 y2:Value) (w':World):Prop :=
 w'.cell? ⟨g,0,none⟩=some a∧w'.cell? ⟨g,1,none⟩=some b∧w'.cell? ⟨g,2,none⟩=some c∧w'.cell? ⟨g,3,none⟩=some d∧w'.cell? ⟨g,4,none⟩=some e∧w'.cell? ⟨g,5,none⟩=some f∧w'.cell? ⟨g,6,none⟩=some h ∧
 w'.cell? ⟨p,0,none⟩=some y0∧w'.cell? ⟨p,1,none⟩=some y1∧w'.cell? ⟨p,2,none⟩=some y2∧Below W0.heap.size W0 w'
theorem HeldFR.bl{W0 wc:World} {g p:Nat} {a b c d e f h y0 y1 y2:Value} (k:HeldFR W0 g p a b c d e f h y0 y1 y2 wc):Below W0.heap.size W0 wc:=k.2.2.2.2.2.2.2.2.2.2
theorem HeldFR.below{W0 wc w2:World} {g p:Nat} {a b c d e f h y0 y1 y2:Value} (k:HeldFR W0 g p a b c d e f h y0 y1 y2 wc) (hb:Below wc.heap.size wc w2) (hg:g<W0.heap.size) (hp:p<W0.heap.size):HeldFR W0 g p a b c d e f h y0 y1 y2 w2:=by
 have hs:=k.bl.size
 have hB:=k.bl
 obtain⟨c0,c1,c2,c3,c4,c5,c6,d0,d1,d2,-⟩:=k
 have m:∀b,b<W0.heap.size→∀i x,wc.cell? ⟨b,i,none⟩=some x→w2.cell? ⟨b,i,none⟩=some x:=fun b h1 i x hx=>(hb.cell (p:=⟨b,i,none⟩) (Nat.lt_of_lt_of_le h1 hs)).trans hx
 exact⟨m g hg _ _ c0,m g hg _ _ c1,m g hg _ _ c2,m g hg _ _ c3,m g hg _ _ c4,m g hg _ _ c5,m g hg _ _ c6,m p hp _ _ d0,m p hp _ _ d1,m p hp _ _ d2,hB.trans (hb.mono hs)⟩
theorem refCon_any(N:Nat) (hN:N≤12) (vl vm vd vv vp vo vp0 vo0 va0:Value) (F:FltM) (r:Re) (v s:Int) (up:Bool) (w:World) (hf:FleetS w (Bl w.heap.size) vl vm vd vv vp vo F) (hok:FleetOk N F) (h:ReS w (Bl w.heap.size) vp0 vo0 va0 r) (hp:r.plat.length≤1000) (hl:∀l∈r.plat,l.length≤1000) :
  Calls Tryz.prog 26 #[.agg #[.int .i64 F.ext,vl,vm,vd,vv,vp,vo],.agg #[vp0,vo0,va0],.int .i64 v,.int .i64 s,.bool up] w fun e w'=>e=.returned (.tuple #[.string (conT F r v s up),.int .i64 (conU F r v s up)])∧Below w.heap.size w w':=by
 have HPC:=zh (fun w1 h1=>pieces_any vp0 vo0 va0 r w1 h1 hp hl)
 have HPD:=zh (pieces_drive r (by omega))
 obtain⟨TX,hTX⟩:=zx (conT F r v s up)
 obtain⟨TE,hTE⟩:=zx (conU F r v s up)
 obtain⟨EX,hEX⟩:=zx F.ext
 obtain⟨W0,hW0⟩:=zx ((w.alloc (.cells #[.int .i64 EX,vl,vm,vd,vv,vp,vo] 37)).alloc (.cells #[vp0,vo0,va0] 27))
 obtain⟨g,hg⟩:=zx w.heap.size
 obtain⟨p,hp'⟩:=zx (w.heap.size+1)
 have hb0:Below w.heap.size w W0:=by rw[hW0];exact((Below.refl _ _).alloc (Nat.le_refl _) _).alloc (by simp) _
 have hpk:W0.heap[p]?=some (.cells #[vp0,vo0,va0] 27 (0,0)):=by rw[hW0];exact heap_alloc_at _ _ _ (by rw[hp'];simp)
 have hgk:W0.heap[g]?=some (.cells #[.int .i64 EX,vl,vm,vd,vv,vp,vo] 37 (0,0)):=by
  rw[hW0,hg];exact(Below.heap_alloc _ _ _ (by simp)).trans (heap_alloc_new w _)
 have HQ:=zh (And.intro (Array.getElem?_eq_some_iff.1 hgk).1 (Array.getElem?_eq_some_iff.1 hpk).1)
 have HRE:=zh (fun(w':World) (hb:Below W0.heap.size W0 w')=>h.below (hb0.trans (hb.mono hb0.size)))
 have HCN:=zh (fun(vf:Value) (w':World) (hb:Below W0.heap.size W0 w') (hs:SlS 7 FdK w' (Bl w'.heap.size) vf (pieces r))=>(show Calls Tryz.prog 59 #[.agg #[.int .i64 EX,vl,vm,vd,vv,vp,vo],.agg #[vp0,vo0,va0],vf,.int .i64 v,.int .i64 s,.bool up] w' (fun e w2=>e=.returned (.tuple #[.string TX,.int .i64 TE])∧Below w'.heap.size w' w2) from by
  rw[hTX,hTE,hEX]
  have hbw:=hb0.trans (hb.mono hb0.size)
  exact rcon_any N hN vl vm vd vv vp vo vf vp0 vo0 va0 F r v s up w' (hf.below hbw) hok (h.below hbw) hs))
 rw[←hTX,←hTE,←hEX]
 obtain⟨c0,c1,c2,c3,c4,c5,c6⟩:=cells7 hgk
 obtain⟨z0,z1,z2,-⟩:=cells3 hpk
 have HS0:=zh (show HeldFR W0 g p (.int .i64 EX) vl vm vd vv vp vo vp0 vo0 va0 W0.drew from⟨c0,c1,c2,c3,c4,c5,c6,z0,z1,z2,(Below.refl _ _).drew⟩)
 have HW0:=zh hW0
 have HG:=zh hg
 have HP:=zh hp'
 have HB0:=zh hb0
 clear hf hok h hp hl hTX hTE hEX hW0 hg hp' hb0 hpk hgk c0 c1 c2 c3 c4 c5 c6 z0 z1 z2
 go_enter Tryz.func26,Tryz.ntmps26
 go_upto_region 1 with fail
 rw[←HW0.out,←HP.out,←HG.out]
 refine region_tail (S:=(fun w'=>w'.cell? ⟨g,0,none⟩=some (.int .i64 EX)∧w'.cell? ⟨g,1,none⟩=some vl∧w'.cell? ⟨g,2,none⟩=some vm∧w'.cell? ⟨g,3,none⟩=some vd∧w'.cell? ⟨g,4,none⟩=some vv∧w'.cell? ⟨g,5,none⟩=some vp∧w'.cell? ⟨g,6,none⟩=some vo∧w'.cell? ⟨p,0,none⟩=some vp0∧w'.cell? ⟨p,1,none⟩=some vo0∧w'.cell? ⟨p,2,none⟩=some va0∧Below W0.heap.size W0 w')) [] (by kernel_rfl) HS0.out (fun hHeld=>?_)
 refine tk 0 12 ?_
 refine tk 1 13 ?_
 refine tk 2 14 ?_
 refine tk 4 16 ?_
 refine tk 5 17 ?_
 refine tk 6 18 ?_
 refine readyT (rs:=[3]) (by kernel_rfl) (by simp) ?_
 refine AllReadyT.cons rfl (fun K hK=>?_) ?_
 ·go_simp
  (go_at_call 45;refine(HPC.out _ (HRE.out _ (HeldFR.bl (by assumption)))).mono ?_;rintro e w2 ⟨u,rfl,hO2,hb2⟩)
  go_wp2_with fail
  refine hK.out _ _ ?_ (fun hHeld=>?_)
  ·(first|exact HeldFR.below (by assumption) hb3 HQ.out.1 HQ.out.2|exact HeldFR.below (by assumption) hb2 HQ.out.1 HQ.out.2)
  clear hK K
  (try simp only[Act.put,z1,z2,z3])
  refine readyT (rs:=[7]) (by kernel_rfl) (by simp) ?_
  refine AllReadyT.cons rfl (fun K hK=>?_) ?_
  ·have HL2:=zh (hO2.slBl HPD.out)
   go_simp
   (go_at_call 59;refine(HCN.out _ _ (HeldFR.bl (by assumption)) HL2.out).mono ?_;rintro e w3 ⟨rfl,hb3⟩)
   go_wp2_with fail
   refine hK.out _ _ ?_ (fun hHeld=>?_)
   ·(first|exact HeldFR.below (by assumption) hb3 HQ.out.1 HQ.out.2|exact HeldFR.below (by assumption) hb2 HQ.out.1 HQ.out.2)
   clear hK K
   (try simp only[Act.put,z1,z2,z3])
   refine tk 8 20 ?_
   refine tk 9 21 ?_
   refine tk 10 10 ?_
   refine tk 11 11 ?_
   refine doneT (by kernel_rfl) ?_ _
   have hbz:=HeldFR.bl hHeld
   go_wp2_with fail
   go_ret2
   exact⟨rfl,HB0.out.trans (hbz.mono HB0.out.size)⟩
  exact AllReadyT.nil
 exact AllReadyT.nil
end Go.Proofs.YtmehadfhcdpfcaaGreat

namespace Go.Proofs.YtmehadfhcdpfcaaGreat
open Go.RowKit
set_option linter.unusedVariables false
set_option linter.unusedSimpArgs false
def lightB(r:Re):Bool:=decide (r.plat.length≤12∧r.on.length≤30∧r.acks.length≤30)&&r.plat.all fun l=>decide (l.length≤20)
theorem lightB_iff(r:Re):lightB r=true↔r.plat.length≤12∧r.on.length≤30∧r.acks.length≤30∧∀l∈r.plat,l.length≤20:=by
 unfold lightB
 simp only[Bool.and_eq_true,decide_eq_true_eq,List.all_eq_true]
 constructor
 ·rintro ⟨⟨a,b,c⟩,d⟩;exact⟨a,b,c,d⟩
 ·rintro ⟨a,b,c,d⟩;exact⟨⟨a,b,c⟩,d⟩
theorem lightB_no{r:Re} (h:¬(r.plat.length≤12∧r.on.length≤30∧r.acks.length≤30∧∀l∈r.plat,l.length≤20)):lightB r=false:=by
 cases hb:lightB r with
 | false=>rfl
 | true=>exact absurd ((lightB_iff r).1 hb) h
theorem light_any(vp vo va:Value) (r:Re) (w:World) (h:ReS w (Bl w.heap.size) vp vo va r) :
  Calls Tryz.prog 9 #[.agg #[vp,vo,va]] w fun e w'=>e=.returned (.bool (lightB r))∧Below w.heap.size w w':=by
 obtain⟨Ap,cp,rfl,-,hmp⟩:=h.1.form
 obtain⟨Ao,co,rfl,-,hmo⟩:=h.2.1.form
 obtain⟨Aa,ca,rfl,-,hma⟩:=h.2.2.form
 unfold maxLen at hmp hmo hma
 have HR:=zh h.1
 obtain⟨nP,hnP⟩:=zx r.plat.length
 obtain⟨nO,hnO⟩:=zx r.on.length
 obtain⟨nA,hnA⟩:=zx r.acks.length
 have HN:=zh (show nP=r.plat.length∧nO=r.on.length∧nA=r.acks.length from⟨hnP,hnO,hnA⟩)
 rw[←hnP,←hnO,←hnA]
 rw[←hnP] at hmp
 rw[←hnO] at hmo
 rw[←hnA] at hma
 obtain⟨W0,hW0⟩:=zx (w.alloc (.cells #[.slice Ap nP cp,.slice Ao nO co,.slice Aa nA ca] 27))
 obtain⟨q,hq⟩:=zx w.heap.size
 have c0:W0.cell? ⟨q,0,none⟩=some (.slice Ap nP cp):=by rw[hW0,hq];simp
 have c1:W0.cell? ⟨q,1,none⟩=some (.slice Ao nO co):=by rw[hW0,hq];simp
 have c2:W0.cell? ⟨q,2,none⟩=some (.slice Aa nA ca):=by rw[hW0,hq];simp
 have hb0:Below w.heap.size w W0:=by rw[hW0];exact(Below.refl _ _).alloc (Nat.le_refl _) _
 have HB0:=zh hb0
 have HQ:=zh hq
 have HW0:=zh hW0
 have HP:=zh (show SlS 1 DrvK W0 (Bl w.heap.size) (.slice Ap nP cp) r.plat from SlS.keep drvK (by rw[HN.out.1];exact HR.out) (kept_below hb0))
 clear h HR hnP hnO hnA hW0 hq hb0
 go_enter Tryz.func9,Tryz.ntmps9
 by_cases h1:nP≤12
 ·by_cases h2:nO≤30
  ·by_cases h3:nA≤30
   ·have HH:=zh (show nP≤12∧nO≤30∧nA≤30 from⟨h1,h2,h3⟩)
    go_wp2_with fail
    rw[←HW0.out,←HQ.out]
    go_loopg [3] nP (fun z v3 wr=>W0=wr∧∃j:Nat,j≤nP∧z=nP - j∧v3=.int .i64 (j:Int)∧Hid (∀l∈r.plat.take j,l.length≤20))
    case atStart=>exact⟨rfl,0,by omega,rfl,rfl,fun l hl=>by simp at hl⟩
    case round =>
     obtain⟨rfl,j,hj,rfl,rfl,HJ⟩:=hrel
     by_cases hlt:j<nP
     ·obtain⟨b,off,cs,hAp,hR,-,hc,v,rfl,hv⟩:=HP.out.at_ (by rw[←HN.out.1];exact hlt)
      subst hAp
      have hcell:=hc 0 v rfl
      simp only[Nat.mul_one,Nat.add_zero] at hcell
      obtain⟨Al,cl,rfl,-,hml⟩:=SlS.form hv
      unfold maxLen at hml
      have HL:=zh (show r.plat[j]'(by rw[←HN.out.1];exact hlt)∈r.plat from List.getElem_mem _)
      have hst:(r.plat[j]'(by rw[←HN.out.1];exact hlt)).length≤20→∀l∈r.plat.take (j+1),l.length≤20:=fun h l hl=>by
       rw[List.take_add_one,List.getElem?_eq_getElem (by rw[←HN.out.1];exact hlt)] at hl
       rcases List.mem_append.1 hl with h2 | h2
       ·exact HJ.out l h2
       ·have h3:l=r.plat[j]'(by rw[←HN.out.1];exact hlt):=by simpa using h2
        rw[h3];exact h
      have HST:=zh hst
      clear hst hc hv
      generalize (r.plat[j]'(by rw[←HN.out.1];exact hlt))=x at *
      have HX:=zh HL.out
      by_cases h4:x.length≤20
      ·have HS:=zh (HST.out h4)
       go_wp2_with fail
       go_roundg (nP - (j+1))
       case measure=>omega
       case rel=>exact⟨rfl,j+1,by omega,rfl,by go_num,HS⟩
      ·have hE:lightB r=false:=lightB_no fun h=>h4 (h.2.2.2 x HX.out)
       have HE:=zh hE
       clear hE
       go_wp2_with fail
       go_ret
       exact⟨by rw[HE.out];rfl,HB0.out⟩
     ·have hE:lightB r=true:=(lightB_iff r).2 ⟨by have:=HN.out;have:=HH.out;omega,by have:=HN.out;have:=HH.out;omega,by have:=HN.out;have:=HH.out;omega,fun l hl=>HJ.out l (by rw[List.take_of_length_le (by have:=HN.out;omega)];exact hl)⟩
      have HE:=zh hE
      clear hE
      go_wp2_with fail
      go_ret
      exact⟨by rw[HE.out];rfl,HB0.out⟩
   ·have HE:=zh (lightB_no (r:=r) fun h=>h3 (by have:=HN.out;omega))
    go_wp2_with fail
    rw[←HW0.out]
    go_ret
    exact⟨by rw[HE.out];rfl,HB0.out⟩
  ·have HE:=zh (lightB_no (r:=r) fun h=>h2 (by have:=HN.out;omega))
   go_wp2_with fail
   rw[←HW0.out]
   go_ret
   exact⟨by rw[HE.out];rfl,HB0.out⟩
 ·have HE:=zh (lightB_no (r:=r) fun h=>h1 (by have:=HN.out;omega))
  go_wp2_with fail
  rw[←HW0.out]
  go_ret
  exact⟨by rw[HE.out];rfl,HB0.out⟩
end Go.Proofs.YtmehadfhcdpfcaaGreat

namespace Go.Proofs.YtmehadfhcdpfcaaGreat
open Go.RowKit
set_option linter.unusedVariables false
set_option linter.unusedSimpArgs false
def awP:Pc:=⟨1,2,0,9,5,[48,49,50,51,52,53,54,55,56,57,97,98,99,100,101,102]⟩
def awR(s:ByteArray):Re:=⟨[[],[s]],[false,false],[⟨1,0,5,0⟩]⟩
theorem aw_valid:validP awP=true:=by decide
theorem aw_len:(encB awP).length=36:=by kernel_rfl
theorem aw_good1:goodI (awR ⟨(encB awP).toArray⟩) 1 2 0=[1]:=by kernel_rfl
theorem aw_good2:goodI (awR ⟨(encB awP).toArray⟩) 1 1 0=[]:=by kernel_rfl
theorem aw_int1:intI (awR ⟨(encB awP).toArray⟩) 1 0 false=[2]:=by kernel_rfl
theorem aw_int2:intI (awR ⟨(encB awP).toArray⟩) 1 0 true=[]:=by kernel_rfl
theorem aw_one{α:Type} {x y:α} {k:Nat} (h:[x][k]?=some y):k=0∧y=x:=by
 match k with
 | 0=>simp at h;exact⟨rfl,h.symm⟩
 | k+1=>simp at h
theorem aw_two{α:Type} {x1 x2 y:α} {k:Nat} (h:[x1,x2][k]?=some y):(k=0∧y=x1)∨(k=1∧y=x2):=by
 match k with
 | 0=>simp at h;exact .inl ⟨rfl,h.symm⟩
 | 1=>simp at h;exact .inr ⟨rfl,h.symm⟩
 | k+2=>simp at h
theorem aw_four{α:Type} {x1 x2 x3 x4 y:α} {k:Nat} (h:[x1,x2,x3,x4][k]?=some y):(k=0∧y=x1)∨(k=1∧y=x2)∨(k=2∧y=x3)∨(k=3∧y=x4):=by
 match k with
 | 0=>simp at h;exact .inl ⟨rfl,h.symm⟩
 | 1=>simp at h;exact .inr (.inl ⟨rfl,h.symm⟩)
 | 2=>simp at h;exact .inr (.inr (.inl ⟨rfl,h.symm⟩))
 | 3=>simp at h;exact .inr (.inr (.inr ⟨rfl,h.symm⟩))
 | k+4=>simp at h
theorem aw_re(W:World) (s:ByteArray) (n1 n2 n3 n4:Nat) (hs:s.size=36) (h1:W.cell? ⟨n1,0,none⟩=some (.string s)) (h20:W.cell? ⟨n2,0,none⟩=some (.slice none 0 0)) (h21:W.cell? ⟨n2,1,none⟩=some (.slice (some ⟨n1,0,none⟩) 1 1))
  (h30:W.cell? ⟨n3,0,none⟩=some (.bool false)) (h31:W.cell? ⟨n3,1,none⟩=some (.bool false)) (h40:W.cell? ⟨n4,0,none⟩=some (.int .i64 1)) (h41:W.cell? ⟨n4,1,none⟩=some (.int .i64 0)) (h42:W.cell? ⟨n4,2,none⟩=some (.int .i64 5)) (h43:W.cell? ⟨n4,3,none⟩=some (.int .i64 0)) :
  ReS W (Bl W.heap.size) (.slice (some ⟨n2,0,none⟩) 2 2) (.slice (some ⟨n3,0,none⟩) 2 2) (.slice (some ⟨n4,0,none⟩) 1 1) (awR s):=by
 refine⟨⟨_,2,rfl,Nat.le_refl _,by unfold maxLen;simp[awR],fun _=>⟨n2,0,rfl,block_lt_of_cell h20,fun k a hk=>?_⟩⟩,⟨_,2,rfl,Nat.le_refl _,by unfold maxLen;simp[awR],fun _=>⟨n3,0,rfl,block_lt_of_cell h30,fun k a hk=>?_⟩⟩,⟨_,1,rfl,Nat.le_refl _,by unfold maxLen;simp[awR],fun _=>⟨n4,0,rfl,block_lt_of_cell h40,fun k a hk=>?_⟩⟩⟩
 ·rcases aw_two hk with ⟨rfl,rfl⟩ | ⟨rfl,rfl⟩
  ·exact⟨[_],rfl,fun i c hc=>by obtain⟨rfl,rfl⟩:=aw_one hc;exact h20,_,rfl,Row.nil _ _ _⟩
  ·refine⟨[_],rfl,fun i c hc=>by obtain⟨rfl,rfl⟩:=aw_one hc;exact h21,_,rfl,_,1,rfl,Nat.le_refl _,by unfold maxLen;simp,fun _=>⟨n1,0,rfl,block_lt_of_cell h1,fun k a hk=>?_⟩⟩
   obtain⟨rfl,rfl⟩:=aw_one hk
   exact⟨[_],rfl,fun i c hc=>by obtain⟨rfl,rfl⟩:=aw_one hc;exact h1,rfl,by rw[hs];unfold maxLen;decide⟩
 ·rcases aw_two hk with ⟨rfl,rfl⟩ | ⟨rfl,rfl⟩
  ·exact⟨[_],rfl,fun i c hc=>by obtain⟨rfl,rfl⟩:=aw_one hc;exact h30,rfl⟩
  ·exact⟨[_],rfl,fun i c hc=>by obtain⟨rfl,rfl⟩:=aw_one hc;exact h31,rfl⟩
 ·obtain⟨rfl,rfl⟩:=aw_one hk
  refine⟨[_,_,_,_],rfl,fun i c hc=>?_,rfl,by unfold I64;decide,by unfold I64;decide,by unfold I64;decide,by unfold I64;decide⟩
  rcases aw_four hc with ⟨rfl,rfl⟩ | ⟨rfl,rfl⟩ | ⟨rfl,rfl⟩ | ⟨rfl,rfl⟩
  ·exact h40
  ·exact h41
  ·exact h42
  ·exact h43
theorem aw_new(w:World) (cs:Array Value) (t:TypeId) (b i:Nat) (h:b=w.heap.size):(w.alloc (.cells cs t)).cell? ⟨b,i,none⟩=cs[i]?:=by
 subst h
 exact cell_of_row _ _ _ _ _ _ (heap_alloc_new w (.cells cs t))
theorem aw_old(w:World) (o:Obj) (b i:Nat) (h:b<w.heap.size):(w.alloc o).cell? ⟨b,i,none⟩=w.cell? ⟨b,i,none⟩:=World.cell?_of_block (w:=w) (Below.heap_alloc w o b h)
theorem aw_lit{w:World} {g:Nat} {x:Int} (h:w.cell? ⟨g,0,none⟩=some (.int .i64 x)) (hx:I64 x):IntS w (Bl w.heap.size) (.slice (some ⟨g,0,none⟩) 1 1) [x] :=
 ⟨⟨_,1,rfl,Nat.le_refl _,by unfold maxLen;simp,fun _=>⟨g,0,rfl,block_lt_of_cell h,fun k a hk=>by obtain⟨rfl,rfl⟩:=aw_one hk;exact h⟩⟩,fun y hy=>by rw[List.mem_singleton.1 hy];exact hx⟩
theorem awake_any(w:World):Calls Tryz.prog 10 #[] w fun e w'=>e=.returned (.bool true)∧Below w.heap.size w w':=by
 have henc:=fun w=>refsenc_any awP w (by unfold PcI I64 maxLen;decide) (by decide)
 rw[show encS awP=encB awP by unfold encS;rw[if_pos aw_valid],show encE awP=0 by unfold encE;rw[if_pos aw_valid]] at henc
 have hsz:(⟨(encB awP).toArray⟩:ByteArray).size=36:=by rw[size_of];exact aw_len
 have hg1:=aw_good1
 have hg2:=aw_good2
 have hi1:=aw_int1
 have hi2:=aw_int2
 obtain⟨X,hX⟩:∃X:ByteArray,X=⟨(encB awP).toArray⟩:=⟨_,rfl⟩
 rw[←hX] at henc hsz hg1 hg2 hi1 hi2
 have HEN:=zh henc
 have HSZ:=zh hsz
 have HG1:=zh hg1
 have HG2:=zh hg2
 have HI1:=zh hi1
 have HI2:=zh hi2
 clear henc hsz hg1 hg2 hi1 hi2 hX
 go_enter Tryz.func10,Tryz.ntmps10
 go_wp2_with fail
 refine(HEN.out _).mono ?_
 rintro e w1 ⟨rfl,hb1⟩
 go_wp2_with fail
 obtain⟨n,hn⟩:=zx w1.heap.size
 rw[←hn]
 obtain⟨W,hW⟩:=zx ((((((w1.alloc (.cells #[.string X] 9)).alloc (.cells #[.slice none 0 0,.slice (some ⟨n,0,none⟩) 1 1] 50)).alloc (.cells #[.bool false,.bool false] 4)).alloc (.cells #[.int .i64 1,.int .i64 0,.int .i64 5,.int .i64 0] 53)).alloc (.cells #[.slice (some ⟨n+1,0,none⟩) 2 2,.slice (some ⟨n+1+1,0,none⟩) 2 2,.slice (some ⟨n+1+1+1,0,none⟩) 1 1] 27)))
 rw[←hW]
 have hre:=aw_re W X n (n+1) (n+1+1) (n+1+1+1) HSZ.out (by rw[hW,hn];rw[aw_old _ _ _ _ (by first | (simp;done) | (simp;omega)),aw_old _ _ _ _ (by first | (simp;done) | (simp;omega)),aw_old _ _ _ _ (by first | (simp;done) | (simp;omega)),aw_old _ _ _ _ (by first | (simp;done) | (simp;omega)),aw_new _ _ _ _ _ (by simp)];rfl) (by rw[hW,hn];rw[aw_old _ _ _ _ (by first | (simp;done) | (simp;omega)),aw_old _ _ _ _ (by first | (simp;done) | (simp;omega)),aw_old _ _ _ _ (by first | (simp;done) | (simp;omega)),aw_new _ _ _ _ _ (by simp)];rfl) (by rw[hW,hn];rw[aw_old _ _ _ _ (by first | (simp;done) | (simp;omega)),aw_old _ _ _ _ (by first | (simp;done) | (simp;omega)),aw_old _ _ _ _ (by first | (simp;done) | (simp;omega)),aw_new _ _ _ _ _ (by simp)];rfl) (by rw[hW,hn];rw[aw_old _ _ _ _ (by first | (simp;done) | (simp;omega)),aw_old _ _ _ _ (by first | (simp;done) | (simp;omega)),aw_new _ _ _ _ _ (by simp)];rfl) (by rw[hW,hn];rw[aw_old _ _ _ _ (by first | (simp;done) | (simp;omega)),aw_old _ _ _ _ (by first | (simp;done) | (simp;omega)),aw_new _ _ _ _ _ (by simp)];rfl) (by rw[hW,hn];rw[aw_old _ _ _ _ (by first | (simp;done) | (simp;omega)),aw_new _ _ _ _ _ (by simp)];rfl) (by rw[hW,hn];rw[aw_old _ _ _ _ (by first | (simp;done) | (simp;omega)),aw_new _ _ _ _ _ (by simp)];rfl) (by rw[hW,hn];rw[aw_old _ _ _ _ (by first | (simp;done) | (simp;omega)),aw_new _ _ _ _ _ (by simp)];rfl) (by rw[hW,hn];rw[aw_old _ _ _ _ (by first | (simp;done) | (simp;omega)),aw_new _ _ _ _ _ (by simp)];rfl)
 have hbW:Below w1.heap.size w1 W:=by rw[hW];exact(((((Below.refl _ _).alloc (Nat.le_refl _) _).alloc (by simp) _).alloc (by simp;omega) _).alloc (by simp;omega) _).alloc (by simp;omega) _
 obtain⟨q,hq⟩:=zx (n+1+1+1+1)
 rw[←hq]
 have c0:W.cell? ⟨q,0,none⟩=some (.slice (some ⟨n+1,0,none⟩) 2 2):=by rw[hW,hq,hn];rw[aw_new _ _ _ _ _ (by simp)];rfl
 have c1:W.cell? ⟨q,1,none⟩=some (.slice (some ⟨n+1+1,0,none⟩) 2 2):=by rw[hW,hq,hn];rw[aw_new _ _ _ _ _ (by simp)];rfl
 have c2:W.cell? ⟨q,2,none⟩=some (.slice (some ⟨n+1+1+1,0,none⟩) 1 1):=by rw[hW,hq,hn];rw[aw_new _ _ _ _ _ (by simp)];rfl
 obtain⟨v1,hv1⟩:=zx (Value.slice (some ⟨n+1,0,none⟩) 2 2)
 obtain⟨v2,hv2⟩:=zx (Value.slice (some ⟨n+1+1,0,none⟩) 2 2)
 obtain⟨v3,hv3⟩:=zx (Value.slice (some ⟨n+1+1+1,0,none⟩) 1 1)
 have hs1:=block_lt_of_cell c0
 have HH:=zh (show HeldR W q _ _ _ W from⟨c0,c1,c2,Below.refl _ _⟩)
 rw[←hv1,←hv2,←hv3] at hre HH ⊢
 rw[←hv1] at c0
 rw[←hv2] at c1
 rw[←hv3] at c2
 have HRE:=zh hre
 have HB:=zh (hb1.trans (hbW.mono hb1.size))
 have HQ:=zh hs1
 clear hW hbW hb1 hn hq hv1 hv2 hv3 hre hs1
 refine(good_any v1 v2 v3 (awR X) 1 2 0 W HRE.out (by simp[awR]) (by simp[awR]) (by simp[awR]) (by unfold I64;decide) (by unfold I64;decide)).mono ?_
 rintro e w2 ⟨u,rfl,hO,hb2⟩
 have HH2:=zh (HH.out.below hb2 HQ.out)
 rw[HG1.out] at hO
 have hx2:=hO.intS (by simp[I64])
 obtain⟨A2,c2',rfl⟩:=hO.form
 have HX2:=zh hx2
 clear hO hx2 hb2 c0 c1 c2
 obtain⟨W2,hW2⟩:=zx (w2.alloc (.cells #[.int .i64 1] 3))
 have hl2:=aw_lit (w:=W2) (g:=w2.heap.size) (x:=1) (by rw[hW2];simp) (by unfold I64;decide)
 have hk2:Below w2.heap.size w2 W2:=by rw[hW2];exact(Below.refl _ _).alloc (Nat.le_refl _) _
 have hx2':=HX2.out.keep (w':=W2) (fun b hb=>hk2.block b hb.2)
 have HSI:=zh (sameints_any _ _ _ _ _ W2 hx2' hl2)
 have HH3:=zh (HH2.out.below hk2 HQ.out)
 clear hl2 hk2 hx2'
 go_wp2_with fail
 rw[←hW2]
 clear hW2
 refine HSI.out.mono ?_
 rintro e w3 ⟨rfl,k,rfl⟩
 have HH4:=zh (HH3.out.below (Below.drewN' (Below.refl _ _) k) HQ.out)
 obtain⟨W4,hW4⟩:=zx (W2.drewN k)
 rw[←hW4] at HH4 ⊢
 clear hW4
 obtain⟨d0,d1,d2,hb4⟩:=HH4.out
 have HRE4:=zh (HRE.out.below hb4)
 clear hb4
 go_wp2_with fail
 refine(Intact_any v1 v2 v3 (awR X) 1 0 false W4 HRE4.out (by simp[awR]) (by simp[awR]) (by simp[awR]) (by unfold I64;decide) (by unfold I64;decide)).mono ?_
 rintro e w5 ⟨u,rfl,hO,hb5⟩
 have HH5:=zh (HH4.out.below hb5 HQ.out)
 rw[HI1.out] at hO
 have hx5:=hO.intS (by simp[I64])
 obtain⟨A5,c5',rfl⟩:=hO.form
 have HX5:=zh hx5
 clear hO hx5 hb5 d0 d1 d2
 obtain⟨W5,hW5⟩:=zx (w5.alloc (.cells #[.int .i64 2] 3))
 have hl2:=aw_lit (w:=W5) (g:=w5.heap.size) (x:=2) (by rw[hW5];simp) (by unfold I64;decide)
 have hk2:Below w5.heap.size w5 W5:=by rw[hW5];exact(Below.refl _ _).alloc (Nat.le_refl _) _
 have hx2':=HX5.out.keep (w':=W5) (fun b hb=>hk2.block b hb.2)
 have HSI2:=zh (sameints_any _ _ _ _ _ W5 hx2' hl2)
 have HH6:=zh (HH5.out.below hk2 HQ.out)
 clear hl2 hk2 hx2'
 go_wp2_with fail
 rw[←hW5]
 clear hW5
 refine HSI2.out.mono ?_
 rintro e w6 ⟨rfl,k6,rfl⟩
 have HH7:=zh (HH6.out.below (Below.drewN' (Below.refl _ _) k6) HQ.out)
 obtain⟨W7,hW7⟩:=zx (W5.drewN k6)
 rw[←hW7] at HH7 ⊢
 clear hW7
 obtain⟨d0,d1,d2,hb7⟩:=HH7.out
 have HRE7:=zh (HRE.out.below hb7)
 clear hb7
 go_wp2_with fail
 refine(Intact_any v1 v2 v3 (awR X) 1 0 true W7 HRE7.out (by simp[awR]) (by simp[awR]) (by simp[awR]) (by unfold I64;decide) (by unfold I64;decide)).mono ?_
 rintro e w8 ⟨u,rfl,hO,hb8⟩
 have HH8:=zh (HH7.out.below hb8 HQ.out)
 rw[HI2.out] at hO
 obtain⟨A8,c8',rfl⟩:=hO.form
 clear hO hb8 d0 d1 d2
 obtain⟨d0,d1,d2,hb8⟩:=HH8.out
 have HRE8:=zh (HRE.out.below hb8)
 clear hb8
 go_wp2_with fail
 refine(good_any v1 v2 v3 (awR X) 1 1 0 w8 HRE8.out (by simp[awR]) (by simp[awR]) (by simp[awR]) (by unfold I64;decide) (by unfold I64;decide)).mono ?_
 rintro e w9 ⟨u,rfl,hO,hb9⟩
 rw[HG2.out] at hO
 obtain⟨A9,c9',rfl⟩:=hO.form
 have HB9:=zh (HH8.out.bl.trans (hb9.mono HH8.out.bl.size))
 clear hO hb9 d0 d1 d2
 go_wp2_with fail
 go_ret
 exact⟨rfl,HB.out.trans (HB9.out.mono HB.out.size)⟩
end Go.Proofs.YtmehadfhcdpfcaaGreat

namespace Go.Proofs.YtmehadfhcdpfcaaGreat
open Go.RowKit
set_option linter.unusedVariables false
set_option linter.unusedSimpArgs false
theorem reads_any(HMade:∀(vt:Value) (xs:List Int) (w:World) (R:Nat→Prop),IntS w R vt xs→(∀b,R b→b<w.heap.size)→Calls Tryz.prog 11 #[vt] w (MadePost w)) (vl vp vo va:Value) (xs:List Int) (raw:Re) (vol stripe:Int) (up:Bool) (w:World) (hl:IntS w (Bl w.heap.size) vl xs) (hr:ReS w (Bl w.heap.size) vp vo va raw) (hi1:I64 vol) (hi2:I64 stripe) :
  Calls Tryz.prog 7 #[vl,.agg #[vp,vo,va],.int .i64 vol,.int .i64 stripe,.bool up] w fun e w'=>e=.returned (.bool true)∧Below w.heap.size w w':=by
 have HLI:=zh (fun w1 h1=>light_any vp vo va raw w1 h1)
 have HAW:=zh (fun w1=>awake_any w1)
 have HMD:=zh HMade
 have HI:=zh (And.intro hi1 hi2)
 obtain⟨Al,nl,cl,rfl⟩:=hl.form3
 obtain⟨W0,hW0⟩:=zx (w.alloc (.cells #[vp,vo,va] 27))
 obtain⟨q,hq⟩:=zx w.heap.size
 have c0:W0.cell? ⟨q,0,none⟩=some vp:=by rw[hW0,hq];simp
 have c1:W0.cell? ⟨q,1,none⟩=some vo:=by rw[hW0,hq];simp
 have c2:W0.cell? ⟨q,2,none⟩=some va:=by rw[hW0,hq];simp
 have hb0:Below w.heap.size w W0:=by rw[hW0];exact(Below.refl _ _).alloc (Nat.le_refl _) _
 have hq0:q<W0.heap.size:=by rw[hW0,hq];simp
 have HQ0:=zh hq0
 have HQ1:=zh hq
 have HW0:=zh hW0
 have HB0:=zh hb0
 have HR0:=zh (hr.below hb0)
 have HL0:=zh ((hl.keep (kept_below hb0)).mono (Bl.mono hb0.size))
 have HQC:=zh (And.intro c0 (And.intro c1 c2))
 clear hl hr hW0 hq hb0 hq0 HMade hi1 hi2
 go_enter Tryz.func7,Tryz.ntmps7
 go_wp2_with fail
 rw[←HW0.out,←HQ1.out]
 refine(HLI.out _ HR0.out).mono ?_
 rintro e w1 ⟨rfl,hb1⟩
 cases hlb:lightB raw with
 | false =>
  go_wp2_with fail
  refine(HAW.out _).mono ?_
  rintro e w2 ⟨rfl,hb2⟩
  have HBB:=zh ((HB0.out.trans (hb1.mono HB0.out.size)).trans (hb2.mono (Nat.le_trans HB0.out.size hb1.size)))
  clear hb1 hb2 c0 c1 c2
  go_wp2_with fail
  go_ret
  exact⟨rfl,HBB.out⟩
 | true =>
  have HLB:=zh ((lightB_iff raw).1 hlb)
  clear hlb
  have HL1:=zh ((HL0.out.keep (kept_below hb1)).mono (Bl.mono hb1.size))
  have HR1:=zh (HR0.out.below hb1)
  have HB1:=zh (HB0.out.trans (hb1.mono HB0.out.size))
  have HB01:=zh hb1
  clear hb1 c0 c1 c2
  go_wp2_with fail
  refine(HMD.out _ xs w1 _ HL1.out (fun b h=>h)).mono ?_
  rintro e w2 ⟨fl,fm,fd,fv,fp,fo,F,zp,zo,za,r,gM,n,f,st,rfl,hfs,hok,hre,hmo,hmp,hdo,hgM,hb2⟩
  obtain⟨A1,c1,hf1,-⟩:=SlS.form hfs.1
  obtain⟨A2,c2,hf2,-⟩:=SlS.form hfs.2.1
  obtain⟨A3,c3,hf3,-⟩:=SlS.form hfs.2.2.1
  obtain⟨A4,c4,hf4,-⟩:=SlS.form hfs.2.2.2.1
  obtain⟨A5,c5,hf5,-⟩:=SlS.form hfs.2.2.2.2.1
  obtain⟨A6,c6x,hf6,-⟩:=SlS.form hfs.2.2.2.2.2
  obtain⟨B1,d1,hz1,-⟩:=SlS.form hre.1
  obtain⟨B2,d2,hz2,-⟩:=SlS.form hre.2.1
  obtain⟨B3,d3,hz3,-⟩:=SlS.form hre.2.2
  obtain⟨n1,hn1⟩:=zx F.laws.length
  obtain⟨n2,hn2⟩:=zx F.models.length
  obtain⟨n3,hn3⟩:=zx F.doms.length
  obtain⟨n4,hn4⟩:=zx F.dves.length
  obtain⟨n5,hn5⟩:=zx F.pols.length
  obtain⟨n6,hn6⟩:=zx F.vols.length
  obtain⟨m1,hm1⟩:=zx r.plat.length
  obtain⟨m2,hm2⟩:=zx r.on.length
  obtain⟨m3,hm3⟩:=zx r.acks.length
  rw[←hn1] at hf1
  rw[←hn2] at hf2
  rw[←hn3] at hf3
  rw[←hn4] at hf4
  rw[←hn5] at hf5
  rw[←hn6] at hf6
  rw[←hm1] at hz1
  rw[←hm2] at hz2
  rw[←hm3] at hz3
  have HFS2:=zh (hfs.mono Fr.bl)
  rw[hf6] at HFS2
  have HOK:=zh hok
  have HRE:=zh (hre.mono Fr.bl)
  have HPL:=zh (show r.plat.length≤9 from by rw[hmo.plat];have:=hok.dveN;omega)
  have HLEN:=zh hmo.len
  have hak:r.acks.length≤1000000:=by
   have h1:=congrArg List.length hmo.keys
   rw[List.length_map] at h1
   have h2:=keysTo_le F.ext.toNat F.vols.length 0 (by have:=hok.ext;omega) hok.volN (by omega)
   rw[hmo.acks,List.length_map];omega
  have HAK:=zh hak
  have HB2:=zh hb2
  obtain⟨EX,hEX⟩:=zx F.ext
  rw[←hEX]
  have HEX:=zh hEX
  have HEX2:=zh (show(EX=1∨EX=2)∧n6≤2 from⟨by rw[hEX];exact hok.ext,by rw[hn6];exact hok.volN⟩)
  have HN6:=zh hn6
  clear hfs hok hre hmo hmp hdo hgM hb2 hEX hak hn1 hn2 hn3 hn4 hn5 hn6 hm1 hm2 hm3
  rw[hf1,hf2,hf3,hf4,hf5,hf6,hz1,hz2,hz3]
  have HEF:=zh (And.intro hf1 (And.intro hf2 (And.intro hf3 (And.intro hf4 (And.intro hf5 hf6)))))
  have HEZ:=zh (And.intro hz1 (And.intro hz2 hz3))
  clear hf1 hf2 hf3 hf4 hf5 hf6 hz1 hz2 hz3
  go_upto_region 4 with fail
  rw[←HEF.out.1,←HEF.out.2.1,←HEF.out.2.2.1,←HEF.out.2.2.2.1,←HEF.out.2.2.2.2.1,←HEZ.out.1,←HEZ.out.2.1,←HEZ.out.2.2]
  clear HEF HEZ
  obtain⟨g,hg⟩:=zx w2.heap.size
  obtain⟨p,hp⟩:=zx (w2.heap.size+1)
  obtain⟨W4,hW4⟩:=zx (((w2.alloc (.cells #[.int .i64 EX,fl,fm,fd,fv,fp,.slice A6 n6 c6x] 37)).alloc (.cells #[zp,zo,za] 27)))
  rw[←hW4,←hp,←hg]
  have hsz4:W4.heap.size=w2.heap.size+1+1:=by rw[hW4];simp
  have hb4:Below w2.heap.size w2 W4:=by rw[hW4];exact((Below.refl _ _).alloc (Nat.le_refl _) _).alloc (by simp) _
  have hbR:W4.heap[p]?=some (.cells #[zp,zo,za] 27 (0,0)):=by
   rw[hW4];exact heap_alloc_at _ _ _ (by rw[hp];simp)
  have hbF:W4.heap[g]?=some (.cells #[.int .i64 EX,fl,fm,fd,fv,fp,.slice A6 n6 c6x] 37 (0,0)):=by
   rw[hW4,hg];exact(Below.heap_alloc _ _ _ (by simp)).trans (heap_alloc_new w2 _)
  obtain⟨k0,k1,k2,k3,k4,k5,k6⟩:=cells7 hbF
  obtain⟨z0,z1,z2,-⟩:=cells3 hbR
  have hb04:Below W0.heap.size W0 W4:=HB01.out.trans ((HB2.out.trans (hb4.mono HB2.out.size)).mono HB01.out.size)
  have mq:∀i x,W0.cell? ⟨q,i,none⟩=some x→W4.drew.cell? ⟨q,i,none⟩=some x:=fun i x hx=>(hb04.cell (p:=⟨q,i,none⟩) HQ0.out).trans hx
  have HC:=zh (fun(W:World) (hb:Below W4.heap.size W4 W)=>(show((W.cell? ⟨g,0,none⟩=some (.int .i64 EX)∧W.cell? ⟨g,1,none⟩=some fl∧W.cell? ⟨g,2,none⟩=some fm∧W.cell? ⟨g,3,none⟩=some fd∧W.cell? ⟨g,4,none⟩=some fv∧W.cell? ⟨g,5,none⟩=some fp∧W.cell? ⟨g,6,none⟩=some (.slice A6 n6 c6x))∧(W.cell? ⟨p,0,none⟩=some zp∧W.cell? ⟨p,1,none⟩=some zo∧W.cell? ⟨p,2,none⟩=some za)∧(W.cell? ⟨q,0,none⟩=some vp∧W.cell? ⟨q,1,none⟩=some vo∧W.cell? ⟨q,2,none⟩=some va)) from by
   have mg:∀i x,W4.cell? ⟨g,i,none⟩=some x→W.cell? ⟨g,i,none⟩=some x:=fun i x hx=>(hb.cell (p:=⟨g,i,none⟩) (by show g<_;omega)).trans hx
   have mp:∀i x,W4.cell? ⟨p,i,none⟩=some x→W.cell? ⟨p,i,none⟩=some x:=fun i x hx=>(hb.cell (p:=⟨p,i,none⟩) (by show p<_;omega)).trans hx
   have ml:∀i x,W4.cell? ⟨q,i,none⟩=some x→W.cell? ⟨q,i,none⟩=some x:=fun i x hx=>(hb.cell (p:=⟨q,i,none⟩) (Nat.lt_of_lt_of_le HQ0.out hb04.size)).trans hx
   exact⟨⟨mg _ _ k0,mg _ _ k1,mg _ _ k2,mg _ _ k3,mg _ _ k4,mg _ _ k5,mg _ _ k6⟩,⟨mp _ _ z0,mp _ _ z1,mp _ _ z2⟩,⟨ml _ _ (mq _ _ HQC.out.1),ml _ _ (mq _ _ HQC.out.2.1),ml _ _ (mq _ _ HQC.out.2.2)⟩⟩))
  have HB4:=zh (HB0.out.trans (hb04.mono HB0.out.size))
  have HFS:=zh (HFS2.out.below hb4)
  have HM4:=zh (HRE.out.below hb4)
  have HR4:=zh ((HR1.out.below HB2.out).below hb4)
  have hp9:r.plat.length≤1000:=by have:=HPL.out;omega
  have hr9:raw.plat.length≤1000:=by have:=HLB.out.1;omega
  have hrl:∀l∈raw.plat,l.length≤1000:=fun l h=>by have:=HLB.out.2.2.2 l h;omega
  have hra:raw.acks.length≤1000000:=by have:=HLB.out.2.2.1;omega
  have hEX:=HEX.out
  obtain⟨v,hv⟩:=zx (within vol ((n6:Int)+1))
  obtain⟨s,hs⟩:=zx (within stripe (EX+1))
  have HP1:=zh (fun W (hb:Below W4.heap.size W4 W)=>con_any 2 (by omega) fl fm fd fv fp (.slice A6 n6 c6x) zp zo za F r v s up W (HFS.out.below hb) HOK.out (HM4.out.below hb) hp9 HLEN.out HAK.out)
  rw[←hEX] at HP1
  have HP2:=zh (fun W (hb:Below W4.heap.size W4 W)=>refCon_any 2 (by omega) fl fm fd fv fp (.slice A6 n6 c6x) zp zo za F r v s up W (HFS.out.below hb) HOK.out (HM4.out.below hb) hp9 HLEN.out)
  rw[←hEX] at HP2
  have HP3:=zh (fun W (hb:Below W4.heap.size W4 W)=>con_any 2 (by omega) fl fm fd fv fp (.slice A6 n6 c6x) vp vo va F raw vol stripe up W (HFS.out.below hb) HOK.out (HR4.out.below hb) hr9 hrl hra)
  rw[←hEX] at HP3
  have HP4:=zh (fun W (hb:Below W4.heap.size W4 W)=>refCon_any 2 (by omega) fl fm fd fv fp (.slice A6 n6 c6x) vp vo va F raw vol stripe up W (HFS.out.below hb) HOK.out (HR4.out.below hb) hr9 hrl)
  rw[←hEX] at HP4
  have HP5:=zh (fun W (hb:Below W4.heap.size W4 W)=>contents_empty zp zo za 0 0 up W)
  obtain⟨T1,hT1⟩:=zx (conT F r v s up)
  obtain⟨U1,hU1⟩:=zx (conU F r v s up)
  obtain⟨T2,hT2⟩:=zx (conT F raw vol stripe up)
  obtain⟨U2,hU2⟩:=zx (conU F raw vol stripe up)
  rw[←hT1,←hU1] at HP1 HP2
  rw[←hT2,←hU2] at HP3 HP4
  have HV:=zh (And.intro hv hs)
  have HB44:=zh (Below.refl W4.heap.size W4)
  obtain⟨hi1,hi2⟩:=HI.out
  obtain⟨hx0,hx1⟩:=HEX2.out
  have hx2:1≤EX:=by omega
  have hx3:EX≤2:=by omega
  clear hW4 hg hp hsz4 hb4 hbR hbF z0 z1 z2 hb04 mq hp9 hr9 hrl hra hEX hv hs hT1 hU1 hT2 hU2 hx0 k1 k2 k3 k4 k5
  go_quiet (exact Calls.quiet_of_same ((within_any _ _ _ (by assumption) (by unfold I64;omega)).mono fun _ _ h=>⟨h.1,h.2.symm⟩))
  go_upto_region 5 with fail
  rw[←HV.out.1,←HV.out.2]
  obtain⟨W5,hW5⟩:=zx (W4.drewN nq)
  have HB5:=zh (show Below W4.heap.size W4 W5 from by rw[hW5];exact Below.drewN' (Below.refl _ _) nq)
  rw[←hW5]
  clear hW5 k0 k6 hi1 hi2 hx1 hx2 hx3
  obtain⟨⟨k0,k1,k2,k3,k4,k5,k6⟩,⟨z0,z1,z2⟩,q0,q1,q2⟩:=HC.out W5 HB5.out
  go_wp2_with fail
  refine(HP1.out _ HB5.out).mono ?_
  rintro e W6 ⟨rfl,hbx⟩
  have HB6:=zh (HB5.out.trans (hbx.mono HB5.out.size))
  clear hbx k0 k1 k2 k3 k4 k5 k6 z0 z1 z2 q0 q1 q2
  obtain⟨⟨k0,k1,k2,k3,k4,k5,k6⟩,⟨z0,z1,z2⟩,q0,q1,q2⟩:=HC.out W6 HB6.out
  go_wp2_with fail
  refine(HP2.out _ HB6.out).mono ?_
  rintro e W7 ⟨rfl,hbx⟩
  have HB7:=zh (HB6.out.trans (hbx.mono HB6.out.size))
  clear hbx k0 k1 k2 k3 k4 k5 k6 z0 z1 z2 q0 q1 q2
  obtain⟨⟨k0,k1,k2,k3,k4,k5,k6⟩,⟨z0,z1,z2⟩,q0,q1,q2⟩:=HC.out W7 HB7.out
  go_wp2_with fail
  refine(HP3.out _ HB7.out).mono ?_
  rintro e W8 ⟨rfl,hbx⟩
  have HB8:=zh (HB7.out.trans (hbx.mono HB7.out.size))
  clear hbx k0 k1 k2 k3 k4 k5 k6 z0 z1 z2 q0 q1 q2
  obtain⟨⟨k0,k1,k2,k3,k4,k5,k6⟩,⟨z0,z1,z2⟩,q0,q1,q2⟩:=HC.out W8 HB8.out
  go_wp2_with fail
  refine(HP4.out _ HB8.out).mono ?_
  rintro e W9 ⟨rfl,hbx⟩
  have HB9:=zh (HB8.out.trans (hbx.mono HB8.out.size))
  clear hbx k0 k1 k2 k3 k4 k5 k6 z0 z1 z2 q0 q1 q2
  obtain⟨⟨k0,k1,k2,k3,k4,k5,k6⟩,⟨z0,z1,z2⟩,q0,q1,q2⟩:=HC.out W9 HB9.out
  go_wp2_with fail
  refine(HP5.out _ HB9.out).mono ?_
  rintro e W10 ⟨rfl,hbx⟩
  have HB10:=zh (HB9.out.trans (hbx.mono HB9.out.size))
  clear hbx k0 k1 k2 k3 k4 k5 k6 z0 z1 z2 q0 q1 q2
  go_wp2_with fail
  refine(HAW.out _).mono ?_
  rintro e w11 ⟨rfl,hbx⟩
  have HB11:=zh (HB10.out.trans (hbx.mono HB10.out.size))
  clear hbx
  go_wp2_with fail
  go_ret
  exact⟨rfl,HB4.out.trans (HB11.out.mono HB4.out.size)⟩
end Go.Proofs.YtmehadfhcdpfcaaGreat

namespace Go.Proofs.YtmehadfhcdpfcaaGreat
open Go.RowKit Go.ChangeShapes Go.WideShapes Go.ChangeAt Go.Deep Go.Joins
set_option linter.unusedVariables false
set_option linter.unusedSimpArgs false
theorem wf_i64{x:Int} (h:(Lit.int .i64 x).wf=true):I64 x:=by
 simpa[Lit.wf,IntKind.min,IntKind.max,IntKind.signed,IntKind.bits,I64] using h
def RowsAt{α:Type} (w:World) (size:Nat) (K:List Value→α→Prop) (els:List α) (b off:Nat):Prop :=
 ∀k a,els[k]?=some a→∃cs,cs.length=size∧(∀i v,cs[i]?=some v→w.cell? ⟨b,off+k * size+i,none⟩=some v)∧K cs a
section
variable {H : Type} {enc : TypeId × Value → H} {P : Program} {W : World}
theorem open_intS{t e:TypeId} {spare:Nat→Bool} {held:Bool} {base fuel:Nat} {v:Value} {x:DataW H×List MemPlace} (ht:P.underlying t=some (.slice e)) (he:P.underlying e=some (.int .i64)) (hc:P.cellsOf e=1)
  (h:DataW.trod enc P W base spare held fuel t [v]=some x):∃xs,IntS W (Bl W.heap.size) v xs:=by
 rcases open_ints ht he hc h with ⟨hcs,_⟩ | ⟨a,len,cap,zs,hcs,_,hl,hm,hz,_,hcell,hwz⟩
 ·simp at hcs;subst hcs
  exact⟨[],IntS.nil _ _ _⟩
 ·simp at hcs;subst hcs
  have hzl:len≤zs.length:=by rw[hz];split <;> omega
  have hxl:(zs.take len).length=len:=by rw[List.length_take];omega
  refine⟨zs.take len,⟨some a,cap,by rw[hxl],by rw[hxl];exact hl,by rw[hxl];omega,fun hn=>?_⟩,fun y hy=>wf_i64 (hwz y (List.mem_of_mem_take hy))⟩
  rw[hxl] at hn
  obtain⟨b,off,spot⟩:=a
  have g0:=hcell 0 (by omega)
  have hspot:spot=none:=by simpa[Addr.add] using World.cell?_spot g0
  subst hspot
  have hb:=block_lt_of_cell g0
  refine⟨b,off,rfl,by simpa[Addr.add,Bl] using hb,fun k y hk=>?_⟩
  have hkl:k<(zs.take len).length:=(List.getElem?_eq_some_iff.1 hk).1
  rw[hxl] at hkl
  have g:=hcell k (by omega)
  have e1:(⟨b,off,none⟩:Addr).add k=⟨b,off+k,none⟩:=by unfold Addr.add;split <;> simp_all
  rw[e1] at g
  rw[g]
  rw[List.getElem?_take_of_lt hkl] at hk
  rw[List.getD,hk];rfl
theorem open_int1{t:TypeId} {spare:Nat→Bool} {held:Bool} {base fuel:Nat} {v:Value} {x:DataW H×List MemPlace} (ht:P.underlying t=some (.int .i64))
  (h:DataW.trod enc P W base spare held fuel t [v]=some x):∃a,v=.int .i64 a∧I64 a:=by
 obtain⟨a,e0,_,wa⟩:=DataW.trod_int ht h
 simp at e0
 exact⟨a,e0,wf_i64 wa⟩
theorem open_rows{α:Type} {t te:TypeId} {size fuel:Nat} {v:Value} {x:DataW H×List MemPlace} (K:List Value→α→Prop) (ht:P.underlying t=some (.slice te)) (hC:P.cellsOf te=size) (h0:0<size)
  (hel:∀n cs y,DataW.trod enc P W 0 (fun _=>true) true n te cs=some y→cs.length=size→∃a,K cs a)
  (h:DataW.trod enc P W 0 (fun _=>true) true fuel t [v]=some x):∃els,Row (Bl W.heap.size) v els.length (RowsAt W size K els)∧∀a∈els,∃cs,K cs a:=by
 rcases open_slice ht h with ⟨hcs1,_⟩ | ⟨a,len,cap,m,n,D,Pl,hcs1,hb,hl,hm,hmm,_,hi⟩
 ·simp at hcs1;subst hcs1
  exact⟨[],Row.nil _ _ _,fun a ha=>by cases ha⟩
 ·simp at hcs1;subst hcs1
  have hlm:len≤m:=by rw[hmm];split <;> omega
  have key:∀i,i<m→∃(e:α) (cs:List Value),cs.length=size∧(∀j u,cs[j]?=some u→W.cell? (a.add (i * size+j))=some u)∧K cs e:=by
   intro i him
   obtain⟨cs',hcell,ht'⟩:=hi i him
   rw[hC] at hcell
   obtain⟨_,hl2,hat⟩:=World.cells?_some hcell
   obtain⟨e,he⟩:=hel _ _ _ ht' hl2
   refine⟨e,cs',hl2,fun j u hu=>?_,he⟩
   have hj:j<cs'.length:=(List.getElem?_eq_some_iff.1 hu).1
   have g:=hat j (by omega)
   have e2:(a.add (i * size)).add j=a.add (i * size+j):=by
    unfold Addr.add
    by_cases hi0:i * size=0 <;> by_cases hj0:j=0 <;> simp[hi0,hj0,Nat.add_assoc]
   rw[e2] at g
   rw[g]
   exact hu
  have hex:∃els:List α,els.length=len∧∀k e,els[k]?=some e→∃cs:List Value,cs.length=size∧(∀j u,cs[j]?=some u→W.cell? (a.add (k * size+j))=some u)∧K cs e:=by
   have:∀q,q≤len→∃els:List α,els.length=q∧∀k e,els[k]?=some e→∃cs:List Value,cs.length=size∧(∀j u,cs[j]?=some u→W.cell? (a.add (k * size+j))=some u)∧K cs e:=by
    intro q
    induction q with
    | zero=>intro _;exact⟨[],rfl,fun k e he=>by simp at he⟩
    | succ q ih =>
     intro hq
     obtain⟨els,h1,h2⟩:=ih (by omega)
     obtain⟨e,cs,h3⟩:=key q (by omega)
     refine⟨els++[e],by simp[h1],fun k e' he'=>?_⟩
     rcases Nat.lt_or_ge k els.length with hk | hk
     ·rw[List.getElem?_append_left hk] at he'
      exact h2 k e' he'
     ·rw[List.getElem?_append_right hk] at he'
      have:k - els.length=0:=by
       rcases Nat.eq_zero_or_pos (k - els.length) with h0 | h0
       ·exact h0
       ·rw[List.getElem?_eq_none (by simp;omega)] at he';cases he'
      rw[this] at he'
      simp at he'
      subst he'
      have hkq:k=q:=by omega
      subst hkq
      exact⟨cs,h3⟩
   exact this len (Nat.le_refl _)
  obtain⟨els,hal,has⟩:=hex
  refine⟨els,⟨some a,cap,by rw[hal],by rw[hal];exact hl,by rw[hal];omega,fun hn=>?_⟩,fun e he=>?_⟩
  ·rw[hal] at hn
   obtain⟨b,off,spot⟩:=a
   obtain⟨cs0,hc0,hc1,-⟩:=has 0 els[0] (List.getElem?_eq_getElem (by omega))
   have g0:=hc1 0 cs0[0] (List.getElem?_eq_getElem (by omega))
   have hspot:spot=none:=by simpa[Addr.add] using World.cell?_spot g0
   subst hspot
   have hbb:=block_lt_of_cell g0
   refine⟨b,off,rfl,by simpa[Addr.add,Bl] using hbb,fun k e hk=>?_⟩
   obtain⟨cs,q1,q2,q3⟩:=has k e hk
   refine⟨cs,q1,fun i u hu=>?_,q3⟩
   have:=q2 i u hu
   rw[←this]
   unfold Addr.add;split <;> simp_all [Nat.add_assoc]
  ·obtain⟨k,hk,rfl⟩:=List.getElem_of_mem he
   obtain⟨cs,_,_,q3⟩:=has k _ (List.getElem?_eq_getElem hk)
   exact⟨cs,q3⟩
end
end Go.Proofs.YtmehadfhcdpfcaaGreat

namespace Go.Proofs.YtmehadfhcdpfcaaGreat
open Go.RowKit Go.ChangeShapes Go.WideShapes Go.ChangeAt Go.Deep Go.Joins
set_option linter.unusedVariables false
set_option linter.unusedSimpArgs false
section
variable {H : Type} {enc : TypeId × Value → H} {P : Program} {W : World}
theorem open_sls{α:Type} {t te:TypeId} {size fuel:Nat} {v:Value} {x:DataW H×List MemPlace} (K:World→(Nat→Prop)→List Value→α→Prop) (ht:P.underlying t=some (.slice te)) (hC:P.cellsOf te=size) (h0:0<size)
  (hel:∀n cs y,DataW.trod enc P W 0 (fun _=>true) true n te cs=some y→cs.length=size→∃a,K W (Bl W.heap.size) cs a)
  (h:DataW.trod enc P W 0 (fun _=>true) true fuel t [v]=some x):∃es,SlS size K W (Bl W.heap.size) v es:=by
 obtain⟨es,h1,-⟩:=open_rows (fun cs a=>K W (Bl W.heap.size) cs a) ht hC h0 hel h
 exact⟨es,h1⟩
theorem open_strS{t te:TypeId} {fuel:Nat} {v:Value} {x:DataW H×List MemPlace} (ht:P.underlying t=some (.slice te)) (he:P.underlying te=some .string) (hC:P.cellsOf te=1)
  (h:DataW.trod enc P W 0 (fun _=>true) true fuel t [v]=some x):∃l,SlS 1 StrK W (Bl W.heap.size) v l :=
 open_sls StrK ht hC (by omega) (fun n cs y hy _=>by
  obtain⟨s,e,-,hs⟩:=DataW.trod_string he hy
  exact⟨s,e,hs⟩) h
theorem open_boolS{t te:TypeId} {fuel:Nat} {v:Value} {x:DataW H×List MemPlace} (ht:P.underlying t=some (.slice te)) (he:P.underlying te=some .bool) (hC:P.cellsOf te=1)
  (h:DataW.trod enc P W 0 (fun _=>true) true fuel t [v]=some x):∃l,SlS 1 BoolK W (Bl W.heap.size) v l :=
 open_sls BoolK ht hC (by omega) (fun n cs y hy _=>by
  obtain⟨s,e,-⟩:=DataW.trod_bool he hy
  exact⟨s,e⟩) h
end
theorem open_re{H:Type} {enc:TypeId×Value→H} {W:World} {r:Reach} {b0:Nat} {v:Value} {d:DataW H} {p:List MemPlace} (hv:Value.okWide Tryz.prog W r b0 27 v) (h:DataW.Trod enc Tryz.prog W 0 (fun _=>true) true 27 v d p) :
  ∃vp vo va r,v=.agg #[vp,vo,va]∧ReS W (Bl W.heap.size) vp vo va r:=by
 obtain⟨v0,v1,v2,y0,y1,y2,m,rfl,-,-,g0,g1,g2⟩:=open_agg3 Tryz.underlying27 (by kernel_rfl) (by kernel_rfl) hv h
 obtain⟨lp,hp⟩:=open_sls (size:=1) DrvK Tryz.underlying23 (by kernel_rfl) (by omega) (fun n cs y hy hl=>by
  match cs,hl with
  | [u],_ =>
   obtain⟨l,hl⟩:=open_strS Tryz.underlying50 Tryz.underlying9 (by kernel_rfl) hy
   exact⟨l,u,rfl,hl⟩) g0
 obtain⟨lo,ho⟩:=open_boolS Tryz.underlying24 Tryz.underlying4 (by kernel_rfl) g1
 obtain⟨la,ha⟩:=open_sls (α:=Ac) AcK Tryz.underlying25 (size:=4) (by kernel_rfl) (by omega) (fun n cs y hy hl=>by
  obtain⟨xs,n,_,rfl,-,hlen,hf⟩:=DataW.trod_struct Tryz.underlying53 hy
  have hc1:Tryz.prog.cellsOf 3=1:=by kernel_rfl
  match cs,hl,xs,hlen,hf with
  | [u0,u1,u2,u3],_,[z0,z1,z2,z3],_,hf =>
   have t0:=hf 0 _ rfl
   have t1:=hf 1 _ rfl
   have t2:=hf 2 _ rfl
   have t3:=hf 3 _ rfl
   obtain⟨k0,rfl,h0⟩:=open_int1 (t:=3) Tryz.underlying3 (by simpa[hc1] using t0)
   obtain⟨k1,rfl,h1⟩:=open_int1 (t:=3) Tryz.underlying3 (by simpa[hc1] using t1)
   obtain⟨k2,rfl,h2⟩:=open_int1 (t:=3) Tryz.underlying3 (by simpa[hc1] using t2)
   obtain⟨k3,rfl,h3⟩:=open_int1 (t:=3) Tryz.underlying3 (by simpa[hc1] using t3)
   exact⟨⟨k0,k1,k2,k3⟩,rfl,h0,h1,h2,h3⟩) g2
 exact⟨v0,v1,v2,⟨lp,lo,la⟩,rfl,hp,ho,ha⟩
end Go.Proofs.YtmehadfhcdpfcaaGreat

namespace Go.Proofs.YtmehadfhcdpfcaaGreat.lawReads
open Go.ChangeShapes Go.WideShapes Go.ChangeAt Go.RowKit
set_option linter.unusedVariables false
theorem own:ownKnob Tryz.prog.godebug=none:=by kernel_rfl
theorem laidOut:laidOutB Tryz.prog=true:=by kernel_rfl
theorem lifted(os:Os) (started:os.Started) (H:Type) (enc:TypeId×Value→H) :
  ReturnsInHanded {} Tryz.checked os 7 .any (Rows.truthReadsSpec.pre6 enc Tryz.prog Tryz.f7 Rows.truthReadsRow.domain false) (Rows.truthReadsSpec.post enc Tryz.prog Tryz.f7 false true false false):=by
 refine returnsInHanded_of_change (C:=Tryz.checked) own started (by kernel_rfl) Tryz.func7
  (ChangeSpec.witness6 (enc:=enc) (C:=Tryz.checked) false ⟨#[],#[.slice none 0 0,.agg #[.slice none 0 0,.slice none 0 0,.slice none 0 0],.int .i64 0,.int .i64 0,.bool false],[]⟩ 8 (by kernel_rfl) (by kernel_rfl) (by kernel_rfl) (by kernel_rfl)) ?_
 intro W base args ds gs before hval0 hW hcnd _
 have hval:∀(j:Nat) t v,Tryz.f7.params[j]?=some t→args[j]?=some v→Value.okWide Tryz.prog W .any base t v:=hval0
 have hW':=hW
 obtain⟨p,q,hA0,hV,rfl,hfz,hnd⟩:=hW
 have hA:DataW.TrodAll enc Tryz.prog W 0 (fun _=>true) true Tryz.f7.params.toList args.toList ds p:=hA0
 rw[Tryz.params7] at hA hval
 obtain⟨v0,vs0,d0,ds0,p0,q0,hargs,rfl,rfl,h0,r0⟩:=trodAll_cons hA
 obtain⟨v1,vs1,d1,ds1,p1,q1,rfl,rfl,rfl,h1,r1⟩:=trodAll_cons r0
 obtain⟨v2,vs2,d2,ds2,p2,q2,rfl,rfl,rfl,h2,r2⟩:=trodAll_cons r1
 obtain⟨v3,vs3,d3,ds3,p3,q3,rfl,rfl,rfl,h3,r3⟩:=trodAll_cons r2
 obtain⟨v4,vs4,d4,ds4,p4,q4,rfl,rfl,rfl,h4,r4⟩:=trodAll_cons r3
 obtain⟨rfl,rfl,rfl⟩:=trodAll_nil r4
 obtain rfl:args=#[v0,v1,v2,v3,v4]:=by cases args;simp_all
 obtain⟨rfl,rfl⟩:=trodVars_none hV
 have k0:=h0
 have lt0:∀x∈p0,x.block<W.heap.size:=by obtain⟨m,hm⟩:=k0;exact DataW.trod_lt m _ _ _ hm
 have k1:=h1
 have lt1:∀x∈p1,x.block<W.heap.size:=by obtain⟨m,hm⟩:=k1;exact DataW.trod_lt m _ _ _ hm
 have k2:=h2
 have lt2:∀x∈p2,x.block<W.heap.size:=by obtain⟨m,hm⟩:=k2;exact DataW.trod_lt m _ _ _ hm
 have k3:=h3
 have lt3:∀x∈p3,x.block<W.heap.size:=by obtain⟨m,hm⟩:=k3;exact DataW.trod_lt m _ _ _ hm
 have k4:=h4
 have lt4:∀x∈p4,x.block<W.heap.size:=by obtain⟨m,hm⟩:=k4;exact DataW.trod_lt m _ _ _ hm
 obtain⟨a0,len0,cap0,rfl⟩:=okWide_slice Tryz.underlying22 (hval 0 22 v0 rfl rfl)
 obtain⟨xs,h_xs⟩:∃xs,IntS W (Bl W.heap.size) (.slice a0 len0 cap0) xs:=by
  obtain⟨fuel,hf⟩:=h0
  exact open_intS Tryz.underlying22 Tryz.underlying3 (by kernel_rfl) hf
 obtain⟨vp1,vo1,va1,raw,rfl,h_raw⟩:=open_re (hval 1 27 v1 rfl rfl) h1
 obtain⟨vol,rfl,-,-,w_vol⟩:=open_int Tryz.underlying3 (hval 2 3 v2 rfl rfl) h2
 have h_vol:=wf_i64 w_vol
 obtain⟨stripe,rfl,-,-,w_stripe⟩:=open_int Tryz.underlying3 (hval 3 3 v3 rfl rfl) h3
 have h_stripe:=wf_i64 w_stripe
 obtain⟨up,rfl,-,-⟩:=open_bool Tryz.underlying4 (hval 4 4 v4 rfl rfl) h4
 clear hA0 hval0
 refine(reads_any made_any _ vp1 vo1 va1 xs raw vol stripe up W h_xs h_raw h_vol h_stripe).mono fun e W' ⟨he,bel⟩=>?_
 subst he
 exact⟨_,rfl,_,_,_,[],_,[],hW',trodAll_mk1 (shut_bool Tryz.underlying4 _),(trodAll_cons_mk (Below.trod laidOut (by kernel_rfl) (of_decide_eq_true (by kernel_rfl)) k0 bel lt0) (trodAll_cons_mk (Below.trod laidOut (by kernel_rfl) (of_decide_eq_true (by kernel_rfl)) k1 bel lt1) (trodAll_cons_mk (Below.trod laidOut (by kernel_rfl) (of_decide_eq_true (by kernel_rfl)) k2 bel lt2) (trodAll_cons_mk (Below.trod laidOut (by kernel_rfl) (of_decide_eq_true (by kernel_rfl)) k3 bel lt3) (trodAll_cons_mk (Below.trod laidOut (by kernel_rfl) (of_decide_eq_true (by kernel_rfl)) k4 bel lt4) trodAll_mk0))))),rfl,bel.frame _,fun h=>by cases h⟩
theorem over:Rows.truthReadsRow.holds Tryz.pinned (OpenSpec.ofChange Rows.truthReadsSpec) :=
 OpenClaim.holds_of_wide 7 Tryz.f7 rfl rfl rfl rfl rfl rfl rfl ⟨rfl,rfl,rfl,rfl,rfl⟩ rfl rfl rfl rfl rfl (by kernel_rfl) Tryz.func7 (by kernel_rfl)
  (of_decide_eq_true (by kernel_rfl)) (by unfold Func.isWrapper;first | (rw[if_pos (by decide +kernel)];kernel_rfl) | (rw[if_neg (by decide +kernel)];exact⟨rfl,rfl⟩))
  (fun os started H enc _=>lifted os started H enc)
theorem proved:Rows.TruthReadsSaid:=over
#print axioms proved
end Go.Proofs.YtmehadfhcdpfcaaGreat.lawReads
