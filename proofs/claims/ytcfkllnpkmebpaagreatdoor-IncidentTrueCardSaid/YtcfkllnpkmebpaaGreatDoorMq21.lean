/- Small numbers of the reference: products, walked. -/
import Derived.Test.YtcfkllnpkmebpaaGreatDoorMq14
import Derived.Test.YtcfkllnpkmebpaaGreatDoorMq01
import Derived.Test.YtcfkllnpkmebpaaGreatDoorMq15
import Derived.Test.YtcfkllnpkmebpaaGreatDoorMq16
import Derived.Test.YtcfkllnpkmebpaaGreatDoorMq17
import Derived.Test.YtcfkllnpkmebpaaGreatDoorMq03
import Derived.BigQuiet
import Derived.Deep.QuietTactic
import Derived.Test.YtcfkllnpkmebpaaGreatDoorMq18
import Derived.Test.YtcfkllnpkmebpaaGreatDoorMq20
import Derived.Test.YtcfkllnpkmebpaaGreatDoorMq06
import Derived.Test.YtcfkllnpkmebpaaGreatDoorMq11
import Derived.Test.YtcfkllnpkmebpaaGreatDoorMq08
import Derived.Test.YtcfkllnpkmebpaaGreatDoorMq19
set_option maxRecDepth 100000
set_option maxHeartbeats 12800000
namespace Go.Proofs.YtcfkllnpkmebpaaGreatDoor
open Go.RowKit
set_option linter.unusedVariables false
set_option linter.unusedSimpArgs false












def condR(lost:Bool) (a u k:Int):Bool:=if lost then decide (a<k) else !decide (a<k)&&decide (u<k)
theorem lost1_any(a u k:Int) (w:World):Calls Tryz.prog 80 #[.int .i64 a,.int .i64 u,.int .i64 k] w fun e w'=>e=.returned (.bool (condR true a u k))∧w=w':=by
 have hc:condR true a u k=decide (a<k):=rfl;rw[hc];go_enter Tryz.func80,Tryz.ntmps80;go_wp2_with fail;go_ret;exact⟨rfl,rfl⟩
theorem un1_any(a u k:Int) (w:World):Calls Tryz.prog 68 #[.int .i64 a,.int .i64 u,.int .i64 k] w fun e w'=>e=.returned (.bool (condR false a u k))∧w=w':=by
 by_cases h1:k≤a
 ·have hc:condR false a u k=decide (u<k):=by unfold condR;rw[decide_eq_false (by omega)];simp
  rw[hc];have hge:decide (k≤a)=true:=decide_eq_true h1;go_enter Tryz.func68,Tryz.ntmps68;go_wp2_with fail;go_ret;exact⟨rfl,rfl⟩
 ·have hc:condR false a u k=false:=by unfold condR;rw[decide_eq_true (by omega)];simp
  rw[hc];have hge:decide (k≤a)=false:=decide_eq_false h1;go_enter Tryz.func68,Tryz.ntmps68;go_wp2_with fail;go_ret;exact⟨rfl,rfl⟩
theorem fvalidate_empty(w:World):Calls Tryz.prog 48 #[.agg #[.int .i64 0,.slice none 0 0,.slice none 0 0,.slice none 0 0,.slice none 0 0,.slice none 0 0,.slice none 0 0]] w fun e w'=>e=.returned (.int .i64 1)∧Below w.heap.size w w':=by
 have HI:=zh (fun w=>fin_any 0 1 4 w);rw[decide_eq_false (show ¬((1:Int)≤0∧(0:Int)≤4) by omega)] at HI;go_enter Tryz.func48,Tryz.ntmps48;go_wp2_with fail;refine(HI.out _).mono ?_;rintro e w1 ⟨rfl,rfl⟩;go_wp2_with fail;go_ret;exact⟨rfl,(Below.refl _ _).alloc (Nat.le_refl _) _⟩
theorem lost_any(N:Nat) (hN:N≤12) (vl vm vd vv vp vo vp0 vo0 va0:Value) (F:FltM) (r:Re) (w:World) (hf:FleetS w (Bl w.heap.size) vl vm vd vv vp vo F) (hok:FleetOk N F) (h:ReS w (Bl w.heap.size) vp0 vo0 va0 r) (hp:r.plat.length≤1000) (hl:∀l∈r.plat,l.length≤1000) (hac:r.acks.length≤1000000) :
  Calls Tryz.prog 29 #[.agg #[.int .i64 F.ext,vl,vm,vd,vv,vp,vo],.agg #[vp0,vo0,va0]] w fun e w'=>∃u,e=.returned u∧OwnKy w' w.heap.size u (keyL F r (condR true) F.ext.toNat F.vols.length 0)∧Below w.heap.size w w':=by
 obtain⟨W0,hW0⟩:=zx ((w.alloc (.cells #[.int .i64 F.ext,vl,vm,vd,vv,vp,vo] 35)).alloc (.cells #[vp0,vo0,va0] 40));obtain⟨z,hz⟩:=zx w.heap.size;obtain⟨y,hy⟩:=zx (w.heap.size+1)
 have hb0:Below w.heap.size w W0:=by rw[hW0];exact((Below.refl _ _).alloc (Nat.le_refl _) _).alloc (by simp) _
 have hyk:W0.heap[y]?=some (.cells #[vp0,vo0,va0] 40 (0,0)):=by
  rw[hW0];exact heap_alloc_at _ _ _ (by rw[hy];simp)
 have hzk:W0.heap[z]?=some (.cells #[.int .i64 F.ext,vl,vm,vd,vv,vp,vo] 35 (0,0)):=by
  rw[hW0,hz];exact(Below.heap_alloc _ _ _ (by simp)).trans (heap_alloc_new w _)
 obtain⟨c0,c1,c2,c3,c4,c5,c6⟩:=cells7 hzk;obtain⟨d0,d1,d2,-⟩:=cells3 hyk;have HV:=zh (missingL_any (condR true) lost1_any N hN vl vm vd vv vp vo vp0 vo0 va0 F r W0 (hf.below hb0) hok (h.below hb0) hp hl hac);have HW0:=zh hW0;have HZ:=zh hz;have HY:=zh hy;have HB0:=zh hb0;obtain⟨EX,hEX⟩:=zx F.ext;obtain⟨KL,hKL⟩:=zx (keyL F r (condR true) F.ext.toNat F.vols.length 0);rw[←hKL] at HV ⊢;rw[←hEX] at HV HW0 c0 ⊢;clear hf hok h hp hl hac hW0 hz hy hb0 hzk hyk hEX hKL;go_enter Tryz.func29,Tryz.ntmps29;go_upto_region 1 with fail;rw[←HW0.out,←HY.out,←HZ.out];go_wp2_with fail;refine HV.out.mono ?_;rintro e w1 ⟨u,rfl,ho,hb1⟩;have HB1:=zh hb1;have HO:=zh ho;clear c0 c1 c2 c3 c4 c5 c6 d0 d1 d2 hb1 ho;go_wp2_with fail;go_ret;exact⟨_,rfl,HO.out.base HB0.out.size,HB0.out.trans (HB1.out.mono HB0.out.size)⟩
theorem unav_any(N:Nat) (hN:N≤12) (vl vm vd vv vp vo vp0 vo0 va0:Value) (F:FltM) (r:Re) (w:World) (hf:FleetS w (Bl w.heap.size) vl vm vd vv vp vo F) (hok:FleetOk N F) (h:ReS w (Bl w.heap.size) vp0 vo0 va0 r) (hp:r.plat.length≤1000) (hl:∀l∈r.plat,l.length≤1000) (hac:r.acks.length≤1000000) :
  Calls Tryz.prog 26 #[.agg #[.int .i64 F.ext,vl,vm,vd,vv,vp,vo],.agg #[vp0,vo0,va0]] w fun e w'=>∃u,e=.returned u∧OwnKy w' w.heap.size u (keyL F r (condR false) F.ext.toNat F.vols.length 0)∧Below w.heap.size w w':=by
 obtain⟨W0,hW0⟩:=zx ((w.alloc (.cells #[.int .i64 F.ext,vl,vm,vd,vv,vp,vo] 35)).alloc (.cells #[vp0,vo0,va0] 40));obtain⟨z,hz⟩:=zx w.heap.size;obtain⟨y,hy⟩:=zx (w.heap.size+1)
 have hb0:Below w.heap.size w W0:=by rw[hW0];exact((Below.refl _ _).alloc (Nat.le_refl _) _).alloc (by simp) _
 have hyk:W0.heap[y]?=some (.cells #[vp0,vo0,va0] 40 (0,0)):=by
  rw[hW0];exact heap_alloc_at _ _ _ (by rw[hy];simp)
 have hzk:W0.heap[z]?=some (.cells #[.int .i64 F.ext,vl,vm,vd,vv,vp,vo] 35 (0,0)):=by
  rw[hW0,hz];exact(Below.heap_alloc _ _ _ (by simp)).trans (heap_alloc_new w _)
 obtain⟨c0,c1,c2,c3,c4,c5,c6⟩:=cells7 hzk;obtain⟨d0,d1,d2,-⟩:=cells3 hyk;have HV:=zh (missingU_any (condR false) un1_any N hN vl vm vd vv vp vo vp0 vo0 va0 F r W0 (hf.below hb0) hok (h.below hb0) hp hl hac);have HW0:=zh hW0;have HZ:=zh hz;have HY:=zh hy;have HB0:=zh hb0;obtain⟨EX,hEX⟩:=zx F.ext;obtain⟨KL,hKL⟩:=zx (keyL F r (condR false) F.ext.toNat F.vols.length 0);rw[←hKL] at HV ⊢;rw[←hEX] at HV HW0 c0 ⊢;clear hf hok h hp hl hac hW0 hz hy hb0 hzk hyk hEX hKL;go_enter Tryz.func26,Tryz.ntmps26;go_upto_region 1 with fail;rw[←HW0.out,←HY.out,←HZ.out];go_wp2_with fail;refine HV.out.mono ?_;rintro e w1 ⟨u,rfl,ho,hb1⟩;have HB1:=zh hb1;have HO:=zh ho;clear c0 c1 c2 c3 c4 c5 c6 d0 d1 d2 hb1 ho;go_wp2_with fail;go_ret;exact⟨_,rfl,HO.out.base HB0.out.size,HB0.out.trans (HB1.out.mono HB0.out.size)⟩
def hdlB(lost:Bool) (nm:ByteArray) (s need:Nat):ByteArray :=
 ((((if lost then(⟨#[108,111,115,116,32]⟩:ByteArray) else⟨#[97,119,97,121,32]⟩)++nm)++(⟨#[32]⟩:ByteArray)++(⟨(Lib.decDigits s).toArray⟩:ByteArray))++(⟨#[32,110,101,101,100,115,32]⟩:ByteArray))++(⟨(Lib.decDigits need).toArray⟩:ByteArray)
theorem dec_all:((List.range 100).all fun s=>decide ((Lib.decDigits s).length≤2))=true:=by decide +kernel
theorem dec_short(s:Nat) (h:s<100):(⟨(Lib.decDigits s).toArray⟩:ByteArray).size≤2:=by
 have:=List.all_eq_true.1 dec_all s (by simpa using h);rw[decide_eq_true_eq] at this;show(Lib.decDigits s).toArray.size≤2
 simpa using this
theorem head_any(lost:Bool) (ext:Int) (vl vm vd vv vp vc:Value) (ob oof NO co v s need:Nat) (nm:ByteArray) (w:World) (hv:v<NO) (hno:NO≤1000) (hs:s<100) (hn:need<100) (hnm:nm.size≤1000) (hc:w.cell? ⟨ob,oof+v * 2,none⟩=some (.string nm)) :
  Calls Tryz.prog 43 #[.agg #[.int .i64 ext,vl,vm,vd,vv,vp,.slice (some ⟨ob,oof,none⟩) NO co],.agg #[.int .i64 (v:Int),.int .i64 (s:Int),.bool lost,.int .i64 (need:Int),vc]] w fun e w'=>e=.returned (.string (hdlB lost nm s need))∧Below w.heap.size w w':=by
 have hob:ob<w.heap.size:=World.block_lt_of_cell? w _ hc;have HI1:=zh (fun w=>itoa_any s hs w);have HI2:=zh (fun w=>itoa_any need hn w);obtain⟨D1,hD1⟩:∃b:ByteArray,b=⟨(Lib.decDigits s).toArray⟩:=⟨_,rfl⟩;obtain⟨D2,hD2⟩:∃b:ByteArray,b=⟨(Lib.decDigits need).toArray⟩:=⟨_,rfl⟩
 have l1:D1.size≤2:=by rw[hD1];exact dec_short s hs
 have l2:D2.size≤2:=by rw[hD2];exact dec_short need hn
 have f1:¬9223372036854775807<5+nm.size:=by omega
 have f2:¬9223372036854775807<5+nm.size+1:=by omega
 have f3:¬9223372036854775807<5+nm.size+1+D1.size:=by omega
 have f4:¬9223372036854775807<5+nm.size+1+D1.size+7:=by omega
 have f5:¬9223372036854775807<5+nm.size+1+D1.size+7+D2.size:=by omega
 unfold hdlB;rw[←hD1] at HI1 ⊢;rw[←hD2] at HI2 ⊢;obtain⟨W0,hW0⟩:=zx ((w.alloc (.cells #[.int .i64 ext,vl,vm,vd,vv,vp,.slice (some ⟨ob,oof,none⟩) NO co] 35)).alloc (.cells #[.int .i64 (v:Int),.int .i64 (s:Int),.bool lost,.int .i64 (need:Int),vc] 27));obtain⟨z,hz⟩:=zx w.heap.size;obtain⟨y,hy⟩:=zx (w.heap.size+1)
 have hb0:Below w.heap.size w W0:=by rw[hW0];exact((Below.refl _ _).alloc (Nat.le_refl _) _).alloc (by simp) _
 have hyk:W0.heap[y]?=some (.cells #[.int .i64 (v:Int),.int .i64 (s:Int),.bool lost,.int .i64 (need:Int),vc] 27 (0,0)):=by
  rw[hW0];exact heap_alloc_at _ _ _ (by rw[hy];simp)
 have hzk:W0.heap[z]?=some (.cells #[.int .i64 ext,vl,vm,vd,vv,vp,.slice (some ⟨ob,oof,none⟩) NO co] 35 (0,0)):=by
  rw[hW0,hz];exact(Below.heap_alloc _ _ _ (by simp)).trans (heap_alloc_new w _)
 have x0:W0.cell? ⟨y,0,none⟩=some (.int .i64 (v:Int)):=by rw[cell_of_row _ _ _ _ _ _ hyk];rfl
 have x1:W0.cell? ⟨y,1,none⟩=some (.int .i64 (s:Int)):=by rw[cell_of_row _ _ _ _ _ _ hyk];rfl
 have x2:W0.cell? ⟨y,2,none⟩=some (.bool lost):=by rw[cell_of_row _ _ _ _ _ _ hyk];rfl
 have x3:W0.cell? ⟨y,3,none⟩=some (.int .i64 (need:Int)):=by rw[cell_of_row _ _ _ _ _ _ hyk];rfl
 have z6:W0.cell? ⟨z,6,none⟩=some (.slice (some ⟨ob,oof,none⟩) NO co):=by rw[cell_of_row _ _ _ _ _ _ hzk];rfl
 have n0:W0.cell? ⟨ob,oof+v * 2,none⟩=some (.string nm):=(hb0.cell (p:=⟨ob,oof+v * 2,none⟩) hob).trans hc;have HS:=zh (show W0.drew.cell? ⟨z,6,none⟩=some (.slice (some ⟨ob,oof,none⟩) NO co)∧W0.drew.cell? ⟨y,0,none⟩=some (.int .i64 (v:Int))∧W0.drew.cell? ⟨ob,oof+v * 2,none⟩=some (.string nm)∧W0.drew.cell? ⟨y,1,none⟩=some (.int .i64 (s:Int))∧W0.drew.cell? ⟨y,3,none⟩=some (.int .i64 (need:Int)) from⟨z6,x0,n0,x1,x3⟩);have HW0:=zh hW0;have HZ:=zh hz;have HY:=zh hy;have HB0:=zh hb0
 have i1:(v:Int)<(NO:Int):=by omega
 clear hob hc x0 x1 x3 z6 n0 hD1 hD2 hW0 hz hy hb0 hyk hzk;go_enter Tryz.func43,Tryz.ntmps43;go_upto_region 2 with fail;rw[←HW0.out,←HY.out,←HZ.out]
 cases lost with
 | false =>
  go_upto_region 4 with fail;refine region_tail (S:=(fun w'=>w'.cell? ⟨z,6,none⟩=some (.slice (some ⟨ob,oof,none⟩) NO co)∧w'.cell? ⟨y,0,none⟩=some (.int .i64 (v:Int))∧w'.cell? ⟨ob,oof+v * 2,none⟩=some (.string nm)∧w'.cell? ⟨y,1,none⟩=some (.int .i64 (s:Int))∧w'.cell? ⟨y,3,none⟩=some (.int .i64 (need:Int)))) [] (by kernel_rfl) HS.out (fun hHeld=>?_);refine tk 0 8 ?_;refine tk 1 9 ?_;refine tk 2 10 ?_;refine tk 3 11 ?_;refine tk 4 12 ?_;refine tk 5 13 ?_;refine tk 6 14 ?_;refine tk 7 15 ?_;refine tk 8 16 ?_;refine tk 9 17 ?_;refine tk 10 18 ?_;refine tk 11 19 ?_;refine tk 15 23 ?_;refine tk 16 24 ?_;refine readyT (rs:=[12]) (by kernel_rfl) (by simp) ?_;refine AllReadyT.cons rfl (fun K hK=>?_) ?_
  ·go_simp;refine(HI1.out _).mono ?_;rintro e w' ⟨rfl,rfl⟩;refine hK.out _ _ ?_ (fun hHeld=>?_)
   ·assumption
   clear hK K;(try simp only[Act.put,z1,z2,z3]);refine tk 13 21 ?_;refine tk 14 22 ?_;refine readyT (rs:=[17]) (by kernel_rfl) (by simp) ?_;refine AllReadyT.cons rfl (fun K hK=>?_) ?_
   ·go_simp;refine(HI2.out _).mono ?_;rintro e w' ⟨rfl,rfl⟩;refine hK.out _ _ ?_ (fun hHeld=>?_)
    ·assumption
    clear hK K;(try simp only[Act.put,z1,z2,z3]);refine tk 18 26 ?_;refine tk 19 4 ?_;refine doneT (by kernel_rfl) ?_ _;go_wp2_with fail;go_ret;exact⟨rfl,HB0.out.drew⟩
   exact AllReadyT.nil
  exact AllReadyT.nil
 | true =>
  go_upto_region 4 with fail;refine region_tail (S:=(fun w'=>w'.cell? ⟨z,6,none⟩=some (.slice (some ⟨ob,oof,none⟩) NO co)∧w'.cell? ⟨y,0,none⟩=some (.int .i64 (v:Int))∧w'.cell? ⟨ob,oof+v * 2,none⟩=some (.string nm)∧w'.cell? ⟨y,1,none⟩=some (.int .i64 (s:Int))∧w'.cell? ⟨y,3,none⟩=some (.int .i64 (need:Int)))) [] (by kernel_rfl) HS.out (fun hHeld=>?_);refine tk 0 8 ?_;refine tk 1 9 ?_;refine tk 2 10 ?_;refine tk 3 11 ?_;refine tk 4 12 ?_;refine tk 5 13 ?_;refine tk 6 14 ?_;refine tk 7 15 ?_;refine tk 8 16 ?_;refine tk 9 17 ?_;refine tk 10 18 ?_;refine tk 11 19 ?_;refine tk 15 23 ?_;refine tk 16 24 ?_;refine readyT (rs:=[12]) (by kernel_rfl) (by simp) ?_;refine AllReadyT.cons rfl (fun K hK=>?_) ?_
  ·go_simp;refine(HI1.out _).mono ?_;rintro e w' ⟨rfl,rfl⟩;refine hK.out _ _ ?_ (fun hHeld=>?_)
   ·assumption
   clear hK K;(try simp only[Act.put,z1,z2,z3]);refine tk 13 21 ?_;refine tk 14 22 ?_;refine readyT (rs:=[17]) (by kernel_rfl) (by simp) ?_;refine AllReadyT.cons rfl (fun K hK=>?_) ?_
   ·go_simp;refine(HI2.out _).mono ?_;rintro e w' ⟨rfl,rfl⟩;refine hK.out _ _ ?_ (fun hHeld=>?_)
    ·assumption
    clear hK K;(try simp only[Act.put,z1,z2,z3]);refine tk 18 26 ?_;refine tk 19 4 ?_;refine doneT (by kernel_rfl) ?_ _;go_wp2_with fail;go_ret;exact⟨rfl,HB0.out.drew⟩
   exact AllReadyT.nil
  exact AllReadyT.nil
def nmOf(F:FltM) (v:Nat):ByteArray:=match F.vols[v]? with | some x=>x.name | none=>⟨#[]⟩
theorem vol_name{N:Nat} {F:FltM} {w:World} {R:Nat→Prop} {vl vm vd vv vp:Value} {ob oof co:Nat} (hf:FleetS w R vl vm vd vv vp (.slice (some ⟨ob,oof,none⟩) F.vols.length co) F) (hok:FleetOk N F) {v:Nat} (hv:v<F.vols.length) :
  w.cell? ⟨ob,oof+v * 2,none⟩=some (.string (nmOf F v))∧(nmOf F v).size=3:=by
 have e:nmOf F v=F.vols[v].name:=by unfold nmOf;rw[List.getElem?_eq_getElem hv]
 obtain⟨b,off,cs,e2,-,-,hc,hcs⟩:=hf.2.2.2.2.2.at_ (k:=v) hv;injection e2 with e2;injection e2 with e3 e4;subst e3 e4;unfold VolK at hcs;subst hcs;have h0:=hc 0 _ rfl;rw[e];refine⟨h0,?_⟩;obtain⟨-,h1,-⟩:=hok.vols v F.vols[v] (List.getElem?_eq_getElem hv);rw[h1];rfl
theorem parseHead_no(N:Nat) (hN:N≤12) (vl vm vd vv vp vo:Value) (F:FltM) (EX:Nat) (t:ByteArray) (w:World) (hf:FleetS w (Bl w.heap.size) vl vm vd vv vp vo F) (hok:FleetOk N F) (hEX:F.ext=(EX:Int))
  (hno:∀v s K:Nat,v<F.vols.length→s<EX→kOf F v=(K:Int)→∀b,hdlB b (nmOf F v) s K≠t) :
  Calls Tryz.prog 57 #[.agg #[.int .i64 F.ext,vl,vm,vd,vv,vp,vo],.string t] w fun e w'=>e=.returned (.tuple #[.agg #[.int .i64 0,.int .i64 0,.bool false,.int .i64 0,.slice none 0 0],.bool false])∧Below w.heap.size w w':=by
 obtain⟨pb,pof,ob,oof,cp,co,rfl,rfl,hRp,hRo,hPA⟩:=polAt hf hok
 have hex:EX≤2:=by have:=hok.ext;omega
 have hno2:=hok.volN;have hnp:=hok.polN
 have hfa:∀a,a<F.vols.length→∃(p0 K:Nat),p0<F.pols.length∧kOf F a=(K:Int)∧K≤2∧∀w',Below w.heap.size w w'→w'.cell? ⟨ob,oof+a * 2,none⟩=some (.string (nmOf F a))∧w'.cell? ⟨ob,oof+a * 2+1,none⟩=some (.int .i64 (p0:Int))∧w'.cell? ⟨pb,pof+p0 * 17+1,none⟩=some (.int .i64 (K:Int)):=fun a ha=>by
  obtain⟨hp1,nm,hv1,a0,a4,a5,a6,a7,a8,a9,a10,a11,a12,a13,a14,a15,a16,hpol,-⟩:=hPA a ha;obtain⟨kk,-,-,-,-⟩:=kmq_ok hok ha;obtain⟨K,hK⟩:∃K:Nat,kOf F a=(K:Int):=⟨(kOf F a).toNat,by omega⟩;refine⟨volP F a,K,hp1,hK,by omega,fun w' hb=>⟨?_,?_,?_⟩⟩
  ·exact(hb.cell (p:=⟨ob,oof+a * 2,none⟩) hRo).trans (vol_name hf hok ha).1
  ·exact(hb.cell (p:=⟨ob,oof+a * 2+1,none⟩) hRo).trans (hv1 1 _ rfl)
  ·rw[hK] at hpol;exact(hb.cell (p:=⟨pb,pof+volP F a * 17+1,none⟩) hRp).trans (hpol 1 _ rfl)
 have hnm:∀a,a<F.vols.length→(nmOf F a).size=3:=fun a ha=>(vol_name hf hok ha).2
 rw[hEX];obtain⟨NO,hNO⟩:=zx F.vols.length;obtain⟨NP,hNP⟩:=zx F.pols.length;rw[←hNO] at hno2 hno hfa hnm ⊢;rw[←hNP] at hnp hfa ⊢;have HNM:=zh hnm;have HFA:=zh hfa;have HNO:=zh hno;obtain⟨W0,hW0⟩:=zx ((w.alloc (.cells #[.int .i64 (EX:Int),vl,vm,vd,vv,.slice (some ⟨pb,pof,none⟩) NP cp,.slice (some ⟨ob,oof,none⟩) NO co] 35)).alloc (.cells #[.int .i64 0,.int .i64 0,.bool false,.int .i64 0,.slice none 0 0] 27));obtain⟨z,hz⟩:=zx w.heap.size;obtain⟨gR,hgR⟩:=zx (w.heap.size+1)
 have hb0:Below w.heap.size w W0:=by rw[hW0];exact((Below.refl _ _).alloc (Nat.le_refl _) _).alloc (by simp) _
 have hrk:W0.heap[gR]?=some (.cells #[.int .i64 0,.int .i64 0,.bool false,.int .i64 0,.slice none 0 0] 27 (0,0)):=by
  rw[hW0];exact heap_alloc_at _ _ _ (by rw[hgR];simp)
 have hzk:W0.heap[z]?=some (.cells #[.int .i64 (EX:Int),vl,vm,vd,vv,.slice (some ⟨pb,pof,none⟩) NP cp,.slice (some ⟨ob,oof,none⟩) NO co] 35 (0,0)):=by
  rw[hW0,hz];exact(Below.heap_alloc _ _ _ (by simp)).trans (heap_alloc_new w _)
 have hzl:z<W0.heap.size:=(Array.getElem?_eq_some_iff.1 hzk).1;have hrl:gR<W0.heap.size:=(Array.getElem?_eq_some_iff.1 hrk).1;have HC:=zh (fun(w':World) (hb:Below W0.heap.size W0 w')=>cells7 ((hb.block z hzl).trans hzk));have HRK:=zh (fun(w':World) (hb:Below W0.heap.size W0 w')=>(hb.block gR hrl).trans hrk);have HW0:=zh hW0;have HZ:=zh hz;have HGR:=zh hgR;have HB0:=zh hb0;clear hf hok hPA hRp hRo hW0 hz hgR hb0 hrk hzk hzl hrl hNO hNP hEX hno hfa hnm;go_enter Tryz.func57,Tryz.ntmps57;go_upto_region 1 with fail;rw[←HW0.out,←HGR.out,←HZ.out];obtain⟨c0,c1,c2,c3,c4,c5,c6⟩:=HC.out W0 (Below.refl _ _);go_wp2_with fail;clear c0 c1 c2 c3 c4 c5 c6;go_loopg [15] NO (fun z v15 wr=>∃a:Nat,v15=.int .i64 (a:Int)∧a≤NO∧z=NO - a∧Hid (Below W0.heap.size W0 wr))
 case atStart=>exact⟨0,rfl,Nat.zero_le _,rfl,zh (Below.refl _ _)⟩
 case round =>
  obtain⟨a,rfl,ha,rfl,HB⟩:=hrel;by_cases hlt:a<NO
  ·have HLT:=zh hlt;obtain⟨p0,K,hp0,hK,hK2,hcell⟩:=HFA.out a hlt;have HKF:=zh hK;have HCE:=zh hcell;have HNMA:=zh (HNM.out a hlt);obtain⟨nm,hnm⟩:=zx (nmOf F a);rw[←hnm] at HCE HNMA;have HNN:=zh hnm;have hbw:=HB0.out.trans (HB.out.mono HB0.out.size);obtain⟨n0,n1,-⟩:=HCE.out wr hbw;obtain⟨c0,c1,c2,c3,c4,c5,c6⟩:=HC.out wr HB.out;obtain⟨W1,hW1⟩:=zx (wr.alloc (.cells #[.string nm,.int .i64 (p0:Int)] 87));obtain⟨gv,hgv⟩:=zx wr.heap.size
   have hb1:Below wr.heap.size wr W1:=by rw[hW1];exact(Below.refl _ _).alloc (Nat.le_refl _) _
   have hgk:W1.heap[gv]?=some (.cells #[.string nm,.int .i64 (p0:Int)] 87 (0,0)):=by rw[hW1,hgv];exact heap_alloc_new wr _
   have hgl:gv<W1.heap.size:=(Array.getElem?_eq_some_iff.1 hgk).1;have HB1:=zh (HB.out.trans (hb1.mono HB.out.size));have HGV:=zh (fun(w':World) (hb:Below W1.heap.size W1 w')=>(show w'.cell? ⟨gv,1,none⟩=some (.int .i64 (p0:Int)) from by rw[cell_of_row _ _ _ _ _ _ ((hb.block gv hgl).trans hgk)];rfl));have HW1:=zh hW1;have HGVE:=zh hgv
   have i1:(a:Int)<(NO:Int):=by omega
   have i2:(p0:Int)<(NP:Int):=by omega
   clear hK hcell hnm hbw hW1 hgv hb1 hgk hgl;go_upto_region 4 with fail;rw[←HW1.out,←HGVE.out];clear n0 n1 c0 c1 c2 c3 c4 c5 c6;obtain⟨c0,c1,c2,c3,c4,c5,c6⟩:=HC.out W1 HB1.out;go_wp2_with fail;clear c0 c1 c2 c3 c4 c5 c6;go_loopg [22] EX (fun z v22 wr=>∃st:Nat,v22=.int .i64 (st:Int)∧st≤EX∧z=EX - st∧Hid (Below W1.heap.size W1 wr))
   case atStart=>exact⟨0,rfl,Nat.zero_le _,rfl,zh (Below.refl _ _)⟩
   case round =>
    clear HB;obtain⟨st,rfl,hst,rfl,HB⟩:=hrel;by_cases hls:st<EX
    ·have HLS:=zh hls;obtain⟨W2,hW2⟩:=zx (wr.alloc (.cells #[.bool false,.bool true] 4));obtain⟨gb,hgb⟩:=zx wr.heap.size
     have hb2:Below wr.heap.size wr W2:=by rw[hW2];exact(Below.refl _ _).alloc (Nat.le_refl _) _
     have hgk:W2.heap[gb]?=some (.cells #[.bool false,.bool true] 4 (0,0)):=by rw[hW2,hgb];exact heap_alloc_new wr _
     have hgl:gb<W2.heap.size:=(Array.getElem?_eq_some_iff.1 hgk).1;have HB2:=zh (HB.out.trans (hb2.mono HB.out.size))
     have HGB:=zh (fun(w':World) (hb:Below W2.heap.size W2 w') (c:Nat) (hc:c<2)=>(show w'.cell? ⟨gb,c,none⟩=some (.bool (decide (c=1))) from by
      rw[cell_of_row _ _ _ _ _ _ ((hb.block gb hgl).trans hgk)]
      have:c=0∨c=1:=by omega
      rcases this with rfl | rfl <;> rfl))
     have HW2:=zh hW2;have HGBE:=zh hgb;clear hW2 hgb hb2 hgk hgl;go_wp2_with fail;rw[←HW2.out,←HGBE.out];go_loopg [27] 2 (fun z v27 wr=>∃c:Nat,v27=.int .i64 (c:Int)∧c≤2∧z=2 - c∧Hid (Below W2.heap.size W2 wr))
     case atStart=>exact⟨0,rfl,Nat.zero_le _,rfl,zh (Below.refl _ _)⟩
     case round =>
      clear HB;obtain⟨c,rfl,hc,rfl,HB⟩:=hrel;by_cases hlc:c<2
      ·have HLC:=zh hlc;have hb1w:=HB2.out.trans (HB.out.mono HB2.out.size);have hb0w:=HB1.out.trans (hb1w.mono HB1.out.size);have hbw:=HB0.out.trans (hb0w.mono HB0.out.size);have g0:=HGB.out wr HB.out c hlc;have v1:=HGV.out wr hb1w;obtain⟨-,-,k1⟩:=HCE.out wr hbw;obtain⟨c0,c1,c2,c3,c4,c5,c6⟩:=HC.out wr hb0w;obtain⟨lb,hlb⟩:=zx (decide (c=1));rw[←hlb] at g0;obtain⟨W3,hW3⟩:=zx (wr.alloc (.cells #[.int .i64 (a:Int),.int .i64 (st:Int),.bool lb,.int .i64 (K:Int),.slice none 0 0] 27));obtain⟨gi,hgi⟩:=zx wr.heap.size
       have hb3:Below wr.heap.size wr W3:=by rw[hW3];exact(Below.refl _ _).alloc (Nat.le_refl _) _
       have hgk3:W3.heap[gi]?=some (.cells #[.int .i64 (a:Int),.int .i64 (st:Int),.bool lb,.int .i64 (K:Int),.slice none 0 0] 27 (0,0)):=by rw[hW3,hgi];exact heap_alloc_new wr _
       have hb03:=hb0w.trans (hb3.mono hb0w.size);have hbw3:=HB0.out.trans (hb03.mono HB0.out.size);have hhd:=head_any lb (EX:Int) vl vm vd vv (.slice (some ⟨pb,pof,none⟩) NP cp) (.slice none 0 0) ob oof NO co a st K nm W3 (by omega) (by omega) (by omega) (by omega) (by have:=HNMA.out;omega) (HCE.out W3 hbw3).1;obtain⟨hb,hhb⟩:=zx (hdlB lb nm st K);rw[←hhb] at hhd;have hne:(hb.toList==t.toList)=false:=seq_no (by rw[hhb,HNN.out];exact HNO.out a st K HLT.out HLS.out HKF.out lb);have HHD:=zh hhd;have HB3:=zh (HB.out.trans (hb3.mono HB.out.size));have HW3:=zh hW3;have HGI:=zh hgi;have HX3:=zh (show(W3.cell? ⟨gi,0,none⟩=some (.int .i64 (a:Int))∧W3.cell? ⟨gi,1,none⟩=some (.int .i64 (st:Int))∧W3.cell? ⟨gi,2,none⟩=some (.bool lb)∧W3.cell? ⟨gi,3,none⟩=some (.int .i64 (K:Int))∧W3.cell? ⟨gi,4,none⟩=some (.slice none 0 0))∧_ from⟨⟨by rw[cell_of_row _ _ _ _ _ _ hgk3];rfl,by rw[cell_of_row _ _ _ _ _ _ hgk3];rfl,by rw[cell_of_row _ _ _ _ _ _ hgk3];rfl,by rw[cell_of_row _ _ _ _ _ _ hgk3];rfl,by rw[cell_of_row _ _ _ _ _ _ hgk3];rfl⟩,HC.out W3 hb03⟩);clear hb1w hb0w hbw hlb hW3 hgi hb3 hgk3 hb03 hbw3 hhd hhb
       have hci:(c:Int)<2:=by omega
       go_upto_region 11 with fail;rw[←HW3.out,←HGI.out];clear g0 v1 k1 c0 c1 c2 c3 c4 c5 c6;obtain⟨⟨x0,x1,x2,x3,x4⟩,c0,c1,c2,c3,c4,c5,c6⟩:=HX3.out;go_wp2_with (go_at_call 43;refine HHD.out.mono ?_;rintro e w5 ⟨rfl,hb5⟩;have HB5:=zh hb5;clear hb5);go_roundg (2 - (c+1))
       case measure=>have:=HLC.out;omega
       case rel=>exact⟨c+1,by go_num,by have:=HLC.out;omega,rfl,zh (HB3.out.trans (HB5.out.mono HB3.out.size))⟩
      ·obtain rfl:c=2:=by omega
       go_wp2_with fail;go_roundg (EX - (st+1))
       case measure=>have:=HLS.out;omega
       case rel=>exact⟨st+1,by go_num,by have:=HLS.out;omega,rfl,zh (HB2.out.trans (HB.out.mono HB2.out.size))⟩
    ·obtain rfl:st=EX:=by omega
     go_wp2_with fail;go_roundg (NO - (a+1))
     case measure=>have:=HLT.out;omega
     case rel=>exact⟨a+1,by go_num,by have:=HLT.out;omega,rfl,zh (HB1.out.trans (HB.out.mono HB1.out.size))⟩
  ·obtain rfl:a=NO:=by omega
   have HZO:=zh (HRK.out wr HB.out)
   have zf:=fun i=>frozen_of_row wr gR i _ _ (HRK.out wr HB.out)
   have z0:wr.cell? ⟨gR,0,none⟩=some (.int .i64 0):=by rw[cell_of_row _ _ _ _ _ _ HZO.out];rfl
   have z1:wr.cell? ⟨gR,1,none⟩=some (.int .i64 0):=by rw[cell_of_row _ _ _ _ _ _ HZO.out];rfl
   have z2:wr.cell? ⟨gR,2,none⟩=some (.bool false):=by rw[cell_of_row _ _ _ _ _ _ HZO.out];rfl
   have z3:wr.cell? ⟨gR,3,none⟩=some (.int .i64 0):=by rw[cell_of_row _ _ _ _ _ _ HZO.out];rfl
   have z4:wr.cell? ⟨gR,4,none⟩=some (.slice none 0 0):=by rw[cell_of_row _ _ _ _ _ _ HZO.out];rfl
   have f0:=zf 0;have f1:=zf 1;have f2:=zf 2;have f3:=zf 3;have f4:=zf 4;clear zf;go_wp2_with fail;obtain⟨WZ,hWZ⟩:=zx ((((((wr.setCell ⟨gR,0,none⟩ (.int .i64 0)).setCell ⟨gR,1,none⟩ (.int .i64 0)).setCell ⟨gR,2,none⟩ (.bool false)).setCell ⟨gR,3,none⟩ (.int .i64 0)).setCell ⟨gR,4,none⟩ (.slice none 0 0)):World)
   have hz:WZ.heap[gR]?=some (.cells #[.int .i64 0,.int .i64 0,.bool false,.int .i64 0,.slice none 0 0] 27 (0,0)):=by
    rw[hWZ];exact heap_setCell_same _ gR 4 _ _ _ (heap_setCell_same _ gR 3 _ _ _ (heap_setCell_same _ gR 2 _ _ _ (heap_setCell_same _ gR 1 _ _ _ (heap_setCell_same _ gR 0 _ _ _ HZO.out))))
   rw[←hWZ]
   have hg:w.heap.size≤gR:=by have:=HGR.out;omega
   have hbz:Below w.heap.size w WZ:=by
    rw[hWZ];exact(((((HB0.out.trans (HB.out.mono HB0.out.size)).setCell hg _).setCell hg _).setCell hg _).setCell hg _).setCell hg _
   have n0:WZ.cell? ⟨gR,0,none⟩=some (.int .i64 0):=by rw[cell_of_row _ _ _ _ _ _ hz];rfl
   have n1:WZ.cell? ⟨gR,1,none⟩=some (.int .i64 0):=by rw[cell_of_row _ _ _ _ _ _ hz];rfl
   have n2:WZ.cell? ⟨gR,2,none⟩=some (.bool false):=by rw[cell_of_row _ _ _ _ _ _ hz];rfl
   have n3:WZ.cell? ⟨gR,3,none⟩=some (.int .i64 0):=by rw[cell_of_row _ _ _ _ _ _ hz];rfl
   have n4:WZ.cell? ⟨gR,4,none⟩=some (.slice none 0 0):=by rw[cell_of_row _ _ _ _ _ _ hz];rfl
   refine bodyPost_ret (v:=.tuple #[.agg #[.int .i64 0,.int .i64 0,.bool false,.int .i64 0,.slice none 0 0],.bool false]) ?_ rfl ⟨rfl,hbz⟩;simp[results,Tryz.results57,go_sem,n0,n1,n2,n3,n4]
theorem ivalid_nil(N:Nat) (hN:N≤12) (vl vm vd vv vp vo:Value) (F:FltM) (w:World) (hf:FleetS w (Bl w.heap.size) vl vm vd vv vp vo F) (hok:FleetOk N F) :
  Calls Tryz.prog 16 #[.agg #[.int .i64 F.ext,vl,vm,vd,vv,vp,vo],.slice none 0 0] w fun e w'=>e=.returned (.bool true)∧Below w.heap.size w w':=by
 obtain⟨W0,hW0⟩:=zx (w.alloc (.cells #[.int .i64 F.ext,vl,vm,vd,vv,vp,vo] 35));obtain⟨z,hz⟩:=zx w.heap.size
 have hb0:Below w.heap.size w W0:=by rw[hW0];exact(Below.refl _ _).alloc (Nat.le_refl _) _
 have hzk:W0.heap[z]?=some (.cells #[.int .i64 F.ext,vl,vm,vd,vv,vp,vo] 35 (0,0)):=by rw[hW0,hz];exact heap_alloc_new w _
 obtain⟨c0,c1,c2,c3,c4,c5,c6⟩:=cells7 hzk;have HV:=zh (fvalidate_any N hN vl vm vd vv vp vo F W0 (hf.below hb0) hok);obtain⟨EX,hEX⟩:=zx F.ext;rw[←hEX] at HV hW0 c0 ⊢;have HW0:=zh hW0;have HZ:=zh hz;have HB0:=zh hb0;clear hf hok hW0 hz hb0 hzk hEX;go_enter Tryz.func16,Tryz.ntmps16;go_upto_region 1 with fail;rw[←HW0.out,←HZ.out];go_wp2_with fail;refine HV.out.mono ?_;rintro e w1 ⟨rfl,hb1⟩;have HB1:=zh (HB0.out.trans (hb1.mono HB0.out.size));clear c0 c1 c2 c3 c4 c5 c6 hb1;go_wp2_with fail;go_loopg [15] 0 (fun z v15 wr=>v15=.int .i64 0∧w1=wr)
 case atStart=>exact⟨rfl,rfl⟩
 case round =>
  obtain⟨rfl,rfl⟩:=hrel;go_wp2_with fail;go_ret;exact⟨rfl,HB1.out⟩
theorem ivalid_empty(v:Value) (w:World) :
  Calls Tryz.prog 16 #[.agg #[.int .i64 0,.slice none 0 0,.slice none 0 0,.slice none 0 0,.slice none 0 0,.slice none 0 0,.slice none 0 0],v] w fun e w'=>e=.returned (.bool false)∧Below w.heap.size w w':=by
 obtain⟨W0,hW0⟩:=zx (w.alloc (.cells #[.int .i64 0,.slice none 0 0,.slice none 0 0,.slice none 0 0,.slice none 0 0,.slice none 0 0,.slice none 0 0] 35));obtain⟨z,hz⟩:=zx w.heap.size
 have hb0:Below w.heap.size w W0:=by rw[hW0];exact(Below.refl _ _).alloc (Nat.le_refl _) _
 have hzk:W0.heap[z]?=some (.cells #[.int .i64 0,.slice none 0 0,.slice none 0 0,.slice none 0 0,.slice none 0 0,.slice none 0 0,.slice none 0 0] 35 (0,0)):=by rw[hW0,hz];exact heap_alloc_new w _
 obtain⟨c0,c1,c2,c3,c4,c5,c6⟩:=cells7 hzk;have HV:=zh (fvalidate_empty W0);have HW0:=zh hW0;have HZ:=zh hz;have HB0:=zh hb0;clear hW0 hz hb0 hzk;go_enter Tryz.func16,Tryz.ntmps16;go_upto_region 1 with fail;rw[←HW0.out,←HZ.out];go_wp2_with fail;refine HV.out.mono ?_;rintro e w1 ⟨rfl,hb1⟩;have HB1:=zh (HB0.out.trans (hb1.mono HB0.out.size));clear c0 c1 c2 c3 c4 c5 c6 hb1;go_wp2_with fail;go_ret;exact⟨rfl,HB1.out⟩
theorem iformat_empty(v:Value) (w:World) :
  Calls Tryz.prog 14 #[.agg #[.int .i64 0,.slice none 0 0,.slice none 0 0,.slice none 0 0,.slice none 0 0,.slice none 0 0,.slice none 0 0],v] w fun e w'=>e=.returned (.tuple #[.string ⟨#[]⟩,.int .i64 1])∧Below w.heap.size w w':=by
 obtain⟨W0,hW0⟩:=zx (w.alloc (.cells #[.int .i64 0,.slice none 0 0,.slice none 0 0,.slice none 0 0,.slice none 0 0,.slice none 0 0,.slice none 0 0] 35));obtain⟨z,hz⟩:=zx w.heap.size
 have hb0:Below w.heap.size w W0:=by rw[hW0];exact(Below.refl _ _).alloc (Nat.le_refl _) _
 have hzk:W0.heap[z]?=some (.cells #[.int .i64 0,.slice none 0 0,.slice none 0 0,.slice none 0 0,.slice none 0 0,.slice none 0 0,.slice none 0 0] 35 (0,0)):=by rw[hW0,hz];exact heap_alloc_new w _
 obtain⟨c0,c1,c2,c3,c4,c5,c6⟩:=cells7 hzk;have HV:=zh (ivalid_empty v W0);have HW0:=zh hW0;have HZ:=zh hz;have HB0:=zh hb0;clear hW0 hz hb0 hzk;go_enter Tryz.func14,Tryz.ntmps14;go_upto_region 1 with fail;rw[←HW0.out,←HZ.out];go_wp2_with fail;refine HV.out.mono ?_;rintro e w1 ⟨rfl,hb1⟩;have HB1:=zh (HB0.out.trans (hb1.mono HB0.out.size));clear c0 c1 c2 c3 c4 c5 c6 hb1;go_wp2_with fail;go_ret2;exact⟨rfl,HB1.out⟩
theorem iformat_nil(N:Nat) (hN:N≤12) (vl vm vd vv vp vo:Value) (F:FltM) (w:World) (hf:FleetS w (Bl w.heap.size) vl vm vd vv vp vo F) (hok:FleetOk N F) :
  Calls Tryz.prog 14 #[.agg #[.int .i64 F.ext,vl,vm,vd,vv,vp,vo],.slice none 0 0] w fun e w'=>e=.returned (.tuple #[.string ⟨#[]⟩,.int .i64 0])∧Below w.heap.size w w':=by
 obtain⟨W0,hW0⟩:=zx (w.alloc (.cells #[.int .i64 F.ext,vl,vm,vd,vv,vp,vo] 35));obtain⟨z,hz⟩:=zx w.heap.size
 have hb0:Below w.heap.size w W0:=by rw[hW0];exact(Below.refl _ _).alloc (Nat.le_refl _) _
 have hzk:W0.heap[z]?=some (.cells #[.int .i64 F.ext,vl,vm,vd,vv,vp,vo] 35 (0,0)):=by rw[hW0,hz];exact heap_alloc_new w _
 obtain⟨c0,c1,c2,c3,c4,c5,c6⟩:=cells7 hzk;have HV:=zh (ivalid_nil N hN vl vm vd vv vp vo F W0 (hf.below hb0) hok);obtain⟨EX,hEX⟩:=zx F.ext;rw[←hEX] at HV hW0 c0 ⊢;have HW0:=zh hW0;have HZ:=zh hz;have HB0:=zh hb0;clear hf hok hW0 hz hb0 hzk hEX;go_enter Tryz.func14,Tryz.ntmps14;go_upto_region 1 with fail;rw[←HW0.out,←HZ.out];go_wp2_with fail;refine HV.out.mono ?_;rintro e w1 ⟨rfl,hb1⟩;have HB1:=zh (HB0.out.trans (hb1.mono HB0.out.size));clear c0 c1 c2 c3 c4 c5 c6 hb1;obtain⟨W7,hW7⟩:=zx (w1.alloc (.cells #[.pointer none,.slice none 0 0] 108));obtain⟨gb,hgb⟩:=zx w1.heap.size
 have hb7:Below w1.heap.size w1 W7:=by rw[hW7];exact(Below.refl _ _).alloc (Nat.le_refl _) _
 have hgk:W7.heap[gb]?=some (.cells #[.pointer none,.slice none 0 0] 108 (0,0)):=by rw[hW7,hgb];exact heap_alloc_new _ _
 have hbl:Lib.IsBuilder 108 5 gb gb (Lib.byteCells []) W7:=.inl ⟨Nat.le_refl _,_,hgk,World.ownsRow_nil _ _ _ _,by intro e;cases e⟩;have HST:=zh (bstring_any gb gb [] W7 hbl (Nat.le_of_lt (Array.getElem?_eq_some_iff.1 hgk).1));have HGB:=zh hgb;have HW7:=zh hW7;have HB7:=zh hb7;clear hW7 hgb hb7 hgk hbl;go_upto_region 4 with fail;rw[←HW7.out,←HGB.out];go_wp2_with fail;go_loopg [17] 0 (fun z v17 wr=>v17=.int .i64 0∧W7=wr)
 case atStart=>exact⟨rfl,rfl⟩
 case round =>
  obtain⟨rfl,rfl⟩:=hrel;go_wp2_with fail;refine HST.out.mono ?_;rintro e w8 ⟨rfl,hb8⟩;have HB8:=zh (show Below w1.heap.size w1 w8 from by have h:=HB7.out;exact h.trans (by rw[←HGB.out];exact hb8));clear hb8;go_wp2_with fail;go_ret2;exact⟨rfl,HB1.out.trans (HB8.out.mono HB1.out.size)⟩
def lostB:ByteArray:=⟨#[108,111,115,116,10]⟩
theorem lost_cut:cutV lostB ⟨#[10]⟩=.tuple #[.string ⟨#[108,111,115,116]⟩,.string ⟨#[]⟩,.bool true]:=by kernel_rfl
theorem hdl_long(b:Bool) (nm:ByteArray) (s K:Nat):hdlB b nm s K≠⟨#[108,111,115,116]⟩:=fun e=>by
 have h:=congrArg ByteArray.size e;unfold hdlB at h;have h4:(⟨#[108,111,115,116]⟩:ByteArray).size=4:=rfl
 have h5:∀b:Bool,(if b then(⟨#[108,111,115,116,32]⟩:ByteArray) else⟨#[97,119,97,121,32]⟩).size=5:=fun b=>by cases b <;> rfl
 rw[h4,ByteArray.size_append,ByteArray.size_append,ByteArray.size_append,ByteArray.size_append,ByteArray.size_append,h5] at h;omega
theorem iparse_lost(N:Nat) (hN:N≤12) (vl vm vd vv vp vo:Value) (F:FltM) (w:World) (hf:FleetS w (Bl w.heap.size) vl vm vd vv vp vo F) (hok:FleetOk N F) :
  Calls Tryz.prog 19 #[.agg #[.int .i64 F.ext,vl,vm,vd,vv,vp,vo],.string lostB] w fun e w'=>e=.returned (.tuple #[.slice none 0 0,.int .i64 104,.int .i64 1])∧Below w.heap.size w w':=by
 obtain⟨W0,hW0⟩:=zx (w.alloc (.cells #[.int .i64 F.ext,vl,vm,vd,vv,vp,vo] 35));obtain⟨z,hz⟩:=zx w.heap.size
 have hb0:Below w.heap.size w W0:=by rw[hW0];exact(Below.refl _ _).alloc (Nat.le_refl _) _
 have hzk:W0.heap[z]?=some (.cells #[.int .i64 F.ext,vl,vm,vd,vv,vp,vo] 35 (0,0)):=by rw[hW0,hz];exact heap_alloc_new w _
 have hzl:z<W0.heap.size:=(Array.getElem?_eq_some_iff.1 hzk).1;have HC:=zh (fun(w':World) (hb:Below W0.heap.size W0 w')=>cells7 ((hb.block z hzl).trans hzk));have HV:=zh (fvalidate_any N hN vl vm vd vv vp vo F W0 (hf.below hb0) hok);obtain⟨EXN,hEXN⟩:∃e:Nat,F.ext=(e:Int):=⟨F.ext.toNat,by have:=hok.ext;omega⟩;have HP:=zh (fun(w':World) (hb:Below W0.heap.size W0 w')=>parseHead_no N hN vl vm vd vv vp vo F EXN ⟨#[108,111,115,116]⟩ w' (hf.below (hb0.trans (hb.mono hb0.size))) hok hEXN (fun v s K _ _ _ b=>hdl_long b _ s K))
 have HCU:=zh (fun(w':World)=>(show Calls Tryz.prog 56 #[.string lostB,.string ⟨#[10]⟩] w' (fun e w2=>e=.returned (.tuple #[.string ⟨#[108,111,115,116]⟩,.string ⟨#[]⟩,.bool true])∧∃n,w2=w'.drewN n) from by
  have h:=cut_any lostB 10 w' (by decide);rw[lost_cut] at h
  exact h))
 obtain⟨EX,hEX⟩:=zx F.ext;rw[←hEX] at HV hW0 HC HP ⊢;obtain⟨S,hS⟩:=zx lostB;rw[←hS] at HCU ⊢
 have hs0:S.toList.isEmpty=false:=by rw[hS];decide +kernel
 obtain⟨L4,hL4⟩:∃q:ByteArray,q=⟨#[108,111,115,116]⟩:=⟨_,rfl⟩;rw[←hL4] at HCU HP;have HW0:=zh hW0;have HZ:=zh hz;have HB0:=zh hb0;obtain⟨c0,c1,c2,c3,c4,c5,c6⟩:=HC.out W0 (Below.refl _ _);clear hf hok hW0 hz hb0 hzk hzl hEX hEXN hS hL4;go_enter Tryz.func19,Tryz.ntmps19;go_upto_region 1 with fail;rw[←HW0.out,←HZ.out];go_wp2_with fail;refine HV.out.mono ?_;rintro e w1 ⟨rfl,hb1⟩;have HB1:=zh hb1;clear c0 c1 c2 c3 c4 c5 c6 hb1;obtain⟨W2,hW2⟩:=zx (w1.alloc (.cells #[.int .i64 0,.int .i64 0,.int .i64 0,.bool false] 118));obtain⟨gt,hgt⟩:=zx w1.heap.size
 have hb2:Below w1.heap.size w1 W2:=by rw[hW2];exact(Below.refl _ _).alloc (Nat.le_refl _) _
 have t2:W2.cell? ⟨gt,2,none⟩=some (.int .i64 0):=by rw[hW2,hgt];simp
 have HB2:=zh (HB1.out.trans (hb2.mono HB1.out.size));have HW2:=zh hW2;have HGT:=zh hgt;have HT2:=zh (fun(n:Nat)=>(show(W2.drewN n).cell? ⟨gt,2,none⟩=some (.int .i64 0) from by rw[←t2];exact World.cell?_of_block (w:=W2) (w':=W2.drewN n) ((Below.drewN' (Below.refl W2.heap.size W2) n).block gt (World.block_lt_of_cell? W2 _ t2))));clear hW2 hgt hb2 t2;go_upto_region 5 with fail;rw[←HW2.out,←HGT.out];go_wp2_with fail;go_loopg [1,7,9] 0 (fun z v1 v7 v9 wr=>v1=.string S∧v7=.slice none 0 0∧v9=.int .i64 1∧W2=wr)
 case atStart=>exact⟨rfl,rfl,rfl,rfl⟩
 case round =>
  obtain⟨rfl,rfl,rfl,rfl⟩:=hrel;go_wp2_with fail;refine(HCU.out _).mono ?_;rintro e w3 ⟨rfl,n,rfl⟩;have t2:=HT2.out n;have HB3:=zh (Below.drewN' HB2.out n);obtain⟨W3,hW3⟩:=zx (W2.drewN n);rw[←hW3] at t2 HB3 ⊢;clear hW3;obtain⟨c0,c1,c2,c3,c4,c5,c6⟩:=HC.out W3 HB3.out;go_wp2_with fail;refine(HP.out _ HB3.out).mono ?_;rintro e w4 ⟨rfl,hb4⟩;have HB4:=zh (HB3.out.trans (hb4.mono HB3.out.size));clear c0 c1 c2 c3 c4 c5 c6 t2 hb4;go_upto_region 14 with fail
  go_quiet (fail)
  go_wp2_with fail;go_ret3;have hbw:=HB0.out.trans (HB4.out.mono HB0.out.size);exact⟨rfl,by first | exact Below.drewN' (hbw.alloc hbw.size _) _ | exact(hbw.alloc hbw.size _).drew | exact hbw.alloc hbw.size _⟩
theorem awake44_any(w:World):Calls Tryz.prog 10 #[] w fun e w'=>e=.returned (.bool true)∧Below w.heap.size w w':=by
 obtain⟨W1,hW1⟩:=zx (w.alloc (.cells #[.slice none 0 0,.int .i64 0] 75));obtain⟨gT,hgT⟩:=zx w.heap.size
 have hT1:TapeB W1 gT (.slice none 0 0) 0:=by rw[hW1,hgT];exact heap_alloc_new w _
 have hb1:Below w.heap.size w W1:=by rw[hW1];exact(Below.refl _ _).alloc (Nat.le_refl _) _
 have HFL:=zh (fleet_any gT (.slice none 0 0) [] 0 1 W1 (fun _=>False) hT1 ⟨Row.nil _ _ _,fun x hx=>by cases hx⟩ (fun b h=>h.elim) (by omega) (by omega) (by omega));have HW1:=zh hW1;have HGT:=zh hgT;have HB1:=zh hb1;clear hW1 hgT hT1 hb1;go_enter Tryz.func10,Tryz.ntmps10;go_wp2_with fail;rw[←HW1.out,←HGT.out];refine HFL.out.mono ?_;rintro e w2 ⟨vl,vm,vd,vv,vp,vo,F,I0,rfl,hfs,hT2,hI0,hg,hok⟩;obtain⟨Al,nl,cl,hvl⟩:=hfs.1.form3;obtain⟨Am,nm,cm,hvm⟩:=hfs.2.1.form3;obtain⟨Ad,nd,cd,hvd⟩:=hfs.2.2.1.form3;obtain⟨Av,nv,cv,hvv⟩:=hfs.2.2.2.1.form3;obtain⟨Ap,np,cp,hvp⟩:=hfs.2.2.2.2.1.form3;obtain⟨Ao,no,co,hvo⟩:=hfs.2.2.2.2.2.form3;subst hvl hvm hvd hvv hvp hvo;have hb2:Below w.heap.size w w2:=HB1.out.grown hg HB1.out.size (fun b e=>by injection e with e;have:=HGT.out;omega);have hf2:FleetS w2 (Bl w2.heap.size) (.slice Al nl cl) (.slice Am nm cm) (.slice Ad nd cd) (.slice Av nv cv) (.slice Ap np cp) (.slice Ao no co) F:=hfs.mono (fun b h=>h.2);obtain⟨W3,hW3⟩:=zx (w2.alloc (.cells #[.int .i64 F.ext,.slice Al nl cl,.slice Am nm cm,.slice Ad nd cd,.slice Av nv cv,.slice Ap np cp,.slice Ao no co] 35));obtain⟨gF,hgF⟩:=zx w2.heap.size
 have hb3:Below w2.heap.size w2 W3:=by rw[hW3];exact(Below.refl _ _).alloc (Nat.le_refl _) _
 have hgk:W3.heap[gF]?=some (.cells #[.int .i64 F.ext,.slice Al nl cl,.slice Am nm cm,.slice Ad nd cd,.slice Av nv cv,.slice Ap np cp,.slice Ao no co] 35 (0,0)):=by rw[hW3,hgF];exact heap_alloc_new _ _
 have hgl:gF<W3.heap.size:=(Array.getElem?_eq_some_iff.1 hgk).1;have HC:=zh (fun(w':World) (hb:Below W3.heap.size W3 w')=>cells7 ((hb.block gF hgl).trans hgk));have HF:=zh (fun(w':World) (hb:Below W3.heap.size W3 w')=>iformat_nil 1 (by omega) _ _ _ _ _ _ F w' ((hf2.below hb3).below hb) hok);have HP:=zh (fun(w':World) (hb:Below W3.heap.size W3 w')=>iparse_lost 1 (by omega) _ _ _ _ _ _ F w' ((hf2.below hb3).below hb) hok);unfold lostB at HP;have HE:=zh (fun(w':World)=>iformat_empty (.slice none 0 0) w');have HB3:=zh (hb2.trans (hb3.mono hb2.size));obtain⟨EX,hEX⟩:=zx F.ext;rw[←hEX] at HC HF HP hW3 ⊢;have HW3:=zh hW3;have HGF:=zh hgF;clear hfs hT2 hI0 hg hok hb2 hf2 hW3 hgF hb3 hgk hgl hEX HFL;go_upto_region 2 with fail;rw[←HW3.out,←HGF.out];obtain⟨c0,c1,c2,c3,c4,c5,c6⟩:=HC.out W3 (Below.refl _ _);go_wp2_with fail;refine(HF.out _ (Below.refl _ _)).mono ?_;rintro e w4 ⟨rfl,hb4⟩;have HB4:=zh hb4;clear c0 c1 c2 c3 c4 c5 c6 hb4;go_wp2_with fail;refine(HE.out _).mono ?_;rintro e w5 ⟨rfl,hb5⟩;have HB5:=zh (HB4.out.trans (hb5.mono HB4.out.size));clear hb5;obtain⟨c0,c1,c2,c3,c4,c5,c6⟩:=HC.out w5 HB5.out;go_wp2_with fail;refine(HP.out _ HB5.out).mono ?_;rintro e w6 ⟨rfl,hb6⟩;have HB6:=zh (HB5.out.trans (hb6.mono HB5.out.size));clear c0 c1 c2 c3 c4 c5 c6 hb6;go_wp2_with fail;go_ret;exact⟨rfl,HB3.out.trans (HB6.out.mono HB3.out.size)⟩




structure Cau where
 state:Int
 drive:Int
deriving DecidableEq
structure Inc where
 vol:Int
 stripe:Int
 lost:Bool
 need:Int
 causes:List Cau
def oldAt(v f s:Int) (l:List ByteArray):Bool:=l.any fun x=>decide (decEr x.data.toList=0)&&isB (decP x.data.toList) v f s
def oldD(r:Re) (v f s:Int):Option Nat:=r.plat.findIdx? (oldAt v f s)
def causeOf(r:Re) (v f s:Int):Cau :=
 match (pieces r).find? (srcB r v f s true) with
 | some x=>⟨1,(x.drive:Int)⟩
 | none=>match (pieces r).find? (srcB r v f s false) with
  | some x=>⟨2,(x.drive:Int)⟩
  | none=>match oldD r v f s with
   | some d=>⟨3,(d:Int)⟩
   | none=>⟨4,-1⟩
theorem srcB_off(r:Re) (v f s:Int) (x:Fd):srcB r v f s false x=isB x.p v f s:=by unfold srcB;simp
theorem srcB_on(r:Re) (v f s:Int) (x:Fd):srcB r v f s true x=(isB x.p v f s&&onB r x.drive):=by unfold srcB;simp
theorem goodTo_find(v f s:Int) (q:Int→Bool):∀(l:List Fd) (acc:List Int),(∀a∈acc,q a=false)→(l.foldl (gStep v f s) acc).find? q=(l.find? fun x=>isB x.p v f s&&q (x.drive:Int)).map fun x=>(x.drive:Int)
 | [],acc,h=>by
  simp only[List.foldl_nil,List.find?_nil,Option.map_none];rw[List.find?_eq_none];intro a ha;rw[h a ha];decide
 | x :: l,acc,h=>by
  rw[List.foldl_cons,List.find?_cons];by_cases hb:isB x.p v f s=true
  ·by_cases hq:q (x.drive:Int)=true
   ·rw[hb,hq];simp only[Bool.and_self,Option.map_some]
    have hne:acc.getLast?≠some (x.drive:Int):=fun e=>by
     have:=h _ (List.mem_of_getLast? e);rw[hq] at this;cases this
    rw[gStep_new hb hne]
    have hk:∀(l:List Fd) (acc:List Int) (y:Int),acc.find? q=some y→(l.foldl (gStep v f s) acc).find? q=some y:=by
     intro l
     induction l with
     | nil=>intro acc y h;exact h
     | cons z l ih =>
      intro acc y h;rw[List.foldl_cons];refine ih _ _ ?_;unfold gStep;split
      ·rw[List.find?_append,h];rfl
      ·exact h
    refine hk l _ _ ?_;rw[List.find?_append]
    have hn:acc.find? q=none:=by rw[List.find?_eq_none];intro a ha;rw[h a ha];decide
    rw[hn];simp[hq]
   ·have hq':q (x.drive:Int)=false:=by simpa using hq
    rw[hb,hq'];simp only[Bool.and_false];refine goodTo_find v f s q l _ (fun a ha=>?_);unfold gStep at ha;split at ha
    ·rcases List.mem_append.1 ha with h1 | h1
     ·exact h a h1
     ·rw[List.mem_singleton.1 h1];exact hq'
    ·exact h a ha
  ·have hb':isB x.p v f s=false:=by simpa using hb
   rw[hb',gStep_off hb'];simp only[Bool.false_and];exact goodTo_find v f s q l acc h
theorem good_find(r:Re) (v f s:Int) (q:Int→Bool):(goodI r v f s).find? q=((pieces r).find? fun x=>isB x.p v f s&&q (x.drive:Int)).map fun x=>(x.drive:Int):=by
 unfold goodI goodTo;exact goodTo_find v f s q (pieces r) [] (fun a ha=>by cases ha)
theorem good_first(r:Re) (v f s:Int):(goodI r v f s).head?=((pieces r).find? (srcB r v f s false)).map fun x=>(x.drive:Int):=by
 have h:=good_find r v f s (fun _=>true)
 have e:(fun x:Fd=>isB x.p v f s&&true)=srcB r v f s false:=by funext x;rw[srcB_off];simp
 rw[e] at h;rw[←h]
 cases goodI r v f s with
 | nil=>rfl
 | cons a l=>simp
theorem good_on(r:Re) (v f s:Int):(goodI r v f s).find? (fun d=>onB r d.toNat)=((pieces r).find? (srcB r v f s true)).map fun x=>(x.drive:Int):=by
 have h:=good_find r v f s (fun d=>onB r d.toNat)
 have e:(fun x:Fd=>isB x.p v f s&&onB r (x.drive:Int).toNat)=srcB r v f s true:=by funext x;rw[srcB_on,Int.toNat_natCast]
 rw[e] at h;exact h
def causeG(r:Re) (g:List Int) (o:Option Nat):Cau :=
 match g.find? (fun d=>onB r d.toNat) with
 | some d=>⟨1,d⟩
 | none=>match g.head? with
  | some d=>⟨2,d⟩
  | none=>match o with
   | some d=>⟨3,(d:Int)⟩
   | none=>⟨4,-1⟩
theorem causeG_eq(r:Re) (v f s:Int):causeG r (goodI r v f s) (oldD r v f s)=causeOf r v f s:=by
 unfold causeG causeOf;rw[good_on,good_first]
 cases (pieces r).find? (srcB r v f s true) <;> cases (pieces r).find? (srcB r v f s false) <;> rfl
def incOf(F:FltM) (r:Re) (lost:Bool) (x:Nat×Nat):Inc :=
 ⟨(x.1:Int),(x.2:Int),lost,kOf F x.1,(List.range (kOf F x.1+mOf F x.1).toNat).map fun i:Nat=>causeOf r (x.1:Int) (i:Int) (x.2:Int)⟩
def lostP(F:FltM) (r:Re) (x:Nat×Nat):Bool:=keyP F r (condR true) x
def awayP(F:FltM) (r:Re) (x:Nat×Nat):Bool:=keyP F r (condR false) x
theorem lost_away(F:FltM) (r:Re) (x:Nat×Nat) (h:lostP F r x=true):awayP F r x=false:=by
 unfold lostP keyP condR at h;unfold awayP keyP condR;simp only[if_true,Bool.and_eq_true,decide_eq_true_eq] at h;simp[h.2]
def incL(F:FltM) (r:Re) (ext v s:Nat):List Inc :=
 (keysTo ext v s).filterMap fun x=>if lostP F r x=true then some (incOf F r true x) else if awayP F r x=true then some (incOf F r false x) else none
def incLt(a b:Inc):Prop:=a.vol<b.vol∨(a.vol=b.vol∧a.stripe<b.stripe)
theorem incLt_irrefl(a:Inc):¬incLt a a:=by unfold incLt;omega
theorem incLt_asymm{a b:Inc} (h:incLt a b):¬incLt b a:=by unfold incLt at *;omega
theorem keysTo_rise(ext:Nat):∀(v s:Nat),s≤ext→(keysTo ext v s).Pairwise (fun a b=>a.1<b.1∨(a.1=b.1∧a.2<b.2)):=by
 have hm:∀(v s:Nat),s≤ext→∀x∈keysTo ext v s,x.1<v∨(x.1=v∧x.2<s):=by
  intro v s hs x hx;unfold keysTo at hx;rcases List.mem_append.1 hx with h | h
  ·obtain⟨a,ha,h2⟩:=List.mem_flatMap.1 h;obtain⟨b,hb,rfl⟩:=List.mem_map.1 h2
   left;simpa using ha
  ·obtain⟨b,hb,rfl⟩:=List.mem_map.1 h
   right;exact⟨rfl,by simpa using hb⟩
 intro v
 induction v with
 | zero =>
  intro s
  induction s with
  | zero=>intro _;exact List.Pairwise.nil
  | succ s ih =>
   intro hs;rw[keysTo_succ,List.pairwise_append];refine⟨ih (by omega),List.pairwise_singleton _ _,fun a ha b hb=>?_⟩;rw[List.mem_singleton.1 hb];exact hm 0 s (by omega) a ha
 | succ v ihv =>
  intro s
  induction s with
  | zero=>intro _;rw[←keysTo_next];exact ihv ext (Nat.le_refl _)
  | succ s ih =>
   intro hs;rw[keysTo_succ,List.pairwise_append];refine⟨ih (by omega),List.pairwise_singleton _ _,fun a ha b hb=>?_⟩;rw[List.mem_singleton.1 hb];exact hm (v+1) s (by omega) a ha
theorem incL_rise(F:FltM) (r:Re) (ext v s:Nat) (hs:s≤ext):(incL F r ext v s).Pairwise incLt:=by
 unfold incL;rw[List.pairwise_filterMap];refine(keysTo_rise ext v s hs).imp ?_;intro a b hab x hx y hy
 have e:∀(c:Nat×Nat) (z:Inc),(if lostP F r c=true then some (incOf F r true c) else if awayP F r c=true then some (incOf F r false c) else none)=some z→z.vol=(c.1:Int)∧z.stripe=(c.2:Int):=by
  intro c z h;split at h
  ·injection h with h;subst h;exact⟨rfl,rfl⟩
  ·split at h
   ·injection h with h;subst h;exact⟨rfl,rfl⟩
   ·cases h
 obtain⟨h1,h2⟩:=e a x hx;obtain⟨h3,h4⟩:=e b y hy;unfold incLt;omega
theorem rise_eq:∀{l m:List Inc},l.Pairwise incLt→m.Pairwise incLt→(∀x,x∈l↔x∈m)→l=m
 | [],[],_,_,_=>rfl
 | [],b :: m,_,_,h=>by have:=(h b).2 (by simp);cases this
 | a :: l,[],_,_,h=>by have:=(h a).1 (by simp);cases this
 | a :: l,b :: m,hl,hm,h=>by
  rw[List.pairwise_cons] at hl hm
  have e:a=b:=by
   rcases List.mem_cons.1 ((h a).1 (by simp)) with h1 | h1
   ·exact h1
   ·rcases List.mem_cons.1 ((h b).2 (by simp)) with h2 | h2
    ·exact h2.symm
    ·exact absurd (hl.1 b h2) (incLt_asymm (hm.1 a h1))
  subst e
  congr 1
  refine rise_eq hl.2 hm.2 (fun x=>⟨fun hx=>?_,fun hx=>?_⟩)
  ·rcases List.mem_cons.1 ((h x).1 (List.mem_cons_of_mem _ hx)) with h1 | h1
   ·subst h1;exact absurd (hl.1 _ hx) (incLt_irrefl _)
   ·exact h1
  ·rcases List.mem_cons.1 ((h x).2 (List.mem_cons_of_mem _ hx)) with h1 | h1
   ·subst h1;exact absurd (hm.1 _ hx) (incLt_irrefl _)
   ·exact h1
theorem incL_sorted{F:FltM} {r:Re} {ext NV:Nat} {l:List Inc} (hp:l.Perm ((keyL F r (condR true) ext NV 0).map (incOf F r true)++(keyL F r (condR false) ext NV 0).map (incOf F r false))) (hs:l.Pairwise incLt):l=incL F r ext NV 0:=by
 refine rise_eq hs (incL_rise F r ext NV 0 (Nat.zero_le _)) (fun x=>?_);rw[hp.mem_iff,List.mem_append,List.mem_map,List.mem_map];unfold incL keyL;rw[List.mem_filterMap]
 constructor
 ·rintro (⟨y,hy,rfl⟩ | ⟨y,hy,rfl⟩)
  ·obtain⟨h1,h2⟩:=List.mem_filter.1 hy;exact⟨y,h1,if_pos h2⟩
  ·obtain⟨h1,h2⟩:=List.mem_filter.1 hy;refine⟨y,h1,?_⟩
   have hn:¬lostP F r y=true:=fun h=>by
    have h3:=lost_away F r y h;unfold awayP at h3;rw[h2] at h3;cases h3
   rw[if_neg hn];exact if_pos h2
 ·rintro ⟨y,hy,e⟩;by_cases h1:lostP F r y=true
  ·rw[if_pos h1] at e;injection e with e;exact .inl ⟨y,List.mem_filter.2 ⟨hy,h1⟩,e⟩
  ·rw[if_neg h1] at e;by_cases h2:awayP F r y=true
   ·rw[if_pos h2] at e;injection e with e;exact .inr ⟨y,List.mem_filter.2 ⟨hy,h2⟩,e⟩
   ·rw[if_neg h2] at e;cases e
theorem incL_len(F:FltM) (r:Re) (ext v s:Nat):(incL F r ext v s).length≤v * ext+s:=by
 unfold incL;rw[←keysTo_len ext v s];exact List.length_filterMap_le _ _



def cauC(c:Cau):List Value:=[.int .i64 c.state,.int .i64 c.drive]
def cauV(c:Cau):Value:=.agg #[.int .i64 c.state,.int .i64 c.drive]
def oldS(v f s:Int) (x:ByteArray):Bool:=decide (decEr x.data.toList=0)&&isB (decP x.data.toList) v f s
theorem oldAt_eq(v f s:Int) (l:List ByteArray):oldAt v f s l=l.any (oldS v f s):=rfl
theorem one2(a b:Int):(#[.int .i64 a,.int .i64 b]:Array Value).all (·.oneCell')=true:=by simp[Value.oneCell']
theorem size_cau:(Tryz.prog.info? 102).map (·.size)=some 2:=by kernel_rfl
end Go.Proofs.YtcfkllnpkmebpaaGreatDoor
