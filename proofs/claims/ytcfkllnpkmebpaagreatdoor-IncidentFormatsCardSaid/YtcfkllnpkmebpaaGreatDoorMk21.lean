/- begin and order, walked. -/
import Derived.Deep.MidRow
import Derived.Test.YtcfkllnpkmebpaaGreatDoorMk01
import Derived.Test.YtcfkllnpkmebpaaGreatDoorMk20
import Derived.Deep.AppendLies
import Derived.Test.YtcfkllnpkmebpaaGreatDoorMk08
set_option maxRecDepth 100000
set_option maxHeartbeats 12800000
namespace Go.Proofs.YtcfkllnpkmebpaaGreatDoor
open Go.RowKit
set_option linter.unusedVariables false
set_option linter.unusedSimpArgs false
theorem size_tly:(Tryz.prog.info? 118).map (·.size)=some 4:=by kernel_rfl
theorem begin_any(ext k m q:Int) (vl vm vd a0 a4 a5 a6 a7 a8 a9 a10 a11 a12 a13 a14 a15 a16:Value) (nm:ByteArray) (Ad:Option Addr) (ND cd pb pof ob oof NP NO cp co v p:Nat) (w:World) (hv:v<NO) (hp:p<NP) (hno:NO≤1000) (hnp:NP≤1000) (hk:0≤k∧k≤1000) (hm:0≤m∧m≤1000) (hnd:1≤ND∧ND≤1000)
  (hvol:w.rangeAt ob (oof+v * 2) [.string nm,.int .i64 (p:Int)]) (hpol:w.rangeAt pb (pof+p * 17) [a0,.int .i64 k,.int .i64 m,.int .i64 q,a4,a5,a6,a7,a8,a9,a10,a11,a12,a13,a14,a15,a16]) (hone:(#[a0,.int .i64 k,.int .i64 m,.int .i64 q,a4,a5,a6,a7,a8,a9,a10,a11,a12,a13,a14,a15,a16]:Array Value).all (·.oneCell')=true) :
  Calls Tryz.prog 51 #[.agg #[.int .i64 ext,vl,vm,vd,.slice Ad ND cd,.slice (some ⟨pb,pof,none⟩) NP cp,.slice (some ⟨ob,oof,none⟩) NO co],.int .i64 (v:Int)] w fun e w'=>e=.returned (.agg #[.int .i64 0,.int .i64 0,.int .i64 (k+m),.bool true])∧Below w.heap.size w w':=by
 obtain⟨W0,hW0⟩:=zx ((w.alloc (.cells #[.int .i64 ext,vl,vm,vd,.slice Ad ND cd,.slice (some ⟨pb,pof,none⟩) NP cp,.slice (some ⟨ob,oof,none⟩) NO co] 35)).alloc (.cells #[.int .i64 0,.int .i64 0,.int .i64 0,.bool false] 118))
 obtain⟨z,hz⟩:=zx w.heap.size
 obtain⟨gr,hgr⟩:=zx (w.heap.size+1)
 have hb0:Below w.heap.size w W0:=by rw[hW0];exact((Below.refl _ _).alloc (Nat.le_refl _) _).alloc (by simp) _
 have hrk:W0.heap[gr]?=some (.cells #[.int .i64 0,.int .i64 0,.int .i64 0,.bool false] 118 (0,0)):=by
  rw[hW0];exact heap_alloc_at _ _ _ (by rw[hgr];simp)
 have hzk:W0.heap[z]?=some (.cells #[.int .i64 ext,vl,vm,vd,.slice Ad ND cd,.slice (some ⟨pb,pof,none⟩) NP cp,.slice (some ⟨ob,oof,none⟩) NO co] 35 (0,0)):=by
  rw[hW0,hz];exact(Below.heap_alloc _ _ _ (by simp)).trans (heap_alloc_new w _)
 have hzl:z<W0.heap.size:=(Array.getElem?_eq_some_iff.1 hzk).1
 have hrl:gr<W0.heap.size:=(Array.getElem?_eq_some_iff.1 hrk).1
 have hob:ob<w.heap.size:=World.block_lt_of_cell? w _ (hvol 0 _ rfl)
 have hpb:pb<w.heap.size:=World.block_lt_of_cell? w _ (hpol 0 _ rfl)
 have HZ4:=zh (fun(w':World) (hb:Below W0.heap.size W0 w')=>(cells7 ((hb.block z hzl).trans hzk)).2.2.2.2.1)
 have HGR:=zh (fun(w':World) (hb:Below W0.heap.size W0 w')=>(hb.block gr hrl).trans hrk)
 have HSK:=zh (fun(w':World) (hb:Below W0.heap.size W0 w')=>(show w'.cell? ⟨z,5,none⟩=some (.slice (some ⟨pb,pof,none⟩) NP cp)∧w'.cell? ⟨z,6,none⟩=some (.slice (some ⟨ob,oof,none⟩) NO co)∧w'.cell? ⟨ob,oof+v * 2+1,none⟩=some (.int .i64 (p:Int))∧w'.rangeAt pb (pof+p * 17) [a0,.int .i64 k,.int .i64 m,.int .i64 q,a4,a5,a6,a7,a8,a9,a10,a11,a12,a13,a14,a15,a16] from by
  obtain⟨-,-,-,-,-,x5,x6⟩:=cells7 ((hb.block z hzl).trans hzk)
  have hbw:=hb0.trans (hb.mono hb0.size)
  exact⟨x5,x6,range_same hvol (hbw.block ob hob) 1 _ rfl,range_same hpol (hbw.block pb hpb)⟩))
 have HTH:=zh (show((W0.alloc (.cells #[.string ⟨#[]⟩,.int .i64 0,.int .i64 0,.int .i64 0,.int .i64 0,.int .i64 0,.int .i64 0,.int .i64 0,.int .i64 0,.slice none 0 0,.slice none 0 0,.bool false,.slice none 0 0,.slice none 0 0,.bool false,.slice none 0 0,.slice none 0 0] 85)).drew).there W0.heap.size 0 17 from there_of_block (w:=(W0.alloc (.cells #[.string ⟨#[]⟩,.int .i64 0,.int .i64 0,.int .i64 0,.int .i64 0,.int .i64 0,.int .i64 0,.int .i64 0,.int .i64 0,.slice none 0 0,.slice none 0 0,.bool false,.slice none 0 0,.slice none 0 0,.bool false,.slice none 0 0,.slice none 0 0] 85)).drew) (cs:=#[.string ⟨#[]⟩,.int .i64 0,.int .i64 0,.int .i64 0,.int .i64 0,.int .i64 0,.int .i64 0,.int .i64 0,.int .i64 0,.slice none 0 0,.slice none 0 0,.bool false,.slice none 0 0,.slice none 0 0,.bool false,.slice none 0 0,.slice none 0 0]) (heap_alloc_new W0 _) (Nat.le_refl 17))
 have HON:=zh hone
 have HW0:=zh hW0
 have HZ:=zh (And.intro hz hgr)
 have HB0:=zh hb0
 have HGE:=zh (show w.heap.size≤gr by omega)
 obtain⟨hk0,hk1⟩:=hk
 obtain⟨hm0,hm1⟩:=hm
 have i1:(v:Int)<(NO:Int):=by omega
 have i2:(p:Int)<(NP:Int):=by omega
 have t1:decide (0<ND)=true:=decide_eq_true hnd.1
 have i3:(ND:Int)≤1000:=by omega
 clear hvol hpol hone hW0 hz hgr hb0 hrk hzk hzl hrl hob hpb hv hp hnd
 go_enter Tryz.func51,Tryz.ntmps51
 go_upto_region 1 with fail
 rw[←HW0.out,←HZ.out.2,←HZ.out.1]
 refine region_tail (S:=(fun w'=>w'.cell? ⟨z,5,none⟩=some (.slice (some ⟨pb,pof,none⟩) NP cp)∧w'.cell? ⟨z,6,none⟩=some (.slice (some ⟨ob,oof,none⟩) NO co)∧w'.cell? ⟨ob,oof+v * 2+1,none⟩=some (.int .i64 (p:Int))∧w'.rangeAt pb (pof+p * 17) [a0,.int .i64 k,.int .i64 m,.int .i64 q,a4,a5,a6,a7,a8,a9,a10,a11,a12,a13,a14,a15,a16])) [11] (by kernel_rfl) (HSK.out _ (Below.refl _ _).drew) (fun hHeld=>?_)
 refine tk 0 6 ?_
 refine tk 1 7 ?_
 refine tk 2 8 ?_
 refine tk 3 9 ?_
 refine tk 4 10 ?_
 refine tk 5 11 ?_
 refine tk 6 12 ?_
 refine tk 7 13 ?_
 refine tk 8 14 ?_
 refine takeT (i:=9) (d:=15) (v:=(.agg #[a0,.int .i64 k,.int .i64 m,.int .i64 q,a4,a5,a6,a7,a8,a9,a10,a11,a12,a13,a14,a15,a16])) rfl rfl (by kernel_rfl) (by kernel_rfl) (by kernel_rfl) (by kernel_rfl) (fun _ _ _ h=>h) (yieldsIf_load_mid (by rfl) 85 (.tmp 14) rfl pb (pof+p * 17) (by rfl) [a0,.int .i64 k,.int .i64 m,.int .i64 q,a4,a5,a6,a7,a8,a9,a10,a11,a12,a13,a14,a15,a16] _ (fun w hw=>hw.2.2.2) Tryz.underlying85 rfl size_pol) (by assumption) ?_
 (try simp only[Act.put,z1,z2,z3])
 refine readyT (rs:=[10]) (by kernel_rfl) (by simp) ?_
 refine AllReadyT.cons rfl (fun K hK=>?_) ?_
 ·go_simp
  refine hK.out _ _ ?_ (fun hHeld=>?_)
  ·exact HSK.out _ ((Below.refl _ _).drew.alloc (Nat.le_refl _) _)
  clear hK K
  (try simp only[Act.put,z1,z2,z3])
  refine readyT (rs:=[11]) (by kernel_rfl) (by simp) ?_
  refine AllReadyT.consT rfl rfl (fun K hK=>?_) ?_
  ·rw[if_pos (by rfl)]
   refine wp_store_mid 85 (.tmp 5) (.tmp 15) rfl W0.heap.size 0 #[a0,.int .i64 k,.int .i64 m,.int .i64 q,a4,a5,a6,a7,a8,a9,a10,a11,a12,a13,a14,a15,a16] (by rfl) (by rfl) HTH.out size_pol HON.out ?_
   refine hK.out _ _ ?_
   clear hK K
   (try simp only[Act.put,z1,z2,z3])
   refine doneT (by kernel_rfl) ?_ _
   clear hHeld
   obtain⟨W8,hW8⟩:=zx (World.setCells ((W0.alloc (.cells #[.string ⟨#[]⟩,.int .i64 0,.int .i64 0,.int .i64 0,.int .i64 0,.int .i64 0,.int .i64 0,.int .i64 0,.int .i64 0,.slice none 0 0,.slice none 0 0,.bool false,.slice none 0 0,.slice none 0 0,.bool false,.slice none 0 0,.slice none 0 0] 85)).drew) W0.heap.size 0 [a0,.int .i64 k,.int .i64 m,.int .i64 q,a4,a5,a6,a7,a8,a9,a10,a11,a12,a13,a14,a15,a16])
   obtain⟨gp,hgp⟩:=zx W0.heap.size
   have hb8:Below W0.heap.size W0 W8:=by rw[hW8];exact below_setCellsV (Nat.le_refl _) _ _ _ ((Below.refl _ _).alloc (Nat.le_refl _) _).drew
   have hgr:W8.rangeAt gp 0 [a0,.int .i64 k,.int .i64 m,.int .i64 q,a4,a5,a6,a7,a8,a9,a10,a11,a12,a13,a14,a15,a16]:=by rw[hW8,hgp];exact World.rangeAt_setCells_same _ _ _ _ HTH.out
   have p1:W8.cell? ⟨gp,1,none⟩=some (.int .i64 k):=hgr 1 _ rfl
   have p2:W8.cell? ⟨gp,2,none⟩=some (.int .i64 m):=hgr 2 _ rfl
   have z4:=HZ4.out W8 hb8
   have HTT:=zh (there_of_block (w:=W8) (cs:=#[.int .i64 0,.int .i64 0,.int .i64 0,.bool false]) (HGR.out W8 hb8) (Nat.le_refl 4))
   have hg8:=HGR.out W8 hb8
   have HG4:=zh (show W8.cell? ⟨gr,0,none⟩=some (.int .i64 0)∧W8.cell? ⟨gr,1,none⟩=some (.int .i64 0)∧W8.cell? ⟨gr,2,none⟩=some (.int .i64 0)∧W8.cell? ⟨gr,3,none⟩=some (.bool false)∧W8.frozen? ⟨gr,0,none⟩=false∧W8.frozen? ⟨gr,1,none⟩=false∧W8.frozen? ⟨gr,2,none⟩=false∧W8.frozen? ⟨gr,3,none⟩=false from⟨by rw[cell_of_row _ _ _ _ _ _ hg8];rfl,by rw[cell_of_row _ _ _ _ _ _ hg8];rfl,by rw[cell_of_row _ _ _ _ _ _ hg8];rfl,by rw[cell_of_row _ _ _ _ _ _ hg8];rfl,frozen_of_row _ _ _ _ _ hg8,frozen_of_row _ _ _ _ _ hg8,frozen_of_row _ _ _ _ _ hg8,frozen_of_row _ _ _ _ _ hg8⟩)
   clear hg8
   have HB8:=zh hb8
   rw[←hW8,←hgp]
   clear hW8 hgp hb8 hgr
   obtain⟨g0,g1,g2,g3,f0,f1,f2,f3⟩:=HG4.out
   go_wp2_with fail
   clear g0 g1 g2 g3 f0 f1 f2 f3
   have hld:=run_loadVar_mid (P:=Tryz.prog) _ gr 0 118 _ _ (World.rangeAt_setCells_same W8 gr 0 [.int .i64 0,.int .i64 0,.int .i64 (k+m),.bool true] HTT.out) Tryz.underlying118 rfl size_tly
   (try simp only[Exit.inBlock,Exit.then])
   refine bodyPost_ret (v:=.agg #[.int .i64 0,.int .i64 0,.int .i64 (k+m),.bool true]) ?_ rfl ?_
   ·exact results_cell _ 118 4 _ _ _ ⟨gr,0,none⟩ Tryz.results51 (by rfl) hld
   ·exact⟨rfl,below_setCellsV HGE.out [.int .i64 0,.int .i64 0,.int .i64 (k+m),.bool true] 0 W8 (HB0.out.trans (HB8.out.mono HB0.out.size))⟩
  exact AllReadyT.nil
 exact AllReadyT.nil
theorem order_two(a b c d:Int) (x2 x3 x4 y2 y3 y4:Value) (w:World) (ha:0≤a∧a≤100000) (hb:0≤b∧b≤100000) (hc:0≤c∧c≤100000) (hd:0≤d∧d≤100000) :
  Calls Tryz.prog 50 #[.agg #[.int .i64 a,.int .i64 b,x2,x3,x4],.agg #[.int .i64 c,.int .i64 d,y2,y3,y4]] w fun e w'=>(∃r:Int,e=.returned (.int .i64 r)∧(0≤r↔¬(a<c∨(a=c∧b<d))))∧Below w.heap.size w w':=by
 obtain⟨ha0,ha1⟩:=ha
 obtain⟨hb0,hb1⟩:=hb
 obtain⟨hc0,hc1⟩:=hc
 obtain⟨hd0,hd1⟩:=hd
 have HBW:=zh (fun(o1 o2:Obj)=>((Below.refl w.heap.size w).alloc (Nat.le_refl _) o1).alloc (show w.heap.size≤(w.alloc o1).heap.size by simp) o2)
 by_cases h:a=c
 ·have b1:(a != c)=false:=by simpa using h
  have HR:=zh (show 0≤b - d↔¬(a<c∨(a=c∧b<d)) by omega)
  clear h
  go_enter Tryz.func50,Tryz.ntmps50
  go_wp2_with fail
  go_ret
  exact⟨⟨_,rfl,HR.out⟩,HBW.out _ _⟩
 ·have b1:(a != c)=true:=by simpa using h
  have HR:=zh (show 0≤a - c↔¬(a<c∨(a=c∧b<d)) by omega)
  clear h
  go_enter Tryz.func50,Tryz.ntmps50
  go_wp2_with fail
  go_ret
  exact⟨⟨_,rfl,HR.out⟩,HBW.out _ _⟩
theorem five_inc{cs:List Value} {x:Inc} {w:World} {R:Nat→Prop} {p o:Nat} (h:∀i c,cs[i]?=some c→w.cell? ⟨p,o+i,none⟩=some c) (e:IncK w R cs x) :
  ∃A c,w.cell? ⟨p,o,none⟩=some (.int .i64 x.vol)∧w.cell? ⟨p,o+1,none⟩=some (.int .i64 x.stripe)∧w.cell? ⟨p,o+2,none⟩=some (.bool x.lost)∧w.cell? ⟨p,o+3,none⟩=some (.int .i64 x.need)∧w.cell? ⟨p,o+4,none⟩=some (.slice A x.causes.length c)∧SlS 2 CauK w R (.slice A x.causes.length c) x.causes∧x.causes.length≤maxLen:=by
 obtain⟨cv,rfl,hs⟩:=e
 obtain⟨A,c,rfl,-,hm⟩:=hs.form
 exact⟨A,c,h 0 _ rfl,h 1 _ rfl,h 2 _ rfl,h 3 _ rfl,h 4 _ rfl,hs,hm⟩
theorem below_hotW{a b c:World} {hot:List (Option Nat)} (h:Below a.heap.size a b) (k:HotBy hot b c) (hn:∀x,some x∈hot→a.heap.size≤x):Below a.heap.size a c :=
 ⟨k.os.trans h.os,k.tape.trans h.tape,k.output.trans h.output,Nat.le_trans h.size k.size,fun x hx=>(k.block x (Nat.lt_of_lt_of_le hx h.size) (fun e=>by have:=hn x e;omega)).trans (h.block x hx)⟩
section
variable {W0 w w' : World} {gX : Nat} {vp va vo : Value} {on : List Bool}
end
end Go.Proofs.YtcfkllnpkmebpaaGreatDoor
