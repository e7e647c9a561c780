/- begin and order, walked. -/
import Derived.Deep.MidRow
import Derived.Test.YtcfkllnpkmebpaaGreatDoorMp01
import Derived.Test.YtcfkllnpkmebpaaGreatDoorMp20
import Derived.Deep.AppendLies
import Derived.Test.YtcfkllnpkmebpaaGreatDoorMp08
import Derived.Test.YtcfkllnpkmebpaaGreatDoorMp14
set_option linter.unusedSectionVars false
set_option maxRecDepth 100000
set_option maxHeartbeats 12800000
namespace Go.Proofs.YtcfkllnpkmebpaaGreatDoor
open Go.RowKit
set_option linter.unusedVariables false
set_option linter.unusedSimpArgs false
theorem size_tly:(Tryz.prog.info? 118).map (·.size)=some 4:=by kernel_rfl
theorem begin_any(ext k m q:Int) (vl vm vd a0 a4 a5 a6 a7 a8 a9 a10 a11 a12 a13 a14 a15 a16:Value) (nm:ByteArray) (Ad:Option Addr) (ND cd pb pof ob oof NP NO cp co v p:Nat) (w:World) (hv:v<NO) (hp:p<NP) (hno:NO≤1000) (hnp:NP≤1000) (hk:0≤k∧k≤1000) (hm:0≤m∧m≤1000) (hnd:1≤ND∧ND≤1000)
  (hvol:w.rangeAt ob (oof+v * 2) [.string nm,.int .i64 (p:Int)]) (hpol:w.rangeAt pb (pof+p * 17) [a0,.int .i64 k,.int .i64 m,.int .i64 q,a4,a5,a6,a7,a8,a9,a10,a11,a12,a13,a14,a15,a16]) (hone:(#[a0,.int .i64 k,.int .i64 m,.int .i64 q,a4,a5,a6,a7,a8,a9,a10,a11,a12,a13,a14,a15,a16]:Array Value).all (·.oneCell')=true) :
  Calls Tryz.prog 51 #[.agg #[.int .i64 ext,vl,vm,vd,.slice Ad ND cd,.slice (some ⟨pb,pof,none⟩) NP cp,.slice (some ⟨ob,oof,none⟩) NO co],.int .i64 (v:Int)] w fun e w'=>e=.returned (.agg #[.int .i64 0,.int .i64 0,.int .i64 (k+m),.bool true])∧Below w.heap.size w w':=by
 obtain⟨W0,hW0⟩:=zx ((w.alloc (.cells #[.int .i64 ext,vl,vm,vd,.slice Ad ND cd,.slice (some ⟨pb,pof,none⟩) NP cp,.slice (some ⟨ob,oof,none⟩) NO co] 35)).alloc (.cells #[.int .i64 0,.int .i64 0,.int .i64 0,.bool false] 118));obtain⟨z,hz⟩:=zx w.heap.size;obtain⟨gr,hgr⟩:=zx (w.heap.size+1)
 have hb0:Below w.heap.size w W0:=by rw[hW0];exact((Below.refl _ _).alloc (Nat.le_refl _) _).alloc (by simp) _
 have hrk:W0.heap[gr]?=some (.cells #[.int .i64 0,.int .i64 0,.int .i64 0,.bool false] 118 (0,0)):=by
  rw[hW0];exact heap_alloc_at _ _ _ (by rw[hgr];simp)
 have hzk:W0.heap[z]?=some (.cells #[.int .i64 ext,vl,vm,vd,.slice Ad ND cd,.slice (some ⟨pb,pof,none⟩) NP cp,.slice (some ⟨ob,oof,none⟩) NO co] 35 (0,0)):=by
  rw[hW0,hz];exact(Below.heap_alloc _ _ _ (by simp)).trans (heap_alloc_new w _)
 have hzl:z<W0.heap.size:=(Array.getElem?_eq_some_iff.1 hzk).1;have hrl:gr<W0.heap.size:=(Array.getElem?_eq_some_iff.1 hrk).1;have hob:ob<w.heap.size:=World.block_lt_of_cell? w _ (hvol 0 _ rfl);have hpb:pb<w.heap.size:=World.block_lt_of_cell? w _ (hpol 0 _ rfl);have HZ4:=zh (fun(w':World) (hb:Below W0.heap.size W0 w')=>(cells7 ((hb.block z hzl).trans hzk)).2.2.2.2.1);have HGR:=zh (fun(w':World) (hb:Below W0.heap.size W0 w')=>(hb.block gr hrl).trans hrk)
 have HSK:=zh (fun(w':World) (hb:Below W0.heap.size W0 w')=>(show w'.cell? ⟨z,5,none⟩=some (.slice (some ⟨pb,pof,none⟩) NP cp)∧w'.cell? ⟨z,6,none⟩=some (.slice (some ⟨ob,oof,none⟩) NO co)∧w'.cell? ⟨ob,oof+v * 2+1,none⟩=some (.int .i64 (p:Int))∧w'.rangeAt pb (pof+p * 17) [a0,.int .i64 k,.int .i64 m,.int .i64 q,a4,a5,a6,a7,a8,a9,a10,a11,a12,a13,a14,a15,a16] from by
  obtain⟨-,-,-,-,-,x5,x6⟩:=cells7 ((hb.block z hzl).trans hzk);have hbw:=hb0.trans (hb.mono hb0.size)
  exact⟨x5,x6,range_same hvol (hbw.block ob hob) 1 _ rfl,range_same hpol (hbw.block pb hpb)⟩))
 have HTH:=zh (show((W0.alloc (.cells #[.string ⟨#[]⟩,.int .i64 0,.int .i64 0,.int .i64 0,.int .i64 0,.int .i64 0,.int .i64 0,.int .i64 0,.int .i64 0,.slice none 0 0,.slice none 0 0,.bool false,.slice none 0 0,.slice none 0 0,.bool false,.slice none 0 0,.slice none 0 0] 85)).drew).there W0.heap.size 0 17 from there_of_block (w:=(W0.alloc (.cells #[.string ⟨#[]⟩,.int .i64 0,.int .i64 0,.int .i64 0,.int .i64 0,.int .i64 0,.int .i64 0,.int .i64 0,.int .i64 0,.slice none 0 0,.slice none 0 0,.bool false,.slice none 0 0,.slice none 0 0,.bool false,.slice none 0 0,.slice none 0 0] 85)).drew) (cs:=#[.string ⟨#[]⟩,.int .i64 0,.int .i64 0,.int .i64 0,.int .i64 0,.int .i64 0,.int .i64 0,.int .i64 0,.int .i64 0,.slice none 0 0,.slice none 0 0,.bool false,.slice none 0 0,.slice none 0 0,.bool false,.slice none 0 0,.slice none 0 0]) (heap_alloc_new W0 _) (Nat.le_refl 17));have HON:=zh hone;have HW0:=zh hW0;have HZ:=zh (And.intro hz hgr);have HB0:=zh hb0;have HGE:=zh (show w.heap.size≤gr by omega);obtain⟨hk0,hk1⟩:=hk;obtain⟨hm0,hm1⟩:=hm
 have i1:(v:Int)<(NO:Int):=by omega
 have i2:(p:Int)<(NP:Int):=by omega
 have t1:decide (0<ND)=true:=decide_eq_true hnd.1
 have i3:(ND:Int)≤1000:=by omega
 clear hvol hpol hone hW0 hz hgr hb0 hrk hzk hzl hrl hob hpb hv hp hnd;go_enter Tryz.func51,Tryz.ntmps51;go_upto_region 1 with fail;rw[←HW0.out,←HZ.out.2,←HZ.out.1];refine region_tail (S:=(fun w'=>w'.cell? ⟨z,5,none⟩=some (.slice (some ⟨pb,pof,none⟩) NP cp)∧w'.cell? ⟨z,6,none⟩=some (.slice (some ⟨ob,oof,none⟩) NO co)∧w'.cell? ⟨ob,oof+v * 2+1,none⟩=some (.int .i64 (p:Int))∧w'.rangeAt pb (pof+p * 17) [a0,.int .i64 k,.int .i64 m,.int .i64 q,a4,a5,a6,a7,a8,a9,a10,a11,a12,a13,a14,a15,a16])) [11] (by kernel_rfl) (HSK.out _ (Below.refl _ _).drew) (fun hHeld=>?_);refine tk 0 6 ?_;refine tk 1 7 ?_;refine tk 2 8 ?_;refine tk 3 9 ?_;refine tk 4 10 ?_;refine tk 5 11 ?_;refine tk 6 12 ?_;refine tk 7 13 ?_;refine tk 8 14 ?_;refine takeT (i:=9) (d:=15) (v:=(.agg #[a0,.int .i64 k,.int .i64 m,.int .i64 q,a4,a5,a6,a7,a8,a9,a10,a11,a12,a13,a14,a15,a16])) rfl rfl (by kernel_rfl) (by kernel_rfl) (by kernel_rfl) (by kernel_rfl) (fun _ _ _ h=>h) (yieldsIf_load_mid (by rfl) 85 (.tmp 14) rfl pb (pof+p * 17) (by rfl) [a0,.int .i64 k,.int .i64 m,.int .i64 q,a4,a5,a6,a7,a8,a9,a10,a11,a12,a13,a14,a15,a16] _ (fun w hw=>hw.2.2.2) Tryz.underlying85 rfl size_pol) (by assumption) ?_;(try simp only[Act.put,z1,z2,z3]);refine readyT (rs:=[10]) (by kernel_rfl) (by simp) ?_;refine AllReadyT.cons rfl (fun K hK=>?_) ?_
 ·go_simp;refine hK.out _ _ ?_ (fun hHeld=>?_)
  ·exact HSK.out _ ((Below.refl _ _).drew.alloc (Nat.le_refl _) _)
  clear hK K;(try simp only[Act.put,z1,z2,z3]);refine readyT (rs:=[11]) (by kernel_rfl) (by simp) ?_;refine AllReadyT.consT rfl rfl (fun K hK=>?_) ?_
  ·rw[if_pos (by rfl)];refine wp_store_mid 85 (.tmp 5) (.tmp 15) rfl W0.heap.size 0 #[a0,.int .i64 k,.int .i64 m,.int .i64 q,a4,a5,a6,a7,a8,a9,a10,a11,a12,a13,a14,a15,a16] (by rfl) (by rfl) HTH.out size_pol HON.out ?_;refine hK.out _ _ ?_;clear hK K;(try simp only[Act.put,z1,z2,z3]);refine doneT (by kernel_rfl) ?_ _;clear hHeld;obtain⟨W8,hW8⟩:=zx (World.setCells ((W0.alloc (.cells #[.string ⟨#[]⟩,.int .i64 0,.int .i64 0,.int .i64 0,.int .i64 0,.int .i64 0,.int .i64 0,.int .i64 0,.int .i64 0,.slice none 0 0,.slice none 0 0,.bool false,.slice none 0 0,.slice none 0 0,.bool false,.slice none 0 0,.slice none 0 0] 85)).drew) W0.heap.size 0 [a0,.int .i64 k,.int .i64 m,.int .i64 q,a4,a5,a6,a7,a8,a9,a10,a11,a12,a13,a14,a15,a16]);obtain⟨gp,hgp⟩:=zx W0.heap.size
   have hb8:Below W0.heap.size W0 W8:=by rw[hW8];exact below_setCellsV (Nat.le_refl _) _ _ _ ((Below.refl _ _).alloc (Nat.le_refl _) _).drew
   have hgr:W8.rangeAt gp 0 [a0,.int .i64 k,.int .i64 m,.int .i64 q,a4,a5,a6,a7,a8,a9,a10,a11,a12,a13,a14,a15,a16]:=by rw[hW8,hgp];exact World.rangeAt_setCells_same _ _ _ _ HTH.out
   have p1:W8.cell? ⟨gp,1,none⟩=some (.int .i64 k):=hgr 1 _ rfl;have p2:W8.cell? ⟨gp,2,none⟩=some (.int .i64 m):=hgr 2 _ rfl;have z4:=HZ4.out W8 hb8;have HTT:=zh (there_of_block (w:=W8) (cs:=#[.int .i64 0,.int .i64 0,.int .i64 0,.bool false]) (HGR.out W8 hb8) (Nat.le_refl 4));have hg8:=HGR.out W8 hb8;have HG4:=zh (show W8.cell? ⟨gr,0,none⟩=some (.int .i64 0)∧W8.cell? ⟨gr,1,none⟩=some (.int .i64 0)∧W8.cell? ⟨gr,2,none⟩=some (.int .i64 0)∧W8.cell? ⟨gr,3,none⟩=some (.bool false)∧W8.frozen? ⟨gr,0,none⟩=false∧W8.frozen? ⟨gr,1,none⟩=false∧W8.frozen? ⟨gr,2,none⟩=false∧W8.frozen? ⟨gr,3,none⟩=false from⟨by rw[cell_of_row _ _ _ _ _ _ hg8];rfl,by rw[cell_of_row _ _ _ _ _ _ hg8];rfl,by rw[cell_of_row _ _ _ _ _ _ hg8];rfl,by rw[cell_of_row _ _ _ _ _ _ hg8];rfl,frozen_of_row _ _ _ _ _ hg8,frozen_of_row _ _ _ _ _ hg8,frozen_of_row _ _ _ _ _ hg8,frozen_of_row _ _ _ _ _ hg8⟩);clear hg8;have HB8:=zh hb8;rw[←hW8,←hgp];clear hW8 hgp hb8 hgr;obtain⟨g0,g1,g2,g3,f0,f1,f2,f3⟩:=HG4.out;go_wp2_with fail;clear g0 g1 g2 g3 f0 f1 f2 f3;have hld:=run_loadVar_mid (P:=Tryz.prog) _ gr 0 118 _ _ (World.rangeAt_setCells_same W8 gr 0 [.int .i64 0,.int .i64 0,.int .i64 (k+m),.bool true] HTT.out) Tryz.underlying118 rfl size_tly;(try simp only[Exit.inBlock,Exit.then]);refine bodyPost_ret (v:=.agg #[.int .i64 0,.int .i64 0,.int .i64 (k+m),.bool true]) ?_ rfl ?_
   ·exact results_cell _ 118 4 _ _ _ ⟨gr,0,none⟩ Tryz.results51 (by rfl) hld
   ·exact⟨rfl,below_setCellsV HGE.out [.int .i64 0,.int .i64 0,.int .i64 (k+m),.bool true] 0 W8 (HB0.out.trans (HB8.out.mono HB0.out.size))⟩
  exact AllReadyT.nil
 exact AllReadyT.nil
theorem order_two(a b c d:Int) (x2 x3 x4 y2 y3 y4:Value) (w:World) (ha:0≤a∧a≤100000) (hb:0≤b∧b≤100000) (hc:0≤c∧c≤100000) (hd:0≤d∧d≤100000) :
  Calls Tryz.prog 50 #[.agg #[.int .i64 a,.int .i64 b,x2,x3,x4],.agg #[.int .i64 c,.int .i64 d,y2,y3,y4]] w fun e w'=>(∃r:Int,e=.returned (.int .i64 r)∧(0≤r↔¬(a<c∨(a=c∧b<d))))∧Below w.heap.size w w':=by
 obtain⟨ha0,ha1⟩:=ha;obtain⟨hb0,hb1⟩:=hb;obtain⟨hc0,hc1⟩:=hc;obtain⟨hd0,hd1⟩:=hd;have HBW:=zh (fun(o1 o2:Obj)=>((Below.refl w.heap.size w).alloc (Nat.le_refl _) o1).alloc (show w.heap.size≤(w.alloc o1).heap.size by simp) o2);by_cases h:a=c
 ·have b1:(a != c)=false:=by simpa using h
  have HR:=zh (show 0≤b - d↔¬(a<c∨(a=c∧b<d)) by omega);clear h;go_enter Tryz.func50,Tryz.ntmps50;go_wp2_with fail;go_ret;exact⟨⟨_,rfl,HR.out⟩,HBW.out _ _⟩
 ·have b1:(a != c)=true:=by simpa using h
  have HR:=zh (show 0≤a - c↔¬(a<c∨(a=c∧b<d)) by omega);clear h;go_enter Tryz.func50,Tryz.ntmps50;go_wp2_with fail;go_ret;exact⟨⟨_,rfl,HR.out⟩,HBW.out _ _⟩
theorem below_hotW{a b c:World} {hot:List (Option Nat)} (h:Below a.heap.size a b) (k:HotBy hot b c) (hn:∀x,some x∈hot→a.heap.size≤x):Below a.heap.size a c :=
 ⟨k.os.trans h.os,k.tape.trans h.tape,k.output.trans h.output,Nat.le_trans h.size k.size,fun x hx=>(k.block x (Nat.lt_of_lt_of_le hx h.size) (fun e=>by have:=hn x e;omega)).trans (h.block x hx)⟩
section
variable {W0 w w' : World} {gX : Nat} {vp va vo : Value} {on : List Bool}
end
theorem ok_one{F:FltM} {l:List Inc} {i:Nat} (h:oneB F l[i]! = false):okAt F l i=false:=by unfold okAt;rw[h];rfl
theorem cauOk_bad{ND:Nat} {s d:Int} (h1:s≠1) (h2:s≠2) (h3:s≠3) (h4:s≠4):cauOk ND ⟨s,d⟩=false:=by
 unfold cauOk;simp only;rw[if_neg (by omega),decide_eq_false h4];rfl
theorem cauOk_drv{ND:Nat} {s d:Int} (h:s=1∨s=2∨s=3):cauOk ND ⟨s,d⟩=(decide (0≤d)&&decide (d<(ND:Int))):=by unfold cauOk;simp only;rw[if_pos h]
theorem cauOk_gone{ND:Nat} {d:Int}:cauOk ND ⟨4,d⟩=decide (d = -1):=by unfold cauOk;simp only;rw[if_neg (by omega)];simp
theorem ret_i{a b:Int} (h:a=b):Value.int .i64 a=Value.int .i64 b:=by rw[h]
theorem one_any(EX:Int) (vl vm vd:Value) (F:FltM) (Ad:Option Addr) (cd pb pof ob oof cp co CN cx ND NO NP:Nat) (Ax:Option Addr) (xv xs xn:Int) (xl:Bool) (xc:List Cau) (w:World) (hext:EX=F.ext) (hND:ND=F.dves.length) (hNO:NO=F.vols.length) (hNP:NP=F.pols.length) (hN1:EX=1∨EX=2) (hN2:ND≤1000) (hN3:NO≤1000) (hN4:NP≤1000)
  (hk:∀v,v<F.vols.length→(kOf F v=1∨kOf F v=2)∧0≤mOf F v∧mOf F v≤2)
  (hpw:∀w',Below w.heap.size w w'→∀v,v<F.vols.length→volP F v<F.pols.length∧∃nm a0 a4 a5 a6 a7 a8 a9 a10 a11 a12 a13 a14 a15 a16,w'.rangeAt ob (oof+v * 2) [.string nm,.int .i64 (volP F v:Int)]∧w'.rangeAt pb (pof+volP F v * 17) [a0,.int .i64 (kOf F v),.int .i64 (mOf F v),.int .i64 (qOf F v),a4,a5,a6,a7,a8,a9,a10,a11,a12,a13,a14,a15,a16]∧(#[a0,.int .i64 (kOf F v),.int .i64 (mOf F v),.int .i64 (qOf F v),a4,a5,a6,a7,a8,a9,a10,a11,a12,a13,a14,a15,a16]:Array Value).all (·.oneCell')=true)
  (hcn:CN=xc.length) (hsl:SlS 2 CauK w (Bl w.heap.size) (.slice Ax CN cx) xc) (hcl:CN≤1000) :
  Calls Tryz.prog 55 #[.agg #[.int .i64 EX,vl,vm,vd,.slice Ad ND cd,.slice (some ⟨pb,pof,none⟩) NP cp,.slice (some ⟨ob,oof,none⟩) NO co],.agg #[.int .i64 xv,.int .i64 xs,.bool xl,.int .i64 xn,.slice Ax CN cx]] w fun e w'=>e=.returned (.bool (oneB F ⟨xv,xs,xl,xn,xc⟩))∧Below w.heap.size w w':=by
 obtain⟨W0,hW0⟩:=zx ((w.alloc (.cells #[.int .i64 EX,vl,vm,vd,.slice Ad ND cd,.slice (some ⟨pb,pof,none⟩) NP cp,.slice (some ⟨ob,oof,none⟩) NO co] 35)).alloc (.cells #[.int .i64 xv,.int .i64 xs,.bool xl,.int .i64 xn,.slice Ax CN cx] 27));obtain⟨z,hz⟩:=zx w.heap.size;obtain⟨y,hy⟩:=zx (w.heap.size+1)
 have hb0:Below w.heap.size w W0:=by rw[hW0];exact((Below.refl _ _).alloc (Nat.le_refl _) _).alloc (by simp) _
 have hyk:W0.heap[y]?=some (.cells #[.int .i64 xv,.int .i64 xs,.bool xl,.int .i64 xn,.slice Ax CN cx] 27 (0,0)):=by
  rw[hW0];exact heap_alloc_at _ _ _ (by rw[hy];simp)
 have hzk:W0.heap[z]?=some (.cells #[.int .i64 EX,vl,vm,vd,.slice Ad ND cd,.slice (some ⟨pb,pof,none⟩) NP cp,.slice (some ⟨ob,oof,none⟩) NO co] 35 (0,0)):=by
  rw[hW0,hz];exact(Below.heap_alloc _ _ _ (by simp)).trans (heap_alloc_new w _)
 have hyl:y<W0.heap.size:=(Array.getElem?_eq_some_iff.1 hyk).1;have hzl:z<W0.heap.size:=(Array.getElem?_eq_some_iff.1 hzk).1;have HC:=zh (fun(w':World) (hb:Below W0.heap.size W0 w')=>cells7 ((hb.block z hzl).trans hzk))
 have HX:=zh (fun(w':World) (hb:Below W0.heap.size W0 w')=>(show w'.cell? ⟨y,0,none⟩=some (.int .i64 xv)∧w'.cell? ⟨y,1,none⟩=some (.int .i64 xs)∧w'.cell? ⟨y,2,none⟩=some (.bool xl)∧w'.cell? ⟨y,3,none⟩=some (.int .i64 xn)∧w'.cell? ⟨y,4,none⟩=some (.slice Ax CN cx) from by
  have h1:=(hb.block y hyl).trans hyk
  exact⟨by rw[cell_of_row _ _ _ _ _ _ h1];rfl,by rw[cell_of_row _ _ _ _ _ _ h1];rfl,by rw[cell_of_row _ _ _ _ _ _ h1];rfl,by rw[cell_of_row _ _ _ _ _ _ h1];rfl,by rw[cell_of_row _ _ _ _ _ _ h1];rfl⟩))
 have HRE:=zh (fun(w':World) (hb:Below W0.heap.size W0 w')=>hb0.trans (hb.mono hb0.size));have HSL:=zh (fun(w':World) (hb:Below w.heap.size w w')=>(show SlS 2 CauK w' (Bl w.heap.size) (.slice Ax CN cx) xc from SlS.keep cauK hsl (fun b h=>hb.block b h)));obtain⟨R,hR⟩:=zx (oneB F ⟨xv,xs,xl,xn,xc⟩);rw[←hR];obtain⟨B1,hB1⟩:=zx (isStr NO EX xv xs);have HRB:=zh (show R=(B1&&(decide (xn=kOf F xv.toNat)&&(xc.all (cauOk ND)&&finB (kOf F xv.toNat) (mOf F xv.toNat) xn xl xc))) from by rw[hR,hB1];unfold oneB;simp only[hext,hND,hNO]);have HB1:=zh hB1;have HW0:=zh hW0;have HZ:=zh (And.intro hz hy);have HB0:=zh hb0;have HK:=zh hk;have HPW:=zh hpw;have HE:=zh (And.intro hNO hNP);have HCN:=zh hcn;obtain⟨c0,c1,c2,c3,c4,c5,c6⟩:=HC.out W0 (Below.refl _ _);obtain⟨x0,x1,x2,x3,x4⟩:=HX.out W0 (Below.refl _ _);clear hW0 hz hy hb0 hyk hzk hyl hzl hext hND hNO hNP hk hpw hcn hsl hR hB1;go_enter Tryz.func55,Tryz.ntmps55;go_upto_region 1 with fail;rw[←HW0.out,←HZ.out.2,←HZ.out.1];go_cut [32] from 10 to 32 (fun v32 wc=>v32=.bool (!B1)∧W0=wc)
 case first =>
  by_cases h1:xv<0
  ·have t1:decide (xv<0)=true:=decide_eq_true h1;have HB:=zh (show(!B1)=true by rw[HB1.out];unfold isStr;rw[decide_eq_false (by omega)];rfl);go_wp2_with fail;go_meet;exact⟨by rw[HB.out],rfl⟩
  have t1:decide (xv<0)=false:=decide_eq_false h1;by_cases h2:(NO:Int)≤xv
  ·have t2:decide ((NO:Int)≤xv)=true:=decide_eq_true h2;have HB:=zh (show(!B1)=true by rw[HB1.out];unfold isStr;rw[decide_eq_false (by omega)];rfl);go_wp2_with fail;go_meet;exact⟨by rw[HB.out],rfl⟩
  have t2:decide ((NO:Int)≤xv)=false:=decide_eq_false h2;by_cases h3:xs<0
  ·have t3:decide (xs<0)=true:=decide_eq_true h3;have HB:=zh (show(!B1)=true by rw[HB1.out];unfold isStr;rw[decide_eq_false (by omega)];rfl);go_wp2_with fail;go_meet;exact⟨by rw[HB.out],rfl⟩
  have t3:decide (xs<0)=false:=decide_eq_false h3;by_cases h4:EX≤xs
  ·have t4:decide (EX≤xs)=true:=decide_eq_true h4;have HB:=zh (show(!B1)=true by rw[HB1.out];unfold isStr;rw[decide_eq_false (by omega)];rfl);go_wp2_with fail;go_meet;exact⟨by rw[HB.out],rfl⟩
  have t4:decide (EX≤xs)=false:=decide_eq_false h4;have HB:=zh (show(!B1)=false by rw[HB1.out];unfold isStr;rw[decide_eq_true (by omega)];rfl);go_wp2_with fail;go_meet;exact⟨by rw[HB.out],rfl⟩
 case rest =>
  obtain⟨rfl,rfl⟩:=hcut
  cases B1 with
  | false =>
   have HR:=zh (show R=false by rw[HRB.out];rfl);go_wp2_with fail;go_ret;exact⟨ret_b HR.out.symm,HB0.out⟩
  | true =>
   obtain⟨⟨hv0,hv1⟩,⟨hs0,hs1⟩⟩:=(isStr_iff NO EX xv xs).1 HB1.out.symm;obtain⟨v,rfl⟩:∃v:Nat,xv=(v:Int):=⟨xv.toNat,by omega⟩
   have hvF:v<F.vols.length:=by rw[←HE.out.1];omega
   obtain⟨hk12,hm0,hm2⟩:=HK.out v hvF;obtain⟨hpl,nm,a0,a4,a5,a6,a7,a8,a9,a10,a11,a12,a13,a14,a15,a16,hvol,hpol,hone⟩:=HPW.out W0 HB0.out v hvF;have hrb:=HRB.out;rw[Int.toNat_natCast] at hrb;obtain⟨KN,hKN⟩:=zx (kOf F v);obtain⟨MM,hMM⟩:=zx (mOf F v);obtain⟨QQ,hQQ⟩:=zx (qOf F v);rw[←hKN] at hk12 hpol hone hrb;rw[←hMM] at hm0 hm2 hpol hone hrb;rw[←hQQ] at hpol hone;have HR2:=zh (show R=(decide (xn=KN)&&(xc.all (cauOk ND)&&finB KN MM xn xl xc)) from by rw[hrb,Bool.true_and]);have HPO:=zh (rpolicy44_any EX KN MM QQ vl vm vd (.slice Ad ND cd) a0 a4 a5 a6 a7 a8 a9 a10 a11 a12 a13 a14 a15 a16 nm pb pof ob oof NP NO cp co v (volP F v) W0 (by omega) (by rw[HE.out.2];exact hpl) hN3 hN4 hvol hpol hone);have HON:=zh hone;have hkm:IntKind.i64.wrap (KN+MM)=KN+MM:=IntWalk.i64_in _ (by omega);clear hv0 hs0 hvF hpl hvol hpol hone hKN hMM hQQ hrb;go_wp2_with fail;refine HPO.out.mono ?_;rintro e w5 ⟨rfl,hb5⟩;have HB5:=zh hb5;have HTH:=zh (show(w5.alloc (.cells #[.string ⟨#[]⟩,.int .i64 0,.int .i64 0,.int .i64 0,.int .i64 0,.int .i64 0,.int .i64 0,.int .i64 0,.int .i64 0,.slice none 0 0,.slice none 0 0,.bool false,.slice none 0 0,.slice none 0 0,.bool false,.slice none 0 0,.slice none 0 0] 85)).there w5.heap.size 0 17 from there_of_block (w:=w5.alloc (.cells #[.string ⟨#[]⟩,.int .i64 0,.int .i64 0,.int .i64 0,.int .i64 0,.int .i64 0,.int .i64 0,.int .i64 0,.int .i64 0,.slice none 0 0,.slice none 0 0,.bool false,.slice none 0 0,.slice none 0 0,.bool false,.slice none 0 0,.slice none 0 0] 85)) (cs:=#[.string ⟨#[]⟩,.int .i64 0,.int .i64 0,.int .i64 0,.int .i64 0,.int .i64 0,.int .i64 0,.int .i64 0,.int .i64 0,.slice none 0 0,.slice none 0 0,.bool false,.slice none 0 0,.slice none 0 0,.bool false,.slice none 0 0,.slice none 0 0]) (heap_alloc_new w5 _) (Nat.le_refl 17));clear hb5 c0 c1 c2 c3 c4 c5 c6 x0 x1 x2 x3 x4;go_upto_region 4 with (refine wpList_store_mid rfl 85 (.tmp 5) (.tmp 36) rfl w5.heap.size 0 #[a0,.int .i64 KN,.int .i64 MM,.int .i64 QQ,a4,a5,a6,a7,a8,a9,a10,a11,a12,a13,a14,a15,a16] (by rfl) (by rfl) HTH.out size_pol HON.out ?_);obtain⟨W8,hW8⟩:=zx (World.setCells (w5.alloc (.cells #[.string ⟨#[]⟩,.int .i64 0,.int .i64 0,.int .i64 0,.int .i64 0,.int .i64 0,.int .i64 0,.int .i64 0,.int .i64 0,.slice none 0 0,.slice none 0 0,.bool false,.slice none 0 0,.slice none 0 0,.bool false,.slice none 0 0,.slice none 0 0] 85)) w5.heap.size 0 [a0,.int .i64 KN,.int .i64 MM,.int .i64 QQ,a4,a5,a6,a7,a8,a9,a10,a11,a12,a13,a14,a15,a16]);obtain⟨gp,hgp⟩:=zx w5.heap.size
   have hb8:Below w5.heap.size w5 W8:=by rw[hW8];exact below_setCellsV (Nat.le_refl _) _ _ _ ((Below.refl _ _).alloc (Nat.le_refl _) _)
   have hgr:W8.rangeAt gp 0 [a0,.int .i64 KN,.int .i64 MM,.int .i64 QQ,a4,a5,a6,a7,a8,a9,a10,a11,a12,a13,a14,a15,a16]:=by rw[hW8,hgp];exact World.rangeAt_setCells_same _ _ _ _ HTH.out
   have p1:W8.cell? ⟨gp,1,none⟩=some (.int .i64 KN):=hgr 1 _ rfl;have p2:W8.cell? ⟨gp,2,none⟩=some (.int .i64 MM):=hgr 2 _ rfl;have HB8:=zh (HB5.out.trans (hb8.mono HB5.out.size));obtain⟨x0,x1,x2,x3,x4⟩:=HX.out W8 HB8.out;rw[←hW8,←hgp];(try simp only[Act.put,z1,z2,z3]);clear hW8 hgp hb8 hgr HTH HPO HON;by_cases hnd:xn=KN
   case neg =>
    have b1:(xn != KN)=true:=by simpa using hnd
    have HR:=zh (show R=false by rw[HR2.out,decide_eq_false hnd];rfl);clear hnd;go_wp2_with fail;go_ret;exact⟨ret_b HR.out.symm,HRE.out _ HB8.out⟩
   have b1:(xn != KN)=false:=by simpa using hnd
   have HR3:=zh (show R=(xc.all (cauOk ND)&&finB KN MM xn xl xc) from by rw[HR2.out,decide_eq_true hnd,Bool.true_and]);by_cases hln:(CN:Int)=KN+MM
   case neg =>
    have b2:((CN:Int) != KN+MM)=true:=by simpa using hln
    have HR:=zh (show R=false by rw[HR3.out,fin_no _ _ _ _ _ (by rw[←HCN.out];exact hln),Bool.and_false]);clear hln hnd;go_wp2_with fail;go_ret;exact⟨ret_b HR.out.symm,HRE.out _ HB8.out⟩
   have b2:((CN:Int) != KN+MM)=false:=by simpa using hln
   have HFN:=zh (show finB KN MM xn xl xc=(decide (sumG xc<xn)&&(xl==decide (sumG xc+sumA xc<xn))) from by unfold finB;rw[←HCN.out,decide_eq_true hln,Bool.true_and]);clear hnd hln;go_wp2_with fail;clear p1 p2 b1 b2 x0 x1 x2 x3 x4;go_loopg [6,7,8] CN (fun z7 v6 v7 v8 wr=>∃j:Nat,v6=.int .i64 (sumG (xc.take j))∧v7=.int .i64 (sumA (xc.take j))∧v8=.int .i64 (j:Int)∧j≤CN∧z7=CN - j∧Hid (∀c∈xc.take j,cauOk ND c=true)∧Hid (Below W8.heap.size W8 wr))
   case atStart=>exact⟨0,rfl,rfl,rfl,Nat.zero_le _,rfl,zh (fun c hc=>by simp at hc),zh (Below.refl _ _)⟩
   case round =>
    obtain⟨j,rfl,rfl,rfl,hj,rfl,HCJ,HBJ⟩:=hrel;have HBW:=zh (HB8.out.trans (HBJ.out.mono HB8.out.size));obtain⟨x0,x1,x2,x3,x4⟩:=HX.out wr HBW.out;by_cases hlj:j<CN
    ·have HLJ:=zh hlj
     have hjl:j<xc.length:=by rw[←HCN.out];exact hlj
     obtain⟨q,qo,qs,hQ,-,-,hqc,hqs⟩:=(HSL.out wr (HRE.out wr HBW.out)).at_ (k:=j) hjl;subst hQ;have htg:=takeG hjl;have hta:=takeA hjl;have htk:xc.take (j+1)=xc.take j++[xc[j]]:=List.take_succ_eq_append_getElem hjl;have HMEM:=zh (show xc[j]∈xc from List.getElem_mem hjl);have hgb:=sumG_bd (xc.take j);have hab:=sumA_bd (xc.take j)
     have htl:((xc.take j).length:Int)≤1000:=by rw[List.length_take];omega
     obtain⟨c,hc⟩:=zx (xc[j]);rw[←hc] at hqs htg hta htk HMEM;obtain⟨e0,e1⟩:=two_cau hqc hqs;obtain⟨st,dr⟩:=c;simp only at e0 e1 htg hta;obtain⟨SG,hSG⟩:=zx (sumG (xc.take j));obtain⟨SA,hSA⟩:=zx (sumA (xc.take j));rw[←hSG] at hgb htg ⊢;rw[←hSA] at hab hta ⊢;obtain⟨g0,g1⟩:=hgb;obtain⟨a0',a1'⟩:=hab
     have g2:SG≤1000:=by omega
     have a2':SA≤1000:=by omega
     have HTG:=zh htg;have HTA:=zh hta;have HTK:=zh htk
     have HNEXT:=zh (fun(h:cauOk ND ⟨st,dr⟩=true)=>(show ∀c∈xc.take (j+1),cauOk ND c=true from fun c hc=>by
      rw[htk,List.mem_append,List.mem_singleton] at hc;rcases hc with hc | hc
      ·exact HCJ.out c hc
      ·rw[hc];exact h))
     have HBAD:=zh (fun(h:cauOk ND ⟨st,dr⟩=false)=>(show R=false from by
      have:xc.all (cauOk ND)=false:=by rw[List.all_eq_false];exact⟨_,HMEM.out,by rw[h];simp⟩
      rw[HR3.out,this];rfl))
     obtain⟨W11,hW11⟩:=zx (wr.alloc (.cells #[.int .i64 st,.int .i64 dr] 102));obtain⟨gz,hgz⟩:=zx wr.heap.size
     have hb11:Below wr.heap.size wr W11:=by rw[hW11];exact(Below.refl _ _).alloc (Nat.le_refl _) _
     have hzk:W11.heap[gz]?=some (.cells #[.int .i64 st,.int .i64 dr] 102 (0,0)):=by rw[hW11,hgz];exact heap_alloc_new wr _
     have q0:W11.cell? ⟨gz,0,none⟩=some (.int .i64 st):=by rw[cell_of_row _ _ _ _ _ _ hzk];rfl
     have q1:W11.cell? ⟨gz,1,none⟩=some (.int .i64 dr):=by rw[cell_of_row _ _ _ _ _ _ hzk];rfl
     obtain⟨-,-,-,-,c4,-,-⟩:=HC.out W11 (HBW.out.trans (hb11.mono HBW.out.size));have HBE:=zh (HRE.out _ (HBW.out.trans (hb11.mono HBW.out.size)));have HBN:=zh (HBJ.out.trans (hb11.mono HBJ.out.size));have HW11:=zh hW11;have HGZ:=zh hgz;clear hqc hqs hc hjl htg hta htk hSG hSA htl g1 a1' hW11 hgz hb11 hzk;go_upto_region 11 with fail;rw[←HW11.out,←HGZ.out];clear e0 e1 x0 x1 x2 x3 x4;by_cases hs1':st=1
     ·by_cases hd1:dr = -1
      ·have HR:=zh (HBAD.out (by rw[cauOk_drv (.inl hs1'),decide_eq_false (by omega)];rfl));subst hs1';subst hd1;go_wp2_with fail;go_ret;exact⟨ret_b HR.out.symm,HBE.out⟩
      have d1:(dr == -1)=false:=by simpa using hd1
      by_cases hd2:dr < -1
      ·have d2:decide (dr < -1)=true:=decide_eq_true hd2;have HR:=zh (HBAD.out (by rw[cauOk_drv (.inl hs1'),decide_eq_false (by omega)];rfl));subst hs1';go_wp2_with fail;go_ret;exact⟨ret_b HR.out.symm,HBE.out⟩
      have d2:decide (dr < -1)=false:=decide_eq_false hd2;by_cases hd3:(ND:Int)≤dr
      ·have d3:decide ((ND:Int)≤dr)=true:=decide_eq_true hd3;have HR:=zh (HBAD.out (by rw[cauOk_drv (.inl hs1'),decide_eq_false (show ¬dr<(ND:Int) by omega),Bool.and_false]));subst hs1';go_wp2_with fail;go_ret;exact⟨ret_b HR.out.symm,HBE.out⟩
      have d3:decide ((ND:Int)≤dr)=false:=decide_eq_false hd3;have HN:=zh (HNEXT.out (by rw[cauOk_drv (.inl hs1'),decide_eq_true (by omega),decide_eq_true (by omega)];rfl));subst hs1';go_wp2_with fail;go_roundg (CN - (j+1))
      case measure=>have:=HLJ.out;omega
      case rel=>exact⟨j+1,ret_i (by rw[HTG.out];rfl),ret_i (by rw[HTA.out];exact(Int.add_zero _).symm),by go_num,by have:=HLJ.out;omega,rfl,HN,zh HBN.out⟩
     by_cases hs2':st=2
     ·by_cases hd1:dr = -1
      ·have HR:=zh (HBAD.out (by rw[cauOk_drv (.inr (.inl hs2')),decide_eq_false (by omega)];rfl));clear hs1';subst hs2';subst hd1;go_wp2_with fail;go_ret;exact⟨ret_b HR.out.symm,HBE.out⟩
      have d1:(dr == -1)=false:=by simpa using hd1
      by_cases hd2:dr < -1
      ·have d2:decide (dr < -1)=true:=decide_eq_true hd2;have HR:=zh (HBAD.out (by rw[cauOk_drv (.inr (.inl hs2')),decide_eq_false (by omega)];rfl));clear hs1';subst hs2';go_wp2_with fail;go_ret;exact⟨ret_b HR.out.symm,HBE.out⟩
      have d2:decide (dr < -1)=false:=decide_eq_false hd2;by_cases hd3:(ND:Int)≤dr
      ·have d3:decide ((ND:Int)≤dr)=true:=decide_eq_true hd3;have HR:=zh (HBAD.out (by rw[cauOk_drv (.inr (.inl hs2')),decide_eq_false (show ¬dr<(ND:Int) by omega),Bool.and_false]));clear hs1';subst hs2';go_wp2_with fail;go_ret;exact⟨ret_b HR.out.symm,HBE.out⟩
      have d3:decide ((ND:Int)≤dr)=false:=decide_eq_false hd3;have HN:=zh (HNEXT.out (by rw[cauOk_drv (.inr (.inl hs2')),decide_eq_true (by omega),decide_eq_true (by omega)];rfl));clear hs1';subst hs2';go_wp2_with fail;go_roundg (CN - (j+1))
      case measure=>have:=HLJ.out;omega
      case rel=>exact⟨j+1,ret_i (by rw[HTG.out];exact(Int.add_zero _).symm),ret_i (by rw[HTA.out];rfl),by go_num,by have:=HLJ.out;omega,rfl,HN,zh HBN.out⟩
     by_cases hs3':st=3
     ·by_cases hd1:dr = -1
      ·have HR:=zh (HBAD.out (by rw[cauOk_drv (.inr (.inr hs3')),decide_eq_false (by omega)];rfl));clear hs1' hs2';subst hs3';subst hd1;go_wp2_with fail;go_ret;exact⟨ret_b HR.out.symm,HBE.out⟩
      have d1:(dr == -1)=false:=by simpa using hd1
      by_cases hd2:dr < -1
      ·have d2:decide (dr < -1)=true:=decide_eq_true hd2;have HR:=zh (HBAD.out (by rw[cauOk_drv (.inr (.inr hs3')),decide_eq_false (by omega)];rfl));clear hs1' hs2';subst hs3';go_wp2_with fail;go_ret;exact⟨ret_b HR.out.symm,HBE.out⟩
      have d2:decide (dr < -1)=false:=decide_eq_false hd2;by_cases hd3:(ND:Int)≤dr
      ·have d3:decide ((ND:Int)≤dr)=true:=decide_eq_true hd3;have HR:=zh (HBAD.out (by rw[cauOk_drv (.inr (.inr hs3')),decide_eq_false (show ¬dr<(ND:Int) by omega),Bool.and_false]));clear hs1' hs2';subst hs3';go_wp2_with fail;go_ret;exact⟨ret_b HR.out.symm,HBE.out⟩
      have d3:decide ((ND:Int)≤dr)=false:=decide_eq_false hd3;have HN:=zh (HNEXT.out (by rw[cauOk_drv (.inr (.inr hs3')),decide_eq_true (by omega),decide_eq_true (by omega)];rfl));clear hs1' hs2';subst hs3';go_wp2_with fail;go_roundg (CN - (j+1))
      case measure=>have:=HLJ.out;omega
      case rel=>exact⟨j+1,ret_i (by rw[HTG.out];exact(Int.add_zero _).symm),ret_i (by rw[HTA.out];exact(Int.add_zero _).symm),by go_num,by have:=HLJ.out;omega,rfl,HN,zh HBN.out⟩
     by_cases hs4':st=4
     ·by_cases hd1:dr = -1
      ·have HN:=zh (HNEXT.out (by rw[hs4',cauOk_gone,decide_eq_true hd1]));have d3:decide ((ND:Int) ≤ -1)=false:=decide_eq_false (by omega);clear hs1' hs2' hs3';subst hs4';subst hd1;go_wp2_with fail;go_roundg (CN - (j+1))
       case measure=>have:=HLJ.out;omega
       case rel=>exact⟨j+1,ret_i (by rw[HTG.out];exact(Int.add_zero _).symm),ret_i (by rw[HTA.out];exact(Int.add_zero _).symm),by go_num,by have:=HLJ.out;omega,rfl,HN,zh HBN.out⟩
      have d1:(dr == -1)=false:=by simpa using hd1
      have HR:=zh (HBAD.out (by rw[hs4',cauOk_gone,decide_eq_false hd1]));clear hs1' hs2' hs3';subst hs4';go_wp2_with fail;go_ret;exact⟨ret_b HR.out.symm,HBE.out⟩
     have HR:=zh (HBAD.out (cauOk_bad hs1' hs2' hs3' hs4'))
     have b1:(st==1)=false:=by simpa using hs1'
     have b2:(st==2)=false:=by simpa using hs2'
     have b3:(st==3)=false:=by simpa using hs3'
     have b4:(st==4)=false:=by simpa using hs4'
     clear hs1' hs2' hs3' hs4';go_wp2_with fail;go_ret;exact⟨ret_b HR.out.symm,HBE.out⟩
    ·have htk:xc.take j=xc:=List.take_of_length_le (by have:=HCN.out;omega);have HALL:=zh (show xc.all (cauOk ND)=true from by rw[List.all_eq_true];intro c hc;exact HCJ.out c (by rw[htk];exact hc));rw[htk];have hgb:=sumG_bd xc;have hab:=sumA_bd xc;obtain⟨SG,hSG⟩:=zx (sumG xc);obtain⟨SA,hSA⟩:=zx (sumA xc);have hfn:=HFN.out;rw[←hSG] at hgb hfn ⊢;rw[←hSA] at hab hfn ⊢;obtain⟨g0,g1⟩:=hgb;obtain⟨a0',a1'⟩:=hab
     have hlen:(xc.length:Int)≤1000:=by have:=HCN.out;omega
     have g2:SG≤1000:=by omega
     have a2':SA≤1000:=by omega
     clear hlen g1 a1' htk hSG hSA;by_cases hq:SG<xn
     ·have t1:decide (SG<xn)=true:=decide_eq_true hq;obtain⟨c,hc⟩:=zx (decide (SG+SA<xn));have t2:decide (SG+SA<xn)=c:=hc.symm;have HR:=zh (show R=(xl==c) by rw[HR3.out,HALL.out,hfn,t1,t2];rfl);clear hfn hc hq;go_wp2_with fail;go_ret;exact⟨ret_b HR.out.symm,HRE.out _ HBW.out⟩
     ·have t1:decide (SG<xn)=false:=decide_eq_false hq;have HR:=zh (show R=false by rw[HR3.out,HALL.out,hfn,t1];rfl);clear hfn hq;go_wp2_with fail;go_ret;exact⟨ret_b HR.out.symm,HRE.out _ HBW.out⟩
end Go.Proofs.YtcfkllnpkmebpaaGreatDoor
