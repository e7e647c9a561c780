/- Which incidents are valid, plain. -/
import Derived.Test.YtcfkllnpkmebpaaGreatDoorMq23
import Derived.Test.YtcfkllnpkmebpaaGreatDoorMq22
import Derived.Test.YtcfkllnpkmebpaaGreatDoorMq19
import Derived.Test.YtcfkllnpkmebpaaGreatDoorMq01
import Derived.Deep.MidRow
set_option maxRecDepth 100000
set_option maxHeartbeats 12800000
namespace Go.Proofs.YtcfkllnpkmebpaaGreatDoor
open Go.RowKit
set_option linter.unusedVariables false
set_option linter.unusedSimpArgs false
instance:Inhabited Inc:=⟨⟨0,0,false,0,[]⟩⟩
def sumG:List Cau→Int
 | []=>0
 | c :: l=>addG c.state+sumG l
def sumA:List Cau→Int
 | []=>0
 | c :: l=>addA c.state+sumA l
theorem sumG_snoc(l:List Cau) (c:Cau):sumG (l++[c])=sumG l+addG c.state:=by
 induction l with
 | nil=>simp[sumG]
 | cons x l ih=>rw[List.cons_append,sumG,sumG,ih];omega
theorem sumA_snoc(l:List Cau) (c:Cau):sumA (l++[c])=sumA l+addA c.state:=by
 induction l with
 | nil=>simp[sumA]
 | cons x l ih=>rw[List.cons_append,sumA,sumA,ih];omega
theorem addG_bd(s:Int):0≤addG s∧addG s≤1:=by unfold addG;split <;> omega
theorem addA_bd(s:Int):0≤addA s∧addA s≤1:=by unfold addA;split <;> omega
theorem sumG_bd(l:List Cau):0≤sumG l∧sumG l≤(l.length:Int):=by
 induction l with
 | nil=>simp[sumG]
 | cons x l ih=>have:=addG_bd x.state;rw[sumG,List.length_cons];omega
theorem sumA_bd(l:List Cau):0≤sumA l∧sumA l≤(l.length:Int):=by
 induction l with
 | nil=>simp[sumA]
 | cons x l ih=>have:=addA_bd x.state;rw[sumA,List.length_cons];omega
theorem takeG{l:List Cau} {j:Nat} (h:j<l.length):sumG (l.take (j+1))=sumG (l.take j)+addG l[j].state:=by rw[List.take_succ_eq_append_getElem h,sumG_snoc]
theorem takeA{l:List Cau} {j:Nat} (h:j<l.length):sumA (l.take (j+1))=sumA (l.take j)+addA l[j].state:=by rw[List.take_succ_eq_append_getElem h,sumA_snoc]
def finB(K M need:Int) (lost:Bool) (cs:List Cau):Bool:=decide ((cs.length:Int)=K+M)&&(decide (sumG cs<need)&&(lost==decide (sumG cs+sumA cs<need)))
def oneB(F:FltM) (x:Inc):Bool :=
 isStr F.vols.length F.ext x.vol x.stripe&&(decide (x.need=kOf F x.vol.toNat)&&(x.causes.all (cauOk F.dves.length)&&finB (kOf F x.vol.toNat) (mOf F x.vol.toNat) x.need x.lost x.causes))
def incLtB(a b:Inc):Bool:=decide (a.vol<b.vol∨(a.vol=b.vol∧a.stripe<b.stripe))
def ordAt(l:List Inc) (i:Nat):Bool:=decide (i=0)||incLtB l[i - 1]! l[i]!
def okAt(F:FltM) (l:List Inc) (i:Nat):Bool:=oneB F l[i]! && ordAt l i
def validB(F:FltM) (l:List Inc):Bool:=(List.range l.length).all (okAt F l)
theorem valid_hit{F:FltM} {l:List Inc} (h:∀k,k<l.length→okAt F l k=true):validB F l=true:=by
 unfold validB;rw[List.all_eq_true];intro k hk;exact h k (List.mem_range.1 hk)
theorem valid_miss{F:FltM} {l:List Inc} {i:Nat} (hi:i<l.length) (h:okAt F l i=false):validB F l=false:=by
 unfold validB;rw[List.all_eq_false];exact⟨i,List.mem_range.2 hi,by rw[h];simp⟩
theorem getBang{α:Type} [Inhabited α] {l:List α} {i:Nat} (h:i<l.length):l[i]! = l[i]:=by simp[h]
theorem fin_poss(K M need:Int) (lost:Bool) (cs:List Cau) (hl:((cs.length:Int)=K+M)):finB K M need lost cs=possB (sumG cs) (sumA cs) 0 need lost:=by
 unfold finB possB;rw[decide_eq_true hl,Bool.true_and];by_cases h1:need≤sumG cs
 ·rw[if_pos (.inr h1),decide_eq_false (by omega)];rfl
 ·rw[if_neg (by omega),decide_eq_true (by omega),Bool.true_and]
  cases lost with
  | true=>rw[if_pos rfl];simp
  | false =>
   rw[if_neg (by decide),Int.add_zero,Bool.or_self];by_cases h2:sumG cs+sumA cs<need
   ·rw[decide_eq_true h2,decide_eq_false (by omega)];rfl
   ·rw[decide_eq_false h2,decide_eq_true (by omega)];rfl
theorem fin_no(K M need:Int) (lost:Bool) (cs:List Cau) (hl:¬((cs.length:Int)=K+M)):finB K M need lost cs=false:=by
 unfold finB;rw[decide_eq_false hl];rfl
theorem isStr_iff(NO:Nat) (e v s:Int):isStr NO e v s=true↔(0≤v∧v<(NO:Int))∧(0≤s∧s<e):=by
 unfold isStr;rw[decide_eq_true_eq];omega
theorem size_tly:(Tryz.prog.info? 118).map (·.size)=some 4:=by kernel_rfl
theorem begin_any(ext k m q:Int) (vl vm vd a0 a4 a5 a6 a7 a8 a9 a10 a11 a12 a13 a14 a15 a16:Value) (nm:ByteArray) (Ad:Option Addr) (ND cd pb pof ob oof NP NO cp co v p:Nat) (w:World) (hv:v<NO) (hp:p<NP) (hno:NO≤1000) (hnp:NP≤1000) (hk:0≤k∧k≤1000) (hm:0≤m∧m≤1000) (hnd:1≤ND∧ND≤1000)
  (hvol:w.rangeAt ob (oof+v * 2) [.string nm,.int .i64 (p:Int)]) (hpol:w.rangeAt pb (pof+p * 17) [a0,.int .i64 k,.int .i64 m,.int .i64 q,a4,a5,a6,a7,a8,a9,a10,a11,a12,a13,a14,a15,a16]) (hone:(#[a0,.int .i64 k,.int .i64 m,.int .i64 q,a4,a5,a6,a7,a8,a9,a10,a11,a12,a13,a14,a15,a16]:Array Value).all (·.oneCell')=true) :
  Calls Tryz.prog 51 #[.agg #[.int .i64 ext,vl,vm,vd,.slice Ad ND cd,.slice (some ⟨pb,pof,none⟩) NP cp,.slice (some ⟨ob,oof,none⟩) NO co],.int .i64 (v:Int)] w fun e w'=>e=.returned (.agg #[.int .i64 0,.int .i64 0,.int .i64 (k+m),.bool true])∧Below w.heap.size w w':=by
 obtain⟨W0,hW0⟩:=zx ((w.alloc (.cells #[.int .i64 ext,vl,vm,vd,.slice Ad ND cd,.slice (some ⟨pb,pof,none⟩) NP cp,.slice (some ⟨ob,oof,none⟩) NO co] 35)).alloc (.cells #[.int .i64 0,.int .i64 0,.int .i64 0,.bool false] 118));obtain⟨z,hz⟩:=zx w.heap.size;obtain⟨gr,hgr⟩:=zx (w.heap.size+1)
 have hb0:Below w.heap.size w W0:=by rw[hW0];exact((Below.refl _ _).alloc (Nat.le_refl _) _).alloc (by simp) _
 have hrk:W0.heap[gr]?=some (.cells #[.int .i64 0,.int .i64 0,.int .i64 0,.bool false] 118 (0,0)):=by
  rw[hW0];exact heap_alloc_at _ _ _ (by rw[hgr];simp)
 have hzk:W0.heap[z]?=some (.cells #[.int .i64 ext,vl,vm,vd,.slice Ad ND cd,.slice (some ⟨pb,pof,none⟩) NP cp,.slice (some ⟨ob,oof,none⟩) NO co] 35 (0,0)):=by
  rw[hW0,hz];exact(Below.heap_alloc _ _ _ (by simp)).trans (heap_alloc_new w _)
 have hzl:z<W0.heap.size:=(Array.getElem?_eq_some_iff.1 hzk).1;have hrl:gr<W0.heap.size:=(Array.getElem?_eq_some_iff.1 hrk).1;have hob:ob<w.heap.size:=World.block_lt_of_cell? w _ (hvol 0 _ rfl);have hpb:pb<w.heap.size:=World.block_lt_of_cell? w _ (hpol 0 _ rfl);have HZ4:=zh (fun(w':World) (hb:Below W0.heap.size W0 w')=>(cells7 ((hb.block z hzl).trans hzk)).2.2.2.2.1);have HGR:=zh (fun(w':World) (hb:Below W0.heap.size W0 w')=>(hb.block gr hrl).trans hrk)
 have HSK:=zh (fun(w':World) (hb:Below W0.heap.size W0 w')=>(show w'.cell? ⟨z,5,none⟩=some (.slice (some ⟨pb,pof,none⟩) NP cp)∧w'.cell? ⟨z,6,none⟩=some (.slice (some ⟨ob,oof,none⟩) NO co)∧w'.cell? ⟨ob,oof+v * 2+1,none⟩=some (.int .i64 (p:Int))∧w'.rangeAt pb (pof+p * 17) [a0,.int .i64 k,.int .i64 m,.int .i64 q,a4,a5,a6,a7,a8,a9,a10,a11,a12,a13,a14,a15,a16] from by
  obtain⟨-,-,-,-,-,x5,x6⟩:=cells7 ((hb.block z hzl).trans hzk);have hbw:=hb0.trans (hb.mono hb0.size)
  exact⟨x5,x6,range_same hvol (hbw.block ob hob) 1 _ rfl,range_same hpol (hbw.block pb hpb)⟩))
 have HTH:=zh (show((W0.alloc (.cells #[.string ⟨#[]⟩,.int .i64 0,.int .i64 0,.int .i64 0,.int .i64 0,.int .i64 0,.int .i64 0,.int .i64 0,.int .i64 0,.slice none 0 0,.slice none 0 0,.bool false,.slice none 0 0,.slice none 0 0,.bool false,.slice none 0 0,.slice none 0 0] 85)).drew).there W0.heap.size 0 17 from there_of_block (w:=(W0.alloc (.cells #[.string ⟨#[]⟩,.int .i64 0,.int .i64 0,.int .i64 0,.int .i64 0,.int .i64 0,.int .i64 0,.int .i64 0,.int .i64 0,.slice none 0 0,.slice none 0 0,.bool false,.slice none 0 0,.slice none 0 0,.bool false,.slice none 0 0,.slice none 0 0] 85)).drew) (cs:=#[.string ⟨#[]⟩,.int .i64 0,.int .i64 0,.int .i64 0,.int .i64 0,.int .i64 0,.int .i64 0,.int .i64 0,.int .i64 0,.slice none 0 0,.slice none 0 0,.bool false,.slice none 0 0,.slice none 0 0,.bool false,.slice none 0 0,.slice none 0 0]) (heap_alloc_new W0 _) (Nat.le_refl 17));have HON:=zh hone;have HW0:=zh hW0;have HZ:=zh (And.intro hz hgr);have HB0:=zh hb0;have HGE:=zh (show w.heap.size≤gr by omega);obtain⟨hk0,hk1⟩:=hk;obtain⟨hm0,hm1⟩:=hm
 have i1:(v:Int)<(NO:Int):=by omega
 have i2:(p:Int)<(NP:Int):=by omega
 have t1:decide (0<ND)=true:=decide_eq_true hnd.1
 have i3:(ND:Int)≤1000:=by omega
 clear hvol hpol hone hW0 hz hgr hb0 hrk hzk hzl hrl hob hpb hv hp hnd;go_enter Tryz.func51,Tryz.ntmps51;go_upto_region 1 with fail;rw[←HW0.out,←HZ.out.2,←HZ.out.1];refine region_tail (S:=(fun w'=>w'.cell? ⟨z,5,none⟩=some (.slice (some ⟨pb,pof,none⟩) NP cp)∧w'.cell? ⟨z,6,none⟩=some (.slice (some ⟨ob,oof,none⟩) NO co)∧w'.cell? ⟨ob,oof+v * 2+1,none⟩=some (.int .i64 (p:Int))∧w'.rangeAt pb (pof+p * 17) [a0,.int .i64 k,.int .i64 m,.int .i64 q,a4,a5,a6,a7,a8,a9,a10,a11,a12,a13,a14,a15,a16])) [11] (by kernel_rfl) (HSK.out _ (Below.refl _ _).drew) (fun hHeld=>?_);refine tk 0 6 ?_;refine tk 1 7 ?_;refine tk 2 8 ?_;refine tk 3 9 ?_;refine tk 4 10 ?_;refine tk 5 11 ?_;refine tk 6 12 ?_;refine tk 7 13 ?_;refine tk 8 14 ?_;refine takeT (i:=9) (d:=15) (v:=(.agg #[a0,.int .i64 k,.int .i64 m,.int .i64 q,a4,a5,a6,a7,a8,a9,a10,a11,a12,a13,a14,a15,a16])) rfl rfl (by kernel_rfl) (by kernel_rfl) (by kernel_rfl) (by kernel_rfl) (fun _ _ _ h=>h) (yieldsIf_load_mid (by rfl) 85 (.tmp 14) rfl pb (pof+p * 17) (by rfl) [a0,.int .i64 k,.int .i64 m,.int .i64 q,a4,a5,a6,a7,a8,a9,a10,a11,a12,a13,a14,a15,a16] _ (fun w hw=>hw.2.2.2) Tryz.underlying85 rfl size_pol) (by assumption) ?_;(try simp only[Act.put,z1,z2,z3]);refine readyT (rs:=[10]) (by kernel_rfl) (by simp) ?_;refine AllReadyT.cons rfl (fun K hK=>?_) ?_
 ·go_simp;refine hK.out _ _ ?_ (fun hHeld=>?_)
  ·exact HSK.out _ ((Below.refl _ _).drew.alloc (Nat.le_refl _) _)
  clear hK K;(try simp only[Act.put,z1,z2,z3]);refine readyT (rs:=[11]) (by kernel_rfl) (by simp) ?_;refine AllReadyT.consT rfl rfl (fun K hK=>?_) ?_
  ·rw[if_pos (by rfl)];refine wp_store_mid 85 (.tmp 5) (.tmp 15) rfl W0.heap.size 0 #[a0,.int .i64 k,.int .i64 m,.int .i64 q,a4,a5,a6,a7,a8,a9,a10,a11,a12,a13,a14,a15,a16] (by rfl) (by rfl) HTH.out size_pol HON.out ?_;refine hK.out _ _ ?_;clear hK K;(try simp only[Act.put,z1,z2,z3]);refine doneT (by kernel_rfl) ?_ _;clear hHeld;obtain⟨W8,hW8⟩:=zx (World.setCells ((W0.alloc (.cells #[.string ⟨#[]⟩,.int .i64 0,.int .i64 0,.int .i64 0,.int .i64 0,.int .i64 0,.int .i64 0,.int .i64 0,.int .i64 0,.slice none 0 0,.slice none 0 0,.bool false,.slice none 0 0,.slice none 0 0,.bool false,.slice none 0 0,.slice none 0 0] 85)).drew) W0.heap.size 0 [a0,.int .i64 k,.int .i64 m,.int .i64 q,a4,a5,a6,a7,a8,a9,a10,a11,a12,a13,a14,a15,a16]);obtain⟨gp,hgp⟩:=zx W0.heap.size
   have hb8:Below W0.heap.size W0 W8:=by rw[hW8];exact below_setCellsV (Nat.le_refl _) _ _ _ ((Below.refl _ _).alloc (Nat.le_refl _) _).drew
   have hgr:W8.rangeAt gp 0 [a0,.int .i64 k,.int .i64 m,.int .i64 q,a4,a5,a6,a7,a8,a9,a10,a11,a12,a13,a14,a15,a16]:=by rw[hW8,hgp];exact World.rangeAt_setCells_same _ _ _ _ HTH.out
   have p1:W8.cell? ⟨gp,1,none⟩=some (.int .i64 k):=hgr 1 _ rfl;have p2:W8.cell? ⟨gp,2,none⟩=some (.int .i64 m):=hgr 2 _ rfl;have z4:=HZ4.out W8 hb8;have HTT:=zh (there_of_block (w:=W8) (cs:=#[.int .i64 0,.int .i64 0,.int .i64 0,.bool false]) (HGR.out W8 hb8) (Nat.le_refl 4));have hg8:=HGR.out W8 hb8;have HG4:=zh (show W8.cell? ⟨gr,0,none⟩=some (.int .i64 0)∧W8.cell? ⟨gr,1,none⟩=some (.int .i64 0)∧W8.cell? ⟨gr,2,none⟩=some (.int .i64 0)∧W8.cell? ⟨gr,3,none⟩=some (.bool false)∧W8.frozen? ⟨gr,0,none⟩=false∧W8.frozen? ⟨gr,1,none⟩=false∧W8.frozen? ⟨gr,2,none⟩=false∧W8.frozen? ⟨gr,3,none⟩=false from⟨by rw[cell_of_row _ _ _ _ _ _ hg8];rfl,by rw[cell_of_row _ _ _ _ _ _ hg8];rfl,by rw[cell_of_row _ _ _ _ _ _ hg8];rfl,by rw[cell_of_row _ _ _ _ _ _ hg8];rfl,frozen_of_row _ _ _ _ _ hg8,frozen_of_row _ _ _ _ _ hg8,frozen_of_row _ _ _ _ _ hg8,frozen_of_row _ _ _ _ _ hg8⟩);clear hg8;have HB8:=zh hb8;rw[←hW8,←hgp];clear hW8 hgp hb8 hgr;obtain⟨g0,g1,g2,g3,f0,f1,f2,f3⟩:=HG4.out;go_wp2_with fail;clear g0 g1 g2 g3 f0 f1 f2 f3;have hld:=run_loadVar_mid (P:=Tryz.prog) _ gr 0 118 _ _ (World.rangeAt_setCells_same W8 gr 0 [.int .i64 0,.int .i64 0,.int .i64 (k+m),.bool true] HTT.out) Tryz.underlying118 rfl size_tly;(try simp only[Exit.inBlock,Exit.then]);refine bodyPost_ret (v:=.agg #[.int .i64 0,.int .i64 0,.int .i64 (k+m),.bool true]) ?_ rfl ?_
   ·exact results_cell _ 118 4 _ _ _ ⟨gr,0,none⟩ Tryz.results51 (by rfl) hld
   ·exact⟨rfl,below_setCellsV HGE.out [.int .i64 0,.int .i64 0,.int .i64 (k+m),.bool true] 0 W8 (HB0.out.trans (HB8.out.mono HB0.out.size))⟩
  exact AllReadyT.nil
 exact AllReadyT.nil
theorem order_two(a b c d:Int) (x2 x3 x4 y2 y3 y4:Value) (w:World) (ha:0≤a∧a≤100000) (hb:0≤b∧b≤100000) (hc:0≤c∧c≤100000) (hd:0≤d∧d≤100000) :
  Calls Tryz.prog 50 #[.agg #[.int .i64 a,.int .i64 b,x2,x3,x4],.agg #[.int .i64 c,.int .i64 d,y2,y3,y4]] w fun e w'=>(∃r:Int,e=.returned (.int .i64 r)∧(0≤r↔¬(a<c∨(a=c∧b<d))))∧Below w.heap.size w w':=by
 obtain⟨ha0,ha1⟩:=ha;obtain⟨hb0,hb1⟩:=hb;obtain⟨hc0,hc1⟩:=hc;obtain⟨hd0,hd1⟩:=hd;have HBW:=zh (fun(o1 o2:Obj)=>((Below.refl w.heap.size w).alloc (Nat.le_refl _) o1).alloc (show w.heap.size≤(w.alloc o1).heap.size by simp) o2);by_cases h:a=c
 ·have b1:(a != c)=false:=by simpa using h
  have HR:=zh (show 0≤b - d↔¬(a<c∨(a=c∧b<d)) by omega);clear h;go_enter Tryz.func50,Tryz.ntmps50;go_wp2_with fail;go_ret;exact⟨⟨_,rfl,HR.out⟩,HBW.out _ _⟩
 ·have b1:(a != c)=true:=by simpa using h
  have HR:=zh (show 0≤a - c↔¬(a<c∨(a=c∧b<d)) by omega);clear h;go_enter Tryz.func50,Tryz.ntmps50;go_wp2_with fail;go_ret;exact⟨⟨_,rfl,HR.out⟩,HBW.out _ _⟩
end Go.Proofs.YtcfkllnpkmebpaaGreatDoor
