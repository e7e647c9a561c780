/- The reference's block, walked. -/
import Derived.Test.YtcfkllnpkmebpaaGreatDoorMp23
import Derived.Test.YtcfkllnpkmebpaaGreatDoorMp24
import Derived.Test.YtcfkllnpkmebpaaGreatDoorMp25
import Derived.Test.YtcfkllnpkmebpaaGreatDoorMp01
set_option maxRecDepth 100000
set_option maxHeartbeats 12800000
namespace Go.Proofs.YtcfkllnpkmebpaaGreatDoor
open Go.RowKit
set_option linter.unusedVariables false
set_option linter.unusedSimpArgs false
theorem IncT.swap{W0 w:World} {g:Nat} {c0 c1 c2 c3 cv cv2:Value} {l m:List Cau} (h:IncT W0 g c0 c1 c2 c3 w cv l) (hn:OwnCau w W0.heap.size cv2 m) :
  IncT W0 g c0 c1 c2 c3 (((((w.setCell ⟨g,0,none⟩ c0).setCell ⟨g,1,none⟩ c1).setCell ⟨g,2,none⟩ c2).setCell ⟨g,3,none⟩ c3).setCell ⟨g,4,none⟩ cv2) cv2 m∧HotBy [some g] w (((((w.setCell ⟨g,0,none⟩ c0).setCell ⟨g,1,none⟩ c1).setCell ⟨g,2,none⟩ c2).setCell ⟨g,3,none⟩ c3).setCell ⟨g,4,none⟩ cv2):=by
 have hh:HotBy [some g] w (((((w.setCell ⟨g,0,none⟩ c0).setCell ⟨g,1,none⟩ c1).setCell ⟨g,2,none⟩ c2).setCell ⟨g,3,none⟩ c3).setCell ⟨g,4,none⟩ cv2) :=
  ((((HotBy.setCell _ _ ⟨g,0,none⟩ _ (by simp)).trans (HotBy.setCell _ _ ⟨g,1,none⟩ _ (by simp))).trans (HotBy.setCell _ _ ⟨g,2,none⟩ _ (by simp))).trans (HotBy.setCell _ _ ⟨g,3,none⟩ _ (by simp))).trans (HotBy.setCell _ _ ⟨g,4,none⟩ _ (by simp))
 refine⟨⟨below_hotW h.hot hh (fun x hx=>by simp at hx;rw[hx];exact h.ge),?_,own_hot hn hh (fun b hb e=>by simp at e;subst e;exact own_nty hn h.row (by decide) hb),h.ge⟩,hh⟩;exact heap_setCell_same _ g 4 _ _ _ (heap_setCell_same _ g 3 _ _ _ (heap_setCell_same _ g 2 _ _ _ (heap_setCell_same _ g 1 _ _ _ (heap_setCell_same _ g 0 _ _ _ h.row))))
def BlockP(F:FltM) (L:List Inc) (S:List UInt8) (B:Nat) (w:World) (xv xs:Int) (xl:Bool) (xn:Int) (cv:Value) (pos lines:Nat):Bool→Prop
 | true=>∃(x0:Inc) (cs:List Cau),x0∈headC F∧(xv=x0.vol∧xs=x0.stripe∧xl=x0.lost∧xn=x0.need)∧OwnCau w B cv cs∧StP F L S (mkX x0) cs pos∧lackI F (mkX x0 cs)=0∧lines=1+cs.length
 | false=>∀n,parsR F L S n=([],104,n+lines)
def BlockE(F:FltM) (L:List Inc) (S:List UInt8) (B:Nat) (e:Ending) (w':World):Prop :=
 ∃(xv xs:Int) (xl:Bool) (xn:Int) (A:Option Addr) (n c:Nat) (pos lines:Nat) (ok:Bool),e=.returned (.tuple #[.agg #[.int .i64 xv,.int .i64 xs,.bool xl,.int .i64 xn,.slice A n c],.int .i64 (pos:Int),.int .i64 (lines:Int),.bool ok])∧lines≤10∧BlockP F L S B w' xv xs xl xn (.slice A n c) pos lines ok
theorem block_any(N:Nat) (hN:N≤12) (vl vm vd vv vp vo vL:Value) (F:FltM) (L:List Inc) (S:ByteArray) (w:World) (hf:FleetS w (Bl w.heap.size) vl vm vd vv vp vo F) (hok:FleetOk N F) (hL:SlS 5 IncK w (Bl w.heap.size) vL L) (hlen:L.length≤100000) (hS:S.size≤1000000) (hS0:0<S.size) (hl:leftOf F L=0) :
  Calls Tryz.prog 59 #[.agg #[.int .i64 F.ext,vl,vm,vd,vv,vp,vo],.string S,vL] w fun e w'=>BlockE F L S.data.toList w.heap.size e w'∧Below w.heap.size w w':=by
 obtain⟨Ad,cd,rfl,-,-⟩:=SlS.form hf.2.2.2.1;have hnd1:=hok.dve1;have hnd2:=hok.dveN
 have hs0:S.data.toList≠[]:=fun e=>by
  have:S.data.toList.length=S.size:=Array.length_toList;rw[e] at this;simp at this;omega
 have hsz:S.data.toList.length=S.size:=Array.length_toList;obtain⟨W0,hW0⟩:=zx ((w.alloc (.cells #[.int .i64 F.ext,vl,vm,vd,.slice Ad F.dves.length cd,vp,vo] 35)).alloc (.cells #[.int .i64 0,.int .i64 0,.bool false,.int .i64 0,.slice none 0 0] 27));obtain⟨z,hz⟩:=zx w.heap.size;obtain⟨gR,hgR⟩:=zx (w.heap.size+1)
 have hb0:Below w.heap.size w W0:=by rw[hW0];exact((Below.refl _ _).alloc (Nat.le_refl _) _).alloc (by simp) _
 have hrk:W0.heap[gR]?=some (.cells #[.int .i64 0,.int .i64 0,.bool false,.int .i64 0,.slice none 0 0] 27 (0,0)):=by
  rw[hW0];exact heap_alloc_at _ _ _ (by rw[hgR];simp)
 have hzk:W0.heap[z]?=some (.cells #[.int .i64 F.ext,vl,vm,vd,.slice Ad F.dves.length cd,vp,vo] 35 (0,0)):=by
  rw[hW0,hz];exact(Below.heap_alloc _ _ _ (by simp)).trans (heap_alloc_new w _)
 have hzl:z<W0.heap.size:=(Array.getElem?_eq_some_iff.1 hzk).1;have hrl:gR<W0.heap.size:=(Array.getElem?_eq_some_iff.1 hrk).1;have HC:=zh (fun(w':World) (hb:Below W0.heap.size W0 w')=>cells7 ((hb.block z hzl).trans hzk));have HRK:=zh (fun(w':World) (hb:Below W0.heap.size W0 w')=>(hb.block gR hrl).trans hrk);have HRE:=zh (fun(w':World) (hb:Below W0.heap.size W0 w')=>hb0.trans (hb.mono hb0.size));have HFST:=zh (first_any N hN vl vm vd (.slice Ad F.dves.length cd) vp vo vL F L S W0 (hf.below hb0) hok (SlS.below incK hL hb0) hlen (by omega));have HFL:=zh (fun(w':World) (hb:Below W0.heap.size W0 w')=>(show FleetS w' (Bl w'.heap.size) vl vm vd (.slice Ad F.dves.length cd) vp vo F from hf.below (hb0.trans (hb.mono hb0.size))));have HOK:=zh hok;have HLO:=zh hl;have HSS:=zh (And.intro hs0 hsz)
 -- the end: what is stored into the result
 have HEND:=zh (fun(w5:World) (hb:Below W0.heap.size W0 w5) (a b c d e:Value)=>(show
   (((((w5.setCell ⟨gR,0,none⟩ a).setCell ⟨gR,1,none⟩ b).setCell ⟨gR,2,none⟩ c).setCell ⟨gR,3,none⟩ d).setCell ⟨gR,4,none⟩ e).heap[gR]?=some (.cells #[a,b,c,d,e] 27 (0,0))∧HotBy [some gR] w5 (((((w5.setCell ⟨gR,0,none⟩ a).setCell ⟨gR,1,none⟩ b).setCell ⟨gR,2,none⟩ c).setCell ⟨gR,3,none⟩ d).setCell ⟨gR,4,none⟩ e)∧Below w.heap.size w (((((w5.setCell ⟨gR,0,none⟩ a).setCell ⟨gR,1,none⟩ b).setCell ⟨gR,2,none⟩ c).setCell ⟨gR,3,none⟩ d).setCell ⟨gR,4,none⟩ e) from
  ⟨heap_setCell_same _ gR 4 _ _ _ (heap_setCell_same _ gR 3 _ _ _ (heap_setCell_same _ gR 2 _ _ _ (heap_setCell_same _ gR 1 _ _ _ (heap_setCell_same _ gR 0 _ _ _ ((hb.block gR hrl).trans hrk))))),
   ((((HotBy.setCell _ _ ⟨gR,0,none⟩ _ (by simp)).trans (HotBy.setCell _ _ ⟨gR,1,none⟩ _ (by simp))).trans (HotBy.setCell _ _ ⟨gR,2,none⟩ _ (by simp))).trans (HotBy.setCell _ _ ⟨gR,3,none⟩ _ (by simp))).trans (HotBy.setCell _ _ ⟨gR,4,none⟩ _ (by simp)),by
   have hg:w.heap.size≤gR:=by omega
   exact(((((hb0.trans (hb.mono hb0.size)).setCell hg _).setCell hg _).setCell hg _).setCell hg _).setCell hg _⟩))
 obtain⟨EX,hEX⟩:=zx F.ext;obtain⟨ND,hND⟩:=zx F.dves.length;obtain⟨SL,hSL⟩:=zx S.data.toList;rw[←hEX,←hND] at HC HFST hW0 ⊢;rw[←hND] at hnd1 hnd2;rw[←hSL] at HFST HSS ⊢;have HE:=zh (And.intro hEX hND);have HSL:=zh hSL;have HW0:=zh hW0;have HZ:=zh hz;have HGR:=zh hgR;have HRL:=zh hrl;have HB0:=zh hb0;obtain⟨c0,c1,c2,c3,c4,c5,c6⟩:=HC.out W0 (Below.refl _ _);clear hf hok hL hl hs0 hsz hW0 hz hgR hb0 hrk hzk hzl hrl hEX hND hSL;go_enter Tryz.func59,Tryz.ntmps59;go_upto_region 1 with fail;rw[←HW0.out,←HGR.out,←HZ.out];go_wp2_with fail;refine HFST.out.mono ?_;rintro e w1 ⟨o,he,hfo,hb1⟩;have HB1:=zh hb1;clear hb1 c0 c1 c2 c3 c4 c5 c6
 cases o with
 | none =>
  obtain rfl:e=.returned (.tuple #[.agg #[.int .i64 0,.int .i64 0,.bool false,.int .i64 0,.slice none 0 0],.bool false]):=he;have HNO:=zh (fun n=>pars_nofirst HOK.out hN (fun v hv=>by have:=kmq_ok HOK.out hv;omega) HLO.out HSS.out.1 hfo n);obtain⟨W2,hW2⟩:=zx (w1.alloc (.cells #[.int .i64 0,.int .i64 0,.bool false,.int .i64 0,.slice none 0 0] 27));obtain⟨g10,hg10⟩:=zx w1.heap.size
  have hb2:Below w1.heap.size w1 W2:=by rw[hW2];exact(Below.refl _ _).alloc (Nat.le_refl _) _
  have hk2:W2.heap[g10]?=some (.cells #[.int .i64 0,.int .i64 0,.bool false,.int .i64 0,.slice none 0 0] 27 (0,0)):=by rw[hW2,hg10];exact heap_alloc_new _ _
  have HB2:=zh (HB1.out.trans (hb2.mono HB1.out.size));have HW2:=zh hW2;have HG10:=zh hg10;obtain⟨x0,x1,x2,x3,x4⟩:=cells5 hk2;obtain⟨z0,z1,z2,z3,z4⟩:=cells5 (HRK.out W2 HB2.out)
  have zf:=fun i=>frozen_of_row W2 gR i _ _ (HRK.out W2 HB2.out)
  have f0:=zf 0;have f1:=zf 1;have f2:=zf 2;have f3:=zf 3;have f4:=zf 4;clear hW2 hg10 hb2 hk2 zf hfo;go_upto_region 2 with fail;rw[←HW2.out,←HG10.out];go_wp2_with fail;obtain⟨hz,-,hbz⟩:=HEND.out W2 HB2.out (.int .i64 0) (.int .i64 0) (.bool false) (.int .i64 0) (.slice none 0 0);obtain⟨n0,n1,n2,n3,n4⟩:=cells5 hz;refine bodyPost_ret (v:=.tuple #[.agg #[.int .i64 0,.int .i64 0,.bool false,.int .i64 0,.slice none 0 0],.int .i64 ((0:Nat):Int),.int .i64 ((0:Nat):Int),.bool false]) ?_ rfl ⟨⟨_,_,_,_,_,_,_,0,0,false,rfl,by omega,HNO.out⟩,hbz⟩;simp[results,Tryz.results59,go_sem,n0,n1,n2,n3,n4]
 | some x =>
  obtain⟨hx,hox,hpx⟩:=hfo;have hst0:=StP.start HOK.out hN HLO.out hx hox hpx;obtain⟨v,s,b,hv,hs,rfl⟩:=headC_mem.1 hx;obtain rfl:e=.returned (.tuple #[.agg #[.int .i64 (v:Int),.int .i64 (s:Int),.bool b,.int .i64 (kOf F v),.slice none 0 0],.bool true]):=he;obtain⟨k1,k2,k3,-,-⟩:=kmq_ok HOK.out hv;obtain⟨KM,hKM⟩:∃n:Nat,kOf F v+mOf F v=(n:Int):=⟨(kOf F v+mOf F v).toNat,by omega⟩
  have hlk:∀cs:List Cau,lackI F (mkX (mkI F v s b) cs)=(KM:Int) - (cs.length:Int):=fun cs=>by
   unfold lackI mkX mkI;simp only[Int.toNat_natCast];omega
  have hhd:=fun(w':World) (hb:Below W0.heap.size W0 w')=>rhead_f (HFL.out w' hb) HOK.out hN hx (.slice none 0 0)
  have hpo:=fun(w':World) (hb:Below W0.heap.size W0 w')=>rpol_f (HFL.out w' hb) HOK.out hN hv
  have hli:=fun(i:Nat) (hi:i<100) (c:Cau) (hc:c∈causeC F) (w':World) (hb:Below W0.heap.size W0 w')=>rline_f (HFL.out w' hb) HOK.out i hi (.int .i64 F.ext) c hc
  have hab:=fun(A:Option Addr) (n c:Nat) (cs:List Cau) (w':World) (hb:Below W0.heap.size W0 w') (hn:n=cs.length) (hsl:SlS 2 CauK w' (Bl w'.heap.size) (.slice A n c) cs) (hst:∀c∈cs,1≤c.state) (hle:n≤KM) =>
   (show Calls Tryz.prog 107 #[.agg #[.int .i64 F.ext,vl,vm,vd,.slice Ad F.dves.length cd,vp,vo],.agg #[.int .i64 (v:Int),.int .i64 (s:Int),.bool b,.int .i64 (kOf F v),.slice A n c]] w' fun e w2=>e=.returned (.bool (ableB F (mkX (mkI F v s b) cs)))∧Below w'.heap.size w' w2 from
    able_any N hN vl vm vd (.slice Ad F.dves.length cd) vp vo F v (s:Int) b A n c cs w' (HFL.out w' hb) HOK.out hv hn hsl hst (by omega))
  have hsp:(headN F (mkI F v s b)).size=(headF F (mkI F v s b)).length+1:=by
   show(headF F (mkI F v s b)++[10]).toArray.size=_
   simp
  rw[←hsp] at hst0;simp only[mkI] at hhd;rw[←HE.out.1] at hhd hpo hli hab;rw[←HE.out.2] at hhd hpo hli hab;obtain⟨KN,hKN⟩:=zx (kOf F v);obtain⟨MM,hMM⟩:=zx (mOf F v);obtain⟨X0,hX0⟩:=zx (mkI F v s b)
  have hX0':(⟨(v:Int),(s:Int),b,kOf F v,[]⟩:Inc)=X0:=by rw[hX0];rfl
  rw[←hX0] at hst0 hlk hab;rw[hX0'] at hhd;rw[←hKN] at k1 hKM hhd hpo hab ⊢;rw[←hMM] at k2 k3 hKM hpo;obtain⟨HNB,hHNB⟩:=zx (headN F X0);rw[←hHNB] at hhd
  have hst1:StP F L SL (mkX X0) [] HNB.size:=by rw[hHNB,hX0,←hX0];rw[hX0];rw[hX0] at hst0;exact hst0
  obtain⟨P0,hP0⟩:=zx HNB.size;rw[←hP0] at hst1;have HP0:=zh hP0;have HST0:=zh hst1;have HX0:=zh (show X0∈headC F∧X0.vol=(v:Int)∧X0.stripe=(s:Int)∧X0.lost=b∧X0.need=KN from by rw[hX0];exact⟨hx,rfl,rfl,rfl,hKN.symm⟩);have HLK:=zh hlk;have HHD:=zh hhd;have HPO:=zh hpo;have HLI:=zh hli;have HAB:=zh hab
  have hkm:IntKind.i64.wrap (KN+MM)=(KM:Int):=by rw[hKM];exact IntWalk.i64_in _ (by omega)
  have HKL:=zh (show 1≤KM∧KM≤4 by omega);obtain⟨W2,hW2⟩:=zx (w1.alloc (.cells #[.int .i64 (v:Int),.int .i64 (s:Int),.bool b,.int .i64 KN,.slice none 0 0] 27));obtain⟨g10,hg10⟩:=zx w1.heap.size
  have hb2:Below w1.heap.size w1 W2:=by rw[hW2];exact(Below.refl _ _).alloc (Nat.le_refl _) _
  have hk2:W2.heap[g10]?=some (.cells #[.int .i64 (v:Int),.int .i64 (s:Int),.bool b,.int .i64 KN,.slice none 0 0] 27 (0,0)):=by rw[hW2,hg10];exact heap_alloc_new _ _
  have HB2:=zh (HB1.out.trans (hb2.mono HB1.out.size));have HIN2:=zh (show IncT W0 g10 (.int .i64 (v:Int)) (.int .i64 (s:Int)) (.bool b) (.int .i64 KN) W2 (.slice none 0 0) [] from⟨HB2.out,hk2,OwnCau.nil _ _,by rw[hg10];exact HB1.out.size⟩);have HW2:=zh hW2;have HG10:=zh hg10;clear hx hox hpx hst0 hst1 hv hs k1 k2 k3 hKM hlk hhd hpo hli hab hsp hKN hMM hX0 hX0' hHNB hP0 hW2 hg10 hb2 hk2;go_upto_region 2 with fail;rw[←HW2.out,←HG10.out];obtain⟨x0,x1,x2,x3,x4⟩:=cells5 HIN2.out.row;obtain⟨c0,c1,c2,c3,c4,c5,c6⟩:=HC.out W2 HB2.out;go_wp2_with fail;refine(HHD.out W2 HB2.out).mono ?_;rintro e w3 ⟨rfl,hb3⟩;have HIN3:=zh (HIN2.out.below hb3);clear hb3 x0 x1 x2 x3 x4 c0 c1 c2 c3 c4 c5 c6;obtain⟨x0,x1,x2,x3,x4⟩:=cells5 HIN3.out.row;obtain⟨c0,c1,c2,c3,c4,c5,c6⟩:=HC.out w3 HIN3.out.hot;go_wp2_with fail;refine(HPO.out w3 HIN3.out.hot).mono ?_;rintro e w5 ⟨⟨a0,a4,a5,a6,a7,a8,a9,a10,a11,a12,a13,a14,a15,a16,QQ,rfl,hone⟩,hb5⟩;have HON:=zh hone;have HIN5:=zh (HIN3.out.below hb5);have HTH:=zh (show(w5.alloc (.cells #[.string ⟨#[]⟩,.int .i64 0,.int .i64 0,.int .i64 0,.int .i64 0,.int .i64 0,.int .i64 0,.int .i64 0,.int .i64 0,.slice none 0 0,.slice none 0 0,.bool false,.slice none 0 0,.slice none 0 0,.bool false,.slice none 0 0,.slice none 0 0] 85)).there w5.heap.size 0 17 from there_of_block (w:=w5.alloc (.cells #[.string ⟨#[]⟩,.int .i64 0,.int .i64 0,.int .i64 0,.int .i64 0,.int .i64 0,.int .i64 0,.int .i64 0,.int .i64 0,.slice none 0 0,.slice none 0 0,.bool false,.slice none 0 0,.slice none 0 0,.bool false,.slice none 0 0,.slice none 0 0] 85)) (cs:=#[.string ⟨#[]⟩,.int .i64 0,.int .i64 0,.int .i64 0,.int .i64 0,.int .i64 0,.int .i64 0,.int .i64 0,.int .i64 0,.slice none 0 0,.slice none 0 0,.bool false,.slice none 0 0,.slice none 0 0,.bool false,.slice none 0 0,.slice none 0 0]) (heap_alloc_new w5 _) (Nat.le_refl 17));clear hb5 hone c0 c1 c2 c3 c4 c5 c6 x0 x1 x2 x3 x4;go_upto_region 6 with (refine wpList_store_mid rfl 85 (.tmp 14) (.tmp 38) rfl w5.heap.size 0 #[a0,.int .i64 KN,.int .i64 MM,QQ,a4,a5,a6,a7,a8,a9,a10,a11,a12,a13,a14,a15,a16] (by rfl) (by rfl) HTH.out size_pol HON.out ?_);obtain⟨W8,hW8⟩:=zx (World.setCells (w5.alloc (.cells #[.string ⟨#[]⟩,.int .i64 0,.int .i64 0,.int .i64 0,.int .i64 0,.int .i64 0,.int .i64 0,.int .i64 0,.int .i64 0,.slice none 0 0,.slice none 0 0,.bool false,.slice none 0 0,.slice none 0 0,.bool false,.slice none 0 0,.slice none 0 0] 85)) w5.heap.size 0 [a0,.int .i64 KN,.int .i64 MM,QQ,a4,a5,a6,a7,a8,a9,a10,a11,a12,a13,a14,a15,a16]);obtain⟨gp,hgp⟩:=zx w5.heap.size
  have hb8:Below w5.heap.size w5 W8:=by rw[hW8];exact below_setCellsV (Nat.le_refl _) _ _ _ ((Below.refl _ _).alloc (Nat.le_refl _) _)
  have hgr:W8.rangeAt gp 0 [a0,.int .i64 KN,.int .i64 MM,QQ,a4,a5,a6,a7,a8,a9,a10,a11,a12,a13,a14,a15,a16]:=by rw[hW8,hgp];exact World.rangeAt_setCells_same _ _ _ _ HTH.out
  have p1:W8.cell? ⟨gp,1,none⟩=some (.int .i64 KN):=hgr 1 _ rfl;have p2:W8.cell? ⟨gp,2,none⟩=some (.int .i64 MM):=hgr 2 _ rfl;have hgl:gp<W8.heap.size:=World.block_lt_of_cell? W8 _ p1
  have hgne:gp≠g10:=by have:=HIN5.out.lt;omega
  have HIN8:=zh (HIN5.out.below hb8);have HP8:=zh (And.intro hgl (And.intro hgne (And.intro p1 p2)));rw[←hW8,←hgp];(try simp only[Act.put,z1,z2,z3]);clear hW8 hgp hb8 hgr HTH HPO HON p1 p2 hgl hgne;obtain⟨c0,c1,c2,c3,c4,c5,c6⟩:=HC.out W8 HIN8.out.hot;go_wp2_with fail;refine(causes_any (.int .i64 EX) vl vm vd vp vo Ad ND cd W8 (by omega)).mono ?_;rintro e w9 ⟨v15,rfl,hoc,hb9⟩;have HIN9:=zh (HIN8.out.below hb9);obtain⟨NC,hNC⟩:=zx ((causeTo ND 0).length);have hncl:=causeTo_len ND 0;obtain⟨A15,c15,hv15⟩:=hoc.form;rw[←hNC] at hv15 hncl
  obtain⟨ba,rfl⟩:∃ba,A15=some ⟨ba,0,none⟩:=by
   rcases hoc.2 with ⟨e,e2⟩ | ⟨g,cap,cur,e,_⟩
   ·exact absurd (hNC.trans e2) (by omega)
   ·rw[hv15] at e;injection e with e;exact⟨g,e⟩
  subst hv15;have hbal:W8.heap.size≤ba∧ba<w9.heap.size:=hoc.lt ba rfl
  have HCA:=zh (show ∀w',HotBy [some g10] w9 w'→(∀k (hk:k<(causeTo ND 0).length),w'.cell? ⟨ba,k * 2,none⟩=some (.int .i64 (causeTo ND 0)[k].state)∧w'.cell? ⟨ba,k * 2+1,none⟩=some (.int .i64 (causeTo ND 0)[k].drive))∧w'.cell? ⟨gp,1,none⟩=some (.int .i64 KN)∧w'.cell? ⟨gp,2,none⟩=some (.int .i64 MM) from fun w' hh=>by
   have hne:some ba∉[some g10]:=by simp;have:=HIN8.out.lt;omega
   have e1:=hh.block ba hbal.2 hne
   have hne2:some gp∉[some g10]:=by simp;exact HP8.out.2.1
   have e2:=(hh.block gp (Nat.lt_of_lt_of_le HP8.out.1 hb9.size) hne2).trans (hb9.block gp HP8.out.1);refine⟨fun k hk=>?_,(World.cell?_of_block e2).trans HP8.out.2.2.1,(World.cell?_of_block e2).trans HP8.out.2.2.2⟩;have h0:=World.ownsRow.cells hoc (g:=ba) rfl _ _ (flat_cau _ k _ (List.getElem?_eq_getElem hk) 0 _ rfl);have h1:=World.ownsRow.cells hoc (g:=ba) rfl _ _ (flat_cau _ k _ (List.getElem?_eq_getElem hk) 1 _ rfl);rw[addr0] at h0 h1
   exact⟨(World.cell?_of_block e1).trans h0,(World.cell?_of_block e1).trans h1⟩)
  have HCM:=zh (show ∀c,c∈causeTo ND 0↔c∈causeC F from fun c=>by rw[HE.out.2,causeTo_all]);have HNC:=zh hNC;have HNL:=zh hncl;clear hoc hb9 hNC hncl hbal c0 c1 c2 c3 c4 c5 c6;go_wp2_with fail;go_loopg [12,13,16] KM (fun z v12 v13 v16 wr=>∃(i pos:Nat) (cs:List Cau) (cv:Value),v16=.int .i64 (i:Int)∧v12=.int .i64 (pos:Int)∧v13=.int .i64 ((i:Int)+1)∧i≤KM∧z=KM - i∧Hid (cs.length=i)∧Hid (StP F L SL (mkX X0) cs pos)∧Hid (IncT W0 g10 (.int .i64 (v:Int)) (.int .i64 (s:Int)) (.bool b) (.int .i64 KN) wr cv cs)∧Hid (HotBy [some g10] w9 wr))
  case atStart=>exact⟨0,P0,[],_,rfl,by rw[HP0.out],rfl,Nat.zero_le _,rfl,zh rfl,HST0,HIN9,zh (HotBy.refl _ _)⟩
  case round =>
   obtain⟨i,pos,cs,cv,rfl,rfl,rfl,hi,rfl,HCL,HST,HIN,HHB⟩:=hrel;obtain⟨-,p1,p2⟩:=HCA.out wr HHB.out
   have hi10:i≤10:=by have:=HKL.out;omega
   by_cases hlt:i<KM
   ·have HLT:=zh hlt;go_wp2_with fail;clear p1 p2;obtain⟨wi,rfl⟩:=zx (wr:World);go_loopg [12,13,17,18] NC (fun z v12 v13 v17 v18 wr=>∃(k pos':Nat) (fd:Bool) (cs':List Cau) (cv':Value),v18=.int .i64 (k:Int)∧v17=.bool fd∧v12=.int .i64 (pos':Int)∧v13=.int .i64 ((cs'.length:Nat)+1:Int)∧k≤NC∧z=NC - k∧Hid (StP F L SL (mkX X0) cs' pos')∧Hid (IncT W0 g10 (.int .i64 (v:Int)) (.int .i64 (s:Int)) (.bool b) (.int .i64 KN) wr cv' cs')∧Hid (HotBy [some g10] w9 wr)∧Hid (fd=true→cs'.length=i+1)∧Hid (fd=false→cs'=cs∧pos'=pos∧∀j (hj:j<(causeTo ND 0).length),j<k→(lineF F i (causeTo ND 0)[j]++[10]) <+: SL.drop pos→ableB F (mkX X0 (cs++[(causeTo ND 0)[j]]))=false))
    case atStart=>exact⟨0,pos,false,cs,cv,rfl,rfl,rfl,by rw[HCL.out],Nat.zero_le _,rfl,HST,HIN,HHB,zh (fun h=>by cases h),zh (fun _=>⟨rfl,rfl,fun j _ h=>by omega⟩)⟩
    case round =>
     obtain⟨k,pos',fd,cs',cv',rfl,rfl,rfl,rfl,hk,rfl,HST',HIN',HHB',HFT,HFF⟩:=hrel
     have hk100:k≤1000:=by have:=HNL.out;omega
     cases fd with
     | true =>
      have hft:=HFT.out rfl;have HFI:=zh hft;clear hft;by_cases hkn:k<NC
      ·have t1:decide ((k:Int)<(NC:Int))=true:=decide_eq_true (by omega);go_wp2_with fail;go_roundg (KM - (i+1))
       case measure=>have:=HLT.out;omega
       case rel=>exact⟨i+1,pos',cs',cv',by go_num,rfl,by rw[HFI.out],by have:=HLT.out;omega,rfl,HFI,HST',HIN',HHB'⟩
      ·have t1:decide ((k:Int)<(NC:Int))=false:=decide_eq_false (by omega);go_wp2_with fail;go_roundg (KM - (i+1))
       case measure=>have:=HLT.out;omega
       case rel=>exact⟨i+1,pos',cs',cv',by go_num,rfl,by rw[HFI.out],by have:=HLT.out;omega,rfl,HFI,HST',HIN',HHB'⟩
     | false =>
      obtain⟨e1,e2,hno⟩:=HFF.out rfl;subst e1;subst e2;have HNON:=zh hno;obtain⟨Ac,cc,hcv⟩:=HIN'.out.own.form;obtain⟨CI,hCI⟩:=zx cs'.length;rw[←hCI] at hcv;rw[←hCI];subst hcv;have HCI:=zh hCI.symm;have HIK:=zh (show CI=i∧i<KM from⟨by have:=HCL.out;omega,HLT.out⟩);clear hno hCI;by_cases hkn:k<NC
      ·have t1:decide ((k:Int)<(NC:Int))=true:=decide_eq_true (by omega);have HKN:=zh hkn
       have hkc:k<(causeTo ND 0).length:=by rw[←HNC.out];exact hkn
       have i1:(k:Int)<(NC:Int):=by omega
       have hcm:=(HCM.out _).1 (List.getElem_mem hkc)
       have hcell:=fun(w':World) (hh:HotBy [some g10] w9 w')=>(HCA.out w' hh).1 k hkc
       obtain⟨c,hc⟩:=zx ((causeTo ND 0)[k]);rw[←hc] at hcm hcell;obtain⟨st,dr⟩:=c;simp only at hcell;have HCK:=zh hc;have HCMK:=zh hcm;have HCELL:=zh hcell;obtain⟨W14,hW14⟩:=zx (wr.alloc (.cells #[.int .i64 (v:Int),.int .i64 (s:Int),.bool b,.int .i64 KN,.slice Ac CI cc] 27));obtain⟨g19,hg19⟩:=zx wr.heap.size
       have hb14:Below wr.heap.size wr W14:=by rw[hW14];exact(Below.refl _ _).alloc (Nat.le_refl _) _
       have hk14:W14.heap[g19]?=some (.cells #[.int .i64 (v:Int),.int .i64 (s:Int),.bool b,.int .i64 KN,.slice Ac CI cc] 27 (0,0)):=by rw[hW14,hg19];exact heap_alloc_new _ _
       have hin14:=HIN'.out.below hb14;have hhb14:=HHB'.out.trans (HotBy.below hb14);have HK14:=zh (And.intro hk14 (Array.getElem?_eq_some_iff.1 hk14).1);have HB14:=zh hb14;have HG19:=zh (show wr.heap.size≤g19 by omega);have HCS:=zh (fun(w':World) (hb:Below W14.heap.size W14 w')=>(show SlS 2 CauK w' (Bl W14.heap.size) (.slice Ac CI cc) cs' from SlS.mono cauK (SlS.keep cauK hin14.own.slS (fun x hx=>hb.block x hx.2)) (fun x hx=>hx.2)))
       have HSF:=zh (fun(w':World) (hb:Below W14.heap.size W14 w')=>(show w'.cell? ⟨g10,4,none⟩=some (.slice Ac CI cc)∧w'.cell? ⟨ba,k * 2,none⟩=some (.int .i64 st)∧w'.cell? ⟨ba,k * 2+1,none⟩=some (.int .i64 dr)∧Below W14.heap.size W14 w' from by
        obtain⟨h1,h2⟩:=hcell w' (hhb14.trans (HotBy.below hb))
        exact⟨(cells5 (hin14.below hb).row).2.2.2.2,h1,h2,hb⟩))
       have HW14:=zh hW14;have HG19E:=zh hg19;obtain⟨x0,x1,x2,x3,x4⟩:=cells5 HIN'.out.row;clear hcm hcell hc hW14 hg19 hb14 hk14 hin14 hhb14;go_upto_region 15 with fail;rw[←HW14.out,←HG19E.out];clear x0 x1 x2 x3 x4;go_cut [] from 50 to 94 (fun wc=>∃(Ay:Option Addr) (ky:Nat),Hid (wc.heap[g19]?=some (.cells #[.int .i64 (v:Int),.int .i64 (s:Int),.bool b,.int .i64 KN,.slice Ay (CI+1) ky] 27 (0,0)))∧Hid (OwnCau wc W14.heap.size (.slice Ay (CI+1) ky) (cs'++[⟨st,dr⟩]))∧Hid (Below wr.heap.size wr wc))
       case first =>
        refine region_tail (S:=(fun w'=>w'.cell? ⟨g10,4,none⟩=some (.slice Ac CI cc)∧w'.cell? ⟨ba,k * 2,none⟩=some (.int .i64 st)∧w'.cell? ⟨ba,k * 2+1,none⟩=some (.int .i64 dr)∧Below W14.heap.size W14 w')) [10] (by kernel_rfl) (HSF.out _ (Below.refl _ _).drew) (fun hHeld=>?_);refine tk 0 61 ?_;refine tk 1 62 ?_;refine tk 3 64 ?_;refine tk 4 65 ?_;refine tk 5 66 ?_;refine tk 6 67 ?_;refine readyT (rs:=[2,7]) (by kernel_rfl) (by simp) ?_;refine AllReadyT.cons rfl (fun K hK=>?_) ?_
        ·refine step_caus rfl (.const (.slice none 0 0)) (.tmp 62) rfl (Bl W14.heap.size) (.slice Ac CI cc) cs' (by rfl) (by rfl) (HCS.out _ hHeld.2.2.2) (by have:=HCI.out;have:=HIK.out;have:=HKL.out;omega) ?_;intro vq w2 hq hbq;obtain⟨Aq,kq,hvq⟩:=hq.form;rw[HCI.out] at hvq;subst hvq;have hqB:OwnCau w2 W14.heap.size (.slice Aq CI kq) cs':=hq.base hHeld.2.2.2.size;refine hK.out _ _ ?_ (fun hHeld=>?_)
         ·(first|exact HSF.out _ hb8|exact HSF.out _ (hHeld.2.2.2.trans (hbq.mono hHeld.2.2.2.size))|exact HSF.out _ (hHeld.2.2.2.alloc hHeld.2.2.2.size _))
         clear hK K;(try simp only[Act.put,z1,z2,z3]);refine readyT (rs:=[7]) (by kernel_rfl) (by simp) ?_;refine AllReadyT.cons rfl (fun K hK=>?_) ?_
         ·go_simp
          first|have hX:=heap_alloc_new w2 (.cells #[.int .i64 st,.int .i64 dr] 102)|have hX:=heap_alloc_new W14.drew (.cells #[.int .i64 st,.int .i64 dr] 102)
          refine hK.out _ _ ?_ (fun hHeld=>?_)
          ·(first|exact HSF.out _ hb8|exact HSF.out _ (hHeld.2.2.2.trans (hbq.mono hHeld.2.2.2.size))|exact HSF.out _ (hHeld.2.2.2.alloc hHeld.2.2.2.size _))
          clear hK K;(try simp only[Act.put,z1,z2,z3]);refine readyT (rs:=[8]) (by kernel_rfl) (by simp) ?_;refine AllReadyT.cons rfl (fun K hK=>?_) ?_
          ·first | have hx8:=(hbq.block _ (Array.getElem?_eq_some_iff.1 hX).1).trans hX | have hx8:=hX
           refine step_acau ⟨st,dr⟩ rfl (.tmp 63) (.tmp 68) rfl W14.heap.size (.slice Aq CI kq) cs' (by rfl) (by first | exact hqB | exact hqB.below ((Below.refl _ _).alloc (Nat.le_refl _) _)) _ (by rfl) hx8 (by have:=HCI.out;have:=HIK.out;have:=HKL.out;omega) hHeld.2.2.2.size ?_;intro v8 w8 how8 hg8 hat8;obtain⟨A8,k8,hv8⟩:=how8.form;rw[List.length_append,List.length_singleton,HCI.out] at hv8;subst hv8;have hb8:=hHeld.2.2.2.grown hg8 hHeld.2.2.2.size (fun b hb=>(hqB.lt b hb).1);have hk8:=(hb8.block g19 HK14.out.2).trans HK14.out.1;have d4:=(cells5 hk8).2.2.2.2;have f4:=frozen_of_row _ _ 4 _ _ hk8;refine hK.out _ _ ?_ (fun hHeld=>?_)
           ·(first|exact HSF.out _ hb8|exact HSF.out _ (hHeld.2.2.2.trans (hbq.mono hHeld.2.2.2.size))|exact HSF.out _ (hHeld.2.2.2.alloc hHeld.2.2.2.size _))
           clear hK K;(try simp only[Act.put,z1,z2,z3]);refine tk 9 70 ?_;refine readyT (rs:=[10]) (by kernel_rfl) (by simp) ?_;refine AllReadyT.consT rfl rfl (fun K hK=>?_) ?_
           ·go_simp;refine hK.out _ _ ?_;clear hK K;(try simp only[Act.put,z1,z2,z3]);refine doneT (by kernel_rfl) ?_ _;clear hHeld;have HK8:=zh hk8;have HOW8:=zh how8;have HB8:=zh hb8;clear hk8 how8 hb8 hg8 hat8;go_wp2_with fail;go_meet;exact⟨A8,k8,zh (heap_setCell_same _ g19 4 _ _ _ HK8.out),zh (own_keepB HOW8.out (fun b hb=>(Lib.grownBy_setCell w8 g19 4 _).block b (HOW8.out.lt b hb).2 (fun e=>by injection e with e;have h1:=(HOW8.out.lt b hb).1;have h2:=HK14.out.2;omega))),zh ((HB14.out.trans (HB8.out.mono HB14.out.size)).setCell (p:=⟨g19,4,none⟩) HG19.out _)⟩
           exact AllReadyT.nil
          exact AllReadyT.nil
         exact AllReadyT.nil
        refine AllReadyT.cons rfl (fun K hK=>?_) ?_
        ·go_simp
         first|have hX:=heap_alloc_new w2 (.cells #[.int .i64 st,.int .i64 dr] 102)|have hX:=heap_alloc_new W14.drew (.cells #[.int .i64 st,.int .i64 dr] 102)
         refine hK.out _ _ ?_ (fun hHeld=>?_)
         ·(first|exact HSF.out _ hb8|exact HSF.out _ (hHeld.2.2.2.trans (hbq.mono hHeld.2.2.2.size))|exact HSF.out _ (hHeld.2.2.2.alloc hHeld.2.2.2.size _))
         clear hK K;(try simp only[Act.put,z1,z2,z3]);refine readyT (rs:=[2]) (by kernel_rfl) (by simp) ?_;refine AllReadyT.cons rfl (fun K hK=>?_) ?_
         ·refine step_caus rfl (.const (.slice none 0 0)) (.tmp 62) rfl (Bl W14.heap.size) (.slice Ac CI cc) cs' (by rfl) (by rfl) (HCS.out _ hHeld.2.2.2) (by have:=HCI.out;have:=HIK.out;have:=HKL.out;omega) ?_;intro vq w2 hq hbq;obtain⟨Aq,kq,hvq⟩:=hq.form;rw[HCI.out] at hvq;subst hvq;have hqB:OwnCau w2 W14.heap.size (.slice Aq CI kq) cs':=hq.base hHeld.2.2.2.size;refine hK.out _ _ ?_ (fun hHeld=>?_)
          ·(first|exact HSF.out _ hb8|exact HSF.out _ (hHeld.2.2.2.trans (hbq.mono hHeld.2.2.2.size))|exact HSF.out _ (hHeld.2.2.2.alloc hHeld.2.2.2.size _))
          clear hK K;(try simp only[Act.put,z1,z2,z3]);refine readyT (rs:=[8]) (by kernel_rfl) (by simp) ?_;refine AllReadyT.cons rfl (fun K hK=>?_) ?_
          ·first | have hx8:=(hbq.block _ (Array.getElem?_eq_some_iff.1 hX).1).trans hX | have hx8:=hX
           refine step_acau ⟨st,dr⟩ rfl (.tmp 63) (.tmp 68) rfl W14.heap.size (.slice Aq CI kq) cs' (by rfl) (by first | exact hqB | exact hqB.below ((Below.refl _ _).alloc (Nat.le_refl _) _)) _ (by rfl) hx8 (by have:=HCI.out;have:=HIK.out;have:=HKL.out;omega) hHeld.2.2.2.size ?_;intro v8 w8 how8 hg8 hat8;obtain⟨A8,k8,hv8⟩:=how8.form;rw[List.length_append,List.length_singleton,HCI.out] at hv8;subst hv8;have hb8:=hHeld.2.2.2.grown hg8 hHeld.2.2.2.size (fun b hb=>(hqB.lt b hb).1);have hk8:=(hb8.block g19 HK14.out.2).trans HK14.out.1;have d4:=(cells5 hk8).2.2.2.2;have f4:=frozen_of_row _ _ 4 _ _ hk8;refine hK.out _ _ ?_ (fun hHeld=>?_)
           ·(first|exact HSF.out _ hb8|exact HSF.out _ (hHeld.2.2.2.trans (hbq.mono hHeld.2.2.2.size))|exact HSF.out _ (hHeld.2.2.2.alloc hHeld.2.2.2.size _))
           clear hK K;(try simp only[Act.put,z1,z2,z3]);refine tk 9 70 ?_;refine readyT (rs:=[10]) (by kernel_rfl) (by simp) ?_;refine AllReadyT.consT rfl rfl (fun K hK=>?_) ?_
           ·go_simp;refine hK.out _ _ ?_;clear hK K;(try simp only[Act.put,z1,z2,z3]);refine doneT (by kernel_rfl) ?_ _;clear hHeld;have HK8:=zh hk8;have HOW8:=zh how8;have HB8:=zh hb8;clear hk8 how8 hb8 hg8 hat8;go_wp2_with fail;go_meet;exact⟨A8,k8,zh (heap_setCell_same _ g19 4 _ _ _ HK8.out),zh (own_keepB HOW8.out (fun b hb=>(Lib.grownBy_setCell w8 g19 4 _).block b (HOW8.out.lt b hb).2 (fun e=>by injection e with e;have h1:=(HOW8.out.lt b hb).1;have h2:=HK14.out.2;omega))),zh ((HB14.out.trans (HB8.out.mono HB14.out.size)).setCell (p:=⟨g19,4,none⟩) HG19.out _)⟩
           exact AllReadyT.nil
          exact AllReadyT.nil
         exact AllReadyT.nil
        exact AllReadyT.nil
       case rest =>
        obtain⟨Ay,ky,HKY,HOY,HBY⟩:=hcut;obtain⟨wy,rfl⟩:=zx (wc:World);have hiny:=HIN'.out.below HBY.out;have hhby:=HHB'.out.trans (HotBy.below HBY.out)
        have hlc:=fun(w':World) (hb:Below wy.heap.size wy w')=>HLI.out i (by have:=HIK.out;have:=HKL.out;omega) ⟨st,dr⟩ HCMK.out w' (hiny.hot.trans (hb.mono hiny.hot.size))
        obtain⟨LNB,hLNB⟩:=zx (lineN F i ⟨st,dr⟩);rw[←hLNB] at hlc;simp only at hlc;have HLC:=zh hlc
        have HSG:=zh (fun(w':World) (hb:Below wy.heap.size wy w')=>(show(w'.cell? ⟨z,0,none⟩=some (.int .i64 EX)∧w'.cell? ⟨z,1,none⟩=some vl∧w'.cell? ⟨z,2,none⟩=some vm∧w'.cell? ⟨z,3,none⟩=some vd∧w'.cell? ⟨z,4,none⟩=some (.slice Ad ND cd)∧w'.cell? ⟨z,5,none⟩=some vp∧w'.cell? ⟨z,6,none⟩=some vo)∧w'.cell? ⟨ba,k * 2,none⟩=some (.int .i64 st)∧w'.cell? ⟨ba,k * 2+1,none⟩=some (.int .i64 dr)∧Below wy.heap.size wy w' from by
         obtain⟨h1,h2⟩:=HCELL.out w' (hhby.trans (HotBy.below hb))
         exact⟨HC.out w' (hiny.hot.trans (hb.mono hiny.hot.size)),h1,h2,hb⟩))
        have HINY:=zh hiny;have HHBY:=zh hhby;have HLNB:=zh hLNB;clear hiny hhby hlc hLNB;go_upto_region 16 with fail;go_cut [20] from 50 to 94 (fun v20 wc=>v20=.string LNB∧Hid (Below wy.heap.size wy wc))
        case first =>
         refine region_tail (S:=(fun w'=>(w'.cell? ⟨z,0,none⟩=some (.int .i64 EX)∧w'.cell? ⟨z,1,none⟩=some vl∧w'.cell? ⟨z,2,none⟩=some vm∧w'.cell? ⟨z,3,none⟩=some vd∧w'.cell? ⟨z,4,none⟩=some (.slice Ad ND cd)∧w'.cell? ⟨z,5,none⟩=some vp∧w'.cell? ⟨z,6,none⟩=some vo)∧w'.cell? ⟨ba,k * 2,none⟩=some (.int .i64 st)∧w'.cell? ⟨ba,k * 2+1,none⟩=some (.int .i64 dr)∧Below wy.heap.size wy w')) [] (by kernel_rfl) (HSG.out _ (Below.refl _ _).drew) (fun hHeld=>?_);refine tk 0 71 ?_;refine tk 1 72 ?_;refine tk 2 73 ?_;refine tk 3 74 ?_;refine tk 4 75 ?_;refine tk 5 76 ?_;refine readyT (rs:=[6]) (by kernel_rfl) (by simp) ?_;refine AllReadyT.cons rfl (fun K hK=>?_) ?_
         ·go_simp;refine(HLC.out _ hHeld.2.2.2).mono ?_;rintro e w6 ⟨rfl,hb6⟩;refine hK.out _ _ ?_ (fun hHeld=>?_)
          ·exact HSG.out _ (hHeld.2.2.2.trans (hb6.mono hHeld.2.2.2.size))
          clear hK K;(try simp only[Act.put,z1,z2,z3]);refine tk 7 20 ?_;refine doneT (by kernel_rfl) ?_ _;have HB6:=zh hHeld.2.2.2;clear hHeld hb6;go_wp2_with fail;go_meet;exact⟨rfl,HB6⟩
         exact AllReadyT.nil
        case rest =>
         obtain⟨rfl,HBD⟩:=hcut;have hpl:=HST'.out.1.1;rw[HSS.out.2] at hpl
         have c1:(0:Int)≤(pos':Int):=by omega
         have c2:(pos':Int)≤(S.size:Int):=by omega
         have c3:(S.size:Int)≤1000000:=by omega
         have hind:=HINY.out.below HBD.out;have hhbd:=HHBY.out.trans (HotBy.below HBD.out);have hg19l:g19<wy.heap.size:=(Array.getElem?_eq_some_iff.1 HKY.out).1;have hkd:=(HBD.out.block g19 hg19l).trans HKY.out;have hod:OwnCau wc W0.heap.size (.slice Ay (CI+1) ky) (cs'++[⟨st,dr⟩]):=OwnCau.below (HOY.out.base (Nat.le_trans HIN'.out.hot.size HB14.out.size)) HBD.out;have hbg:=begins_any (S.extract pos' S.size) LNB wc (by rw[ByteArray.size_extract];omega);obtain⟨pv,hpv⟩:=zx (LNB.data.toList.isPrefixOf (S.extract pos' S.size).data.toList);rw[←hpv] at hbg
         have hpx:pv=true↔(lineF F i ⟨st,dr⟩++[10]) <+: SL.drop pos':=by
          rw[hpv,ext_list _ _ _ (Nat.le_refl _),←HSL.out,List.isPrefixOf_iff_prefix,HLNB.out];have e3:(SL.drop pos').take (S.size - pos')=SL.drop pos':=List.take_of_length_le (by rw[List.length_drop,HSS.out.2];exact Nat.le_refl _);rw[e3];unfold lineN;simp
         have HBG:=zh hbg;have HPX:=zh hpx;have HIND:=zh hind;have HHBD:=zh hhbd;have HKD:=zh (And.intro hkd (Array.getElem?_eq_some_iff.1 hkd).1);have HOD:=zh hod;clear hpl hind hhbd hg19l hkd hod hbg hpv hpx;go_wp2_with fail;refine HBG.out.mono ?_;rintro e wb ⟨rfl,rfl⟩
         cases pv with
         | false =>
          go_wp2_with fail;go_roundg (NC - (k+1))
          case measure=>have:=HKN.out;omega
          case rel=>exact⟨k+1,pos',false,cs',_,by go_num,rfl,rfl,by rw[HCI.out],by have:=HKN.out;omega,rfl,HST',HIND,HHBD,zh (fun h=>by cases h),zh (fun _=>⟨rfl,rfl,fun j hj hjk hp=>by
           rcases (show j=k∨j<k by omega) with rfl | h
           ·rw[←HCK.out] at hp;have:=HPX.out.2 hp
            cases this
           ·exact HNON.out j hj h hp⟩)⟩
         | true =>
          have hpre:=HPX.out.1 rfl;have HPRE:=zh hpre
          have hab:=HAB.out Ay (CI+1) ky (cs'++[⟨st,dr⟩]) wc HIND.out.hot (by rw[List.length_append,List.length_singleton,HCI.out]) (SlS.mono cauK HOD.out.slS (fun x hx=>hx.2)) (fun c hc=>cause_st (by
           rcases List.mem_append.1 hc with h1 | h1
           ·exact HST'.out.2.2 c h1
           ·rw[List.mem_singleton.1 h1];exact HCMK.out)) (by have:=HIK.out;omega)
          obtain⟨av,hav⟩:=zx (ableB F (mkX X0 (cs'++[⟨st,dr⟩])));rw[←hav] at hab;have HABK:=zh hab;have HAV:=zh hav;obtain⟨y0,y1,y2,y3,y4⟩:=cells5 HKD.out.1;obtain⟨d0,d1,d2,d3,d4,d5,d6⟩:=HC.out wc HIND.out.hot;clear hpre hab hav;go_wp2_with fail;refine HABK.out.mono ?_;rintro e w7 ⟨rfl,hb7⟩;have HIN7:=zh (HIND.out.below hb7);have HHB7:=zh (HHBD.out.trans (HotBy.below hb7));have HK7:=zh ((hb7.block g19 HKD.out.2).trans HKD.out.1);have HO7:=zh (HOD.out.below hb7);clear hb7 y0 y1 y2 y3 y4 d0 d1 d2 d3 d4 d5 d6
          cases av with
          | false =>
           go_wp2_with fail;go_roundg (NC - (k+1))
           case measure=>have:=HKN.out;omega
           case rel=>exact⟨k+1,pos',false,cs',_,by go_num,rfl,rfl,by rw[HCI.out],by have:=HKN.out;omega,rfl,HST',HIN7,HHB7,zh (fun h=>by cases h),zh (fun _=>⟨rfl,rfl,fun j hj hjk hp=>by
            rcases (show j=k∨j<k by omega) with rfl | h
            ·rw[←HCK.out];exact HAV.out.symm
            ·exact HNON.out j hj h hp⟩)⟩
          | true =>
           obtain⟨y0,y1,y2,y3,y4⟩:=cells5 HK7.out;obtain⟨z0,z1,z2,z3,z4⟩:=cells5 HIN7.out.row
           have zf:=fun i=>frozen_of_row w7 g10 i _ _ HIN7.out.row
           have f0:=zf 0;have f1:=zf 1;have f2:=zf 2;have f3:=zf 3;have f4:=zf 4;obtain⟨PN,hPN⟩:=zx (pos'+LNB.size);have hnx:=HST'.out.next HOK.out hN (by rw[HLK.out,HCI.out];have:=HIK.out;omega) (by rw[HCI.out];have:=HIK.out;have:=HKL.out;omega) HCMK.out (by rw[HCI.out,HIK.out.1];exact HPRE.out) HAV.out.symm
           have hls:LNB.size=(lineF F i ⟨st,dr⟩).length+1:=by
            rw[HLNB.out];show(lineF F i ⟨st,dr⟩++[10]).toArray.size=_;simp
           have hpe:pos'+((lineF F cs'.length ⟨st,dr⟩).length+1)=PN:=by rw[HCI.out,HIK.out.1,←hls,hPN]
           rw[hpe] at hnx;have hpb:=hnx.1.1;rw[HSS.out.2] at hpb
           have hpn:IntKind.i64.wrap ((pos':Int)+(LNB.size:Int))=(PN:Int):=by rw[hPN,show(pos':Int)+(LNB.size:Int)=((pos'+LNB.size:Nat):Int) by omega];exact IntWalk.i64_in _ (by omega)
           have hcn:IntKind.i64.wrap ((CI:Int)+1+1)=(CI:Int)+1+1:=IntWalk.i64_in _ (by have:=HIK.out;have:=HKL.out;omega);have HNX:=zh hnx;have HSW:=zh (HIN7.out.swap HO7.out);clear zf hPN hnx hls hpe hpb;go_wp2_with fail;go_roundg (NC - (k+1))
           case measure=>have:=HKN.out;omega
           case rel=>exact⟨k+1,PN,true,cs'++[⟨st,dr⟩],.slice Ay (CI+1) ky,by go_num,rfl,rfl,by rw[List.length_append,List.length_singleton,HCI.out];simp,by have:=HKN.out;omega,rfl,HNX,zh HSW.out.1,zh (HHB7.out.trans HSW.out.2),zh (fun _=>by rw[List.length_append,List.length_singleton,HCI.out,HIK.out.1]),zh (fun h=>by cases h)⟩
      ·have t1:decide ((k:Int)<(NC:Int))=false:=decide_eq_false (by omega)
       have hstop:=HST'.out.stop HOK.out hN (by rw[HLK.out,HCI.out];have:=HIK.out;omega) (fun c hc hp=>by
        obtain⟨j,hj,e⟩:=List.getElem_of_mem ((HCM.out c).2 hc);subst e;refine HNON.out j hj (by rw[←HNC.out] at hj;omega) ?_;rw[HCI.out,HIK.out.1] at hp
        exact hp)
       have HSTOP:=zh hstop;obtain⟨x0,x1,x2,x3,x4⟩:=cells5 HIN'.out.row;obtain⟨z0,z1,z2,z3,z4⟩:=cells5 (HRK.out wr HIN'.out.hot)
       have zf:=fun i=>frozen_of_row wr gR i _ _ (HRK.out wr HIN'.out.hot)
       have f0:=zf 0;have f1:=zf 1;have f2:=zf 2;have f3:=zf 3;have f4:=zf 4;clear hstop zf;go_wp2_with fail;obtain⟨hz,-,hbz⟩:=HEND.out wr HIN'.out.hot (.int .i64 (v:Int)) (.int .i64 (s:Int)) (.bool b) (.int .i64 KN) (.slice Ac CI cc);obtain⟨n0,n1,n2,n3,n4⟩:=cells5 hz;refine bodyPost_ret (v:=.tuple #[.agg #[.int .i64 (v:Int),.int .i64 (s:Int),.bool b,.int .i64 KN,.slice Ac CI cc],.int .i64 (pos':Int),.int .i64 ((CI+1:Nat):Int),.bool false]) ?_ rfl ⟨⟨_,_,_,_,_,_,_,pos',CI+1,false,rfl,by have:=HIK.out;have:=HKL.out;omega,fun n=>by rw[HSTOP.out n,HCI.out,Nat.add_comm 1 CI]⟩,hbz⟩;simp[results,Tryz.results59,go_sem,n0,n1,n2,n3,n4]
   ·have hie:i=KM:=by omega
    have hlk0:=HLK.out cs;rw[HCL.out,hie] at hlk0;have HLK0:=zh (show lackI F (mkX X0 cs)=0 by omega);obtain⟨Ac,cc,hcv⟩:=HIN.out.own.form;rw[HCL.out] at hcv;subst hcv;obtain⟨x0,x1,x2,x3,x4⟩:=cells5 HIN.out.row;obtain⟨z0,z1,z2,z3,z4⟩:=cells5 (HRK.out wr HIN.out.hot)
    have zf:=fun i=>frozen_of_row wr gR i _ _ (HRK.out wr HIN.out.hot)
    have f0:=zf 0;have f1:=zf 1;have f2:=zf 2;have f3:=zf 3;have f4:=zf 4;have t1:decide ((i:Int)<(KM:Int))=false:=decide_eq_false (by omega);have HIE:=zh hie;clear zf hlk0 hie;go_wp2_with fail;obtain⟨hz,hhz,hbz⟩:=HEND.out wr HIN.out.hot (.int .i64 (v:Int)) (.int .i64 (s:Int)) (.bool b) (.int .i64 KN) (.slice Ac i cc);obtain⟨n0,n1,n2,n3,n4⟩:=cells5 hz;refine bodyPost_ret (v:=.tuple #[.agg #[.int .i64 (v:Int),.int .i64 (s:Int),.bool b,.int .i64 KN,.slice Ac i cc],.int .i64 (pos:Int),.int .i64 ((i+1:Nat):Int),.bool true]) ?_ rfl ⟨⟨_,_,_,_,_,_,_,pos,i+1,true,rfl,by have:=HIE.out;have:=HKL.out;omega,X0,cs,HX0.out.1,⟨HX0.out.2.1.symm,HX0.out.2.2.1.symm,HX0.out.2.2.2.1.symm,HX0.out.2.2.2.2.symm⟩,?_,HST.out,HLK0.out,by rw[HCL.out,Nat.add_comm]⟩,hbz⟩
    ·simp[results,Tryz.results59,go_sem,n0,n1,n2,n3,n4]
    ·exact OwnCau.base (own_hot HIN.out.own hhz (fun x hx e=>by simp at e;have h1:=(HIN.out.own.lt x hx).1;have:=HRL.out;omega)) HB0.out.size
end Go.Proofs.YtcfkllnpkmebpaaGreatDoor
