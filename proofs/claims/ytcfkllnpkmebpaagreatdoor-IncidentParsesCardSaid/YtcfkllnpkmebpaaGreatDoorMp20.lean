/- The sanity check of layer 44, walked. -/
import Derived.Test.YtcfkllnpkmebpaaGreatDoorMp07
import Derived.Test.YtcfkllnpkmebpaaGreatDoorMp19
import Derived.Test.YtcfkllnpkmebpaaGreatDoorMp01
import Derived.Test.YtcfkllnpkmebpaaGreatDoorMp04
import Derived.Test.YtcfkllnpkmebpaaGreatDoorMp15
import Derived.Test.YtcfkllnpkmebpaaGreatDoorMp08
import Derived.Test.YtcfkllnpkmebpaaGreatDoorMp03
set_option maxRecDepth 100000
set_option maxHeartbeats 12800000
namespace Go.Proofs.YtcfkllnpkmebpaaGreatDoor
open Go.RowKit
set_option linter.unusedVariables false
set_option linter.unusedSimpArgs false
theorem awake44_any(w:World):Calls Tryz.prog 10 #[] w fun e w'=>e=.returned (.bool true)∧Below w.heap.size w w':=by
 obtain⟨W1,hW1⟩:=zx (w.alloc (.cells #[.slice none 0 0,.int .i64 0] 75));obtain⟨gT,hgT⟩:=zx w.heap.size
 have hT1:TapeB W1 gT (.slice none 0 0) 0:=by rw[hW1,hgT];exact heap_alloc_new w _
 have hb1:Below w.heap.size w W1:=by rw[hW1];exact(Below.refl _ _).alloc (Nat.le_refl _) _
 have HFL:=zh (fleet_any gT (.slice none 0 0) [] 0 1 W1 (fun _=>False) hT1 ⟨Row.nil _ _ _,fun x hx=>by cases hx⟩ (fun b h=>h.elim) (by omega) (by omega) (by omega));have HW1:=zh hW1;have HGT:=zh hgT;have HB1:=zh hb1;clear hW1 hgT hT1 hb1;go_enter Tryz.func10,Tryz.ntmps10;go_wp2_with fail;rw[←HW1.out,←HGT.out];refine HFL.out.mono ?_;rintro e w2 ⟨vl,vm,vd,vv,vp,vo,F,I0,rfl,hfs,hT2,hI0,hg,hok⟩;obtain⟨Al,nl,cl,hvl⟩:=hfs.1.form3;obtain⟨Am,nm,cm,hvm⟩:=hfs.2.1.form3;obtain⟨Ad,nd,cd,hvd⟩:=hfs.2.2.1.form3;obtain⟨Av,nv,cv,hvv⟩:=hfs.2.2.2.1.form3;obtain⟨Ap,np,cp,hvp⟩:=hfs.2.2.2.2.1.form3;obtain⟨Ao,no,co,hvo⟩:=hfs.2.2.2.2.2.form3;subst hvl hvm hvd hvv hvp hvo;have hb2:Below w.heap.size w w2:=HB1.out.grown hg HB1.out.size (fun b e=>by injection e with e;have:=HGT.out;omega);have hf2:FleetS w2 (Bl w2.heap.size) (.slice Al nl cl) (.slice Am nm cm) (.slice Ad nd cd) (.slice Av nv cv) (.slice Ap np cp) (.slice Ao no co) F:=hfs.mono (fun b h=>h.2);obtain⟨W3,hW3⟩:=zx (w2.alloc (.cells #[.int .i64 F.ext,.slice Al nl cl,.slice Am nm cm,.slice Ad nd cd,.slice Av nv cv,.slice Ap np cp,.slice Ao no co] 35));obtain⟨gF,hgF⟩:=zx w2.heap.size
 have hb3:Below w2.heap.size w2 W3:=by rw[hW3];exact(Below.refl _ _).alloc (Nat.le_refl _) _
 have hgk:W3.heap[gF]?=some (.cells #[.int .i64 F.ext,.slice Al nl cl,.slice Am nm cm,.slice Ad nd cd,.slice Av nv cv,.slice Ap np cp,.slice Ao no co] 35 (0,0)):=by rw[hW3,hgF];exact heap_alloc_new _ _
 have hgl:gF<W3.heap.size:=(Array.getElem?_eq_some_iff.1 hgk).1;have HC:=zh (fun(w':World) (hb:Below W3.heap.size W3 w')=>cells7 ((hb.block gF hgl).trans hgk));have HF:=zh (fun(w':World) (hb:Below W3.heap.size W3 w')=>iformat_nil 1 (by omega) _ _ _ _ _ _ F w' ((hf2.below hb3).below hb) hok);have HP:=zh (fun(w':World) (hb:Below W3.heap.size W3 w')=>iparse_lost 1 (by omega) _ _ _ _ _ _ F w' ((hf2.below hb3).below hb) hok);unfold lostB at HP;have HE:=zh (fun(w':World)=>iformat_empty (.slice none 0 0) w');have HB3:=zh (hb2.trans (hb3.mono hb2.size));obtain⟨EX,hEX⟩:=zx F.ext;rw[←hEX] at HC HF HP hW3 ⊢;have HW3:=zh hW3;have HGF:=zh hgF;clear hfs hT2 hI0 hg hok hb2 hf2 hW3 hgF hb3 hgk hgl hEX HFL;go_upto_region 2 with fail;rw[←HW3.out,←HGF.out];obtain⟨c0,c1,c2,c3,c4,c5,c6⟩:=HC.out W3 (Below.refl _ _);go_wp2_with fail;refine(HF.out _ (Below.refl _ _)).mono ?_;rintro e w4 ⟨rfl,hb4⟩;have HB4:=zh hb4;clear c0 c1 c2 c3 c4 c5 c6 hb4;go_wp2_with fail;refine(HE.out _).mono ?_;rintro e w5 ⟨rfl,hb5⟩;have HB5:=zh (HB4.out.trans (hb5.mono HB4.out.size));clear hb5;obtain⟨c0,c1,c2,c3,c4,c5,c6⟩:=HC.out w5 HB5.out;go_wp2_with fail;refine(HP.out _ HB5.out).mono ?_;rintro e w6 ⟨rfl,hb6⟩;have HB6:=zh (HB5.out.trans (hb6.mono HB5.out.size));clear c0 c1 c2 c3 c4 c5 c6 hb6;go_wp2_with fail;go_ret;exact⟨rfl,HB3.out.trans (HB6.out.mono HB3.out.size)⟩
structure Cau where
 state:Int
 drive:Int
deriving DecidableEq
structure Inc where
 vol:Int
 stripe:Int
 lost:Bool
 need:Int
 causes:List Cau
def oldAt(v f s:Int) (l:List ByteArray):Bool:=l.any fun x=>decide (decEr x.data.toList=0)&&isB (decP x.data.toList) v f s
def oldD(r:Re) (v f s:Int):Option Nat:=r.plat.findIdx? (oldAt v f s)
def causeOf(r:Re) (v f s:Int):Cau :=
 match (pieces r).find? (srcB r v f s true) with
 | some x=>⟨1,(x.drive:Int)⟩
 | none=>match (pieces r).find? (srcB r v f s false) with
  | some x=>⟨2,(x.drive:Int)⟩
  | none=>match oldD r v f s with
   | some d=>⟨3,(d:Int)⟩
   | none=>⟨4,-1⟩
theorem srcB_off(r:Re) (v f s:Int) (x:Fd):srcB r v f s false x=isB x.p v f s:=by unfold srcB;simp
theorem srcB_on(r:Re) (v f s:Int) (x:Fd):srcB r v f s true x=(isB x.p v f s&&onB r x.drive):=by unfold srcB;simp
def incOf(F:FltM) (r:Re) (lost:Bool) (x:Nat×Nat):Inc :=
 ⟨(x.1:Int),(x.2:Int),lost,kOf F x.1,(List.range (kOf F x.1+mOf F x.1).toNat).map fun i:Nat=>causeOf r (x.1:Int) (i:Int) (x.2:Int)⟩
def lostP(F:FltM) (r:Re) (x:Nat×Nat):Bool:=keyP F r (condR true) x
def awayP(F:FltM) (r:Re) (x:Nat×Nat):Bool:=keyP F r (condR false) x
def incL(F:FltM) (r:Re) (ext v s:Nat):List Inc :=
 (keysTo ext v s).filterMap fun x=>if lostP F r x=true then some (incOf F r true x) else if awayP F r x=true then some (incOf F r false x) else none
def incLt(a b:Inc):Prop:=a.vol<b.vol∨(a.vol=b.vol∧a.stripe<b.stripe)
theorem keysTo_rise(ext:Nat):∀(v s:Nat),s≤ext→(keysTo ext v s).Pairwise (fun a b=>a.1<b.1∨(a.1=b.1∧a.2<b.2)):=by
 have hm:∀(v s:Nat),s≤ext→∀x∈keysTo ext v s,x.1<v∨(x.1=v∧x.2<s):=by
  intro v s hs x hx;unfold keysTo at hx;rcases List.mem_append.1 hx with h | h
  ·obtain⟨a,ha,h2⟩:=List.mem_flatMap.1 h;obtain⟨b,hb,rfl⟩:=List.mem_map.1 h2
   left;simpa using ha
  ·obtain⟨b,hb,rfl⟩:=List.mem_map.1 h
   right;exact⟨rfl,by simpa using hb⟩
 intro v
 induction v with
 | zero =>
  intro s
  induction s with
  | zero=>intro _;exact List.Pairwise.nil
  | succ s ih =>
   intro hs;rw[keysTo_succ,List.pairwise_append];refine⟨ih (by omega),List.pairwise_singleton _ _,fun a ha b hb=>?_⟩;rw[List.mem_singleton.1 hb];exact hm 0 s (by omega) a ha
 | succ v ihv =>
  intro s
  induction s with
  | zero=>intro _;rw[←keysTo_next];exact ihv ext (Nat.le_refl _)
  | succ s ih =>
   intro hs;rw[keysTo_succ,List.pairwise_append];refine⟨ih (by omega),List.pairwise_singleton _ _,fun a ha b hb=>?_⟩;rw[List.mem_singleton.1 hb];exact hm (v+1) s (by omega) a ha
theorem incL_rise(F:FltM) (r:Re) (ext v s:Nat) (hs:s≤ext):(incL F r ext v s).Pairwise incLt:=by
 unfold incL;rw[List.pairwise_filterMap];refine(keysTo_rise ext v s hs).imp ?_;intro a b hab x hx y hy
 have e:∀(c:Nat×Nat) (z:Inc),(if lostP F r c=true then some (incOf F r true c) else if awayP F r c=true then some (incOf F r false c) else none)=some z→z.vol=(c.1:Int)∧z.stripe=(c.2:Int):=by
  intro c z h;split at h
  ·injection h with h;subst h;exact⟨rfl,rfl⟩
  ·split at h
   ·injection h with h;subst h;exact⟨rfl,rfl⟩
   ·cases h
 obtain⟨h1,h2⟩:=e a x hx;obtain⟨h3,h4⟩:=e b y hy;unfold incLt;omega
theorem incL_len(F:FltM) (r:Re) (ext v s:Nat):(incL F r ext v s).length≤v * ext+s:=by
 unfold incL;rw[←keysTo_len ext v s];exact List.length_filterMap_le _ _
def srcD(r:Re) (v f s:Int) (on:Bool):Int:=match (pieces r).find? (srcB r v f s on) with | some x=>(x.drive:Int) | none => -1
theorem src_cases(r:Re) (l:List Fd) (v f s:Int) (on:Bool):(srcI r l v f s on = -1∧l.find? (srcB r v f s on)=none)∨∃(i:Nat) (h:i<l.length),srcI r l v f s on=(i:Int)∧l.find? (srcB r v f s on)=some l[i]:=by
 unfold srcI
 cases h:l.findIdx? (srcB r v f s on) with
 | none =>
  refine .inl ⟨rfl,?_⟩;rw[List.findIdx?_eq_none_iff] at h;rw[List.find?_eq_none];intro x hx;rw[h x hx];decide
 | some i =>
  rw[List.findIdx?_eq_some_iff_getElem] at h;obtain⟨h1,h2,h3⟩:=h;refine .inr ⟨i,h1,rfl,?_⟩;rw[List.find?_eq_some_iff_getElem];exact⟨h2,i,h1,rfl,fun j hj=>by have:=h3 j hj;simpa using this⟩
theorem refSource_any(vp vo va:Value) (r:Re) (v f s:Int) (on:Bool) (w:World) (h:ReS w (Bl w.heap.size) vp vo va r) (hp:r.plat.length≤1000) (hl:∀l∈r.plat,l.length≤1000) :
  Calls Tryz.prog 92 #[.agg #[vp,vo,va],.int .i64 v,.int .i64 f,.int .i64 s,.bool on] w fun e w'=>e=.returned (.int .i64 (srcD r v f s on))∧Below w.heap.size w w':=by
 have HPC:=zh (fun w1 h1=>pieces_any vp vo va r w1 h1 hp hl);have HPD:=zh (pieces_drive r (by omega))
 have HLN:=zh (show(pieces r).length≤1000000 by
  have h1:=piecesTo_length r 1000 hl r.plat.length;have h2:r.plat.length * 1000≤1000 * 1000:=Nat.mul_le_mul_right 1000 hp;unfold pieces
  omega)
 have HSD:=zh (show srcD r v f s on=match (pieces r).find? (srcB r v f s on) with | some x=>(x.drive:Int) | none => -1 from rfl);obtain⟨sd,hsd⟩:=zx (srcD r v f s on);obtain⟨l,hpl⟩:=zx (pieces r);rw[←hpl] at HLN HPD HPC;rw[←hsd,←hpl] at HSD;rw[←hsd];have HPL:=zh hpl;obtain⟨W0,hW0⟩:=zx (w.alloc (.cells #[vp,vo,va] 40));obtain⟨q,hq⟩:=zx w.heap.size
 have hb0:Below w.heap.size w W0:=by rw[hW0];exact(Below.refl _ _).alloc (Nat.le_refl _) _
 have hqk:W0.heap[q]?=some (.cells #[vp,vo,va] 40 (0,0)):=by rw[hW0,hq];exact heap_alloc_new w _
 have c0:W0.cell? ⟨q,0,none⟩=some vp:=by rw[hW0,hq];simp
 have c1:W0.cell? ⟨q,1,none⟩=some vo:=by rw[hW0,hq];simp
 have c2:W0.cell? ⟨q,2,none⟩=some va:=by rw[hW0,hq];simp
 have hq0:q<W0.heap.size:=by rw[hW0,hq];simp
 have HQ:=zh hq;have HW0:=zh hW0;have HB0:=zh hb0;have HR0:=zh (h.below hb0);clear h hp hl hW0 hq hb0 hpl hsd;go_enter Tryz.func92,Tryz.ntmps92;go_wp2_with fail;rw[←HW0.out,←HQ.out];refine(HPC.out _ HR0.out).mono ?_;rintro e w1 ⟨ul,rfl,hOF,hbf⟩;have hb1:=HB0.out.trans (hbf.mono HB0.out.size);have hLL:=hOF.slBl HPD.out;have HSRC:=zh (source_any vp vo va ul r l v f s on w1 (HR0.out.below hbf) hLL);have HCS:=zh (src_cases r l v f s on);obtain⟨si,hsi⟩:=zx (srcI r l v f s on);rw[←hsi] at HSRC HCS;obtain⟨Al,cl,rfl,-,hm⟩:=SlS.form hLL;have HL:=zh hLL;have HB1:=zh hb1;have e0:=(hbf.cell (p:=⟨q,0,none⟩) hq0).trans c0;have e1:=(hbf.cell (p:=⟨q,1,none⟩) hq0).trans c1;have e2:=(hbf.cell (p:=⟨q,2,none⟩) hq0).trans c2;clear c0 c1 c2 hOF hb1 hLL hbf hqk hsi;go_wp2_with fail;refine HSRC.out.mono ?_;rintro e w2 ⟨rfl,hb2⟩;have hbz:=HB1.out.trans (hb2.mono HB1.out.size);rcases HCS.out with ⟨hn,hf⟩ | ⟨i,hi,hn,hf⟩
 ·have hE:sd = -1:=by rw[HSD.out,hf]
  subst hn;go_wp2_with fail;go_ret;exact⟨by rw[hE];rfl,hbz⟩
 ·obtain⟨b,off,cs,rfl,hRb,-,hcs,hfk,hdr⟩:=HL.out.at_ hi
  have hE:sd=(l[i].drive:Int):=by rw[HSD.out,hf]
  obtain⟨k0,-,-,-,-,-,-⟩:=seven hcs hfk;have k0':=(hb2.cell (p:=⟨b,off+i * 7,none⟩) hRb).trans k0;subst hn;have HE:=zh hE;clear hE hcs hfk hf;go_wp2_with fail;go_ret;exact⟨by rw[HE.out];rfl,hbz⟩
theorem rpolicy44_any(ext k m q:Int) (vl vm vd vv a0 a4 a5 a6 a7 a8 a9 a10 a11 a12 a13 a14 a15 a16:Value) (nm:ByteArray) (pb pof ob oof NP NO cp co v p:Nat) (w:World) (hv:v<NO) (hp:p<NP) (hno:NO≤1000) (hnp:NP≤1000)
  (hvol:w.rangeAt ob (oof+v * 2) [.string nm,.int .i64 (p:Int)]) (hpol:w.rangeAt pb (pof+p * 17) [a0,.int .i64 k,.int .i64 m,.int .i64 q,a4,a5,a6,a7,a8,a9,a10,a11,a12,a13,a14,a15,a16]) (hone:(#[a0,.int .i64 k,.int .i64 m,.int .i64 q,a4,a5,a6,a7,a8,a9,a10,a11,a12,a13,a14,a15,a16]:Array Value).all (·.oneCell')=true) :
  Calls Tryz.prog 40 #[.agg #[.int .i64 ext,vl,vm,vd,vv,.slice (some ⟨pb,pof,none⟩) NP cp,.slice (some ⟨ob,oof,none⟩) NO co],.int .i64 (v:Int)] w fun e w'=>e=.returned (.agg #[a0,.int .i64 k,.int .i64 m,.int .i64 q,a4,a5,a6,a7,a8,a9,a10,a11,a12,a13,a14,a15,a16])∧Below w.heap.size w w':=by
 obtain⟨W0,hW0⟩:=zx ((w.alloc (.cells #[.int .i64 ext,vl,vm,vd,vv,.slice (some ⟨pb,pof,none⟩) NP cp,.slice (some ⟨ob,oof,none⟩) NO co] 35)).alloc (.cells #[.string ⟨#[]⟩,.int .i64 0,.int .i64 0,.int .i64 0,.int .i64 0,.int .i64 0,.int .i64 0,.int .i64 0,.int .i64 0,.slice none 0 0,.slice none 0 0,.bool false,.slice none 0 0,.slice none 0 0,.bool false,.slice none 0 0,.slice none 0 0] 85));obtain⟨z,hz⟩:=zx w.heap.size;obtain⟨g,hg⟩:=zx (w.heap.size+1)
 have hb0:Below w.heap.size w W0:=by rw[hW0];exact((Below.refl _ _).alloc (Nat.le_refl _) _).alloc (by simp) _
 have hgk:W0.heap[g]?=some (.cells #[.string ⟨#[]⟩,.int .i64 0,.int .i64 0,.int .i64 0,.int .i64 0,.int .i64 0,.int .i64 0,.int .i64 0,.int .i64 0,.slice none 0 0,.slice none 0 0,.bool false,.slice none 0 0,.slice none 0 0,.bool false,.slice none 0 0,.slice none 0 0] 85 (0,0)):=by
  rw[hW0];exact heap_alloc_at _ _ _ (by rw[hg];simp)
 have hzk:W0.heap[z]?=some (.cells #[.int .i64 ext,vl,vm,vd,vv,.slice (some ⟨pb,pof,none⟩) NP cp,.slice (some ⟨ob,oof,none⟩) NO co] 35 (0,0)):=by
  rw[hW0,hz];exact(Below.heap_alloc _ _ _ (by simp)).trans (heap_alloc_new w _)
 have z5:W0.drew.cell? ⟨z,5,none⟩=some (.slice (some ⟨pb,pof,none⟩) NP cp):=by rw[cell_of_row W0.drew z 5 _ _ _ hzk];rfl
 have z6:W0.drew.cell? ⟨z,6,none⟩=some (.slice (some ⟨ob,oof,none⟩) NO co):=by rw[cell_of_row W0.drew z 6 _ _ _ hzk];rfl
 have hob:ob<w.heap.size:=World.block_lt_of_cell? w _ (hvol 0 _ rfl);have hpb:pb<w.heap.size:=World.block_lt_of_cell? w _ (hpol 0 _ rfl);have hv0:W0.drew.cell? ⟨ob,oof+v * 2+1,none⟩=some (.int .i64 (p:Int)):=(World.cell?_of_block (w:=w) (w':=W0.drew) (hb0.block ob hob)).trans (hvol 1 _ rfl);have hp0:W0.drew.rangeAt pb (pof+p * 17) [a0,.int .i64 k,.int .i64 m,.int .i64 q,a4,a5,a6,a7,a8,a9,a10,a11,a12,a13,a14,a15,a16]:=range_same hpol (hb0.block pb hpb);have HTH:=zh (show W0.drew.there g 0 17 from there_of_block (w:=W0.drew) (cs:=#[.string ⟨#[]⟩,.int .i64 0,.int .i64 0,.int .i64 0,.int .i64 0,.int .i64 0,.int .i64 0,.int .i64 0,.int .i64 0,.slice none 0 0,.slice none 0 0,.bool false,.slice none 0 0,.slice none 0 0,.bool false,.slice none 0 0,.slice none 0 0]) hgk (Nat.le_refl 17));have HS0:=zh (And.intro z5 (And.intro z6 (And.intro hv0 hp0)));have HON:=zh hone;have HW0:=zh hW0;have HG:=zh hg;have HGW:=zh (show w.heap.size≤g from by omega);have HQ:=zh hz;have HB0:=zh hb0
 have i1:(v:Int)<(NO:Int):=by omega
 have i2:(p:Int)<(NP:Int):=by omega
 clear hvol hpol hone hW0 hz hg hb0 hgk hzk z5 z6 hob hpb hv0 hp0 hv hp;go_enter Tryz.func40,Tryz.ntmps40;go_upto_region 1 with fail;rw[←HW0.out,←HG.out,←HQ.out];refine region_tail (S:=(fun w'=>w'.cell? ⟨z,5,none⟩=some (.slice (some ⟨pb,pof,none⟩) NP cp)∧w'.cell? ⟨z,6,none⟩=some (.slice (some ⟨ob,oof,none⟩) NO co)∧w'.cell? ⟨ob,oof+v * 2+1,none⟩=some (.int .i64 (p:Int))∧w'.rangeAt pb (pof+p * 17) [a0,.int .i64 k,.int .i64 m,.int .i64 q,a4,a5,a6,a7,a8,a9,a10,a11,a12,a13,a14,a15,a16])) [10] (by kernel_rfl) HS0.out (fun hHeld=>?_);refine tk 0 5 ?_;refine tk 1 6 ?_;refine tk 2 7 ?_;refine tk 3 8 ?_;refine tk 4 9 ?_;refine tk 5 10 ?_;refine tk 6 11 ?_;refine tk 7 12 ?_;refine tk 8 13 ?_;refine takeT (i:=9) (d:=14) (v:=(.agg #[a0,.int .i64 k,.int .i64 m,.int .i64 q,a4,a5,a6,a7,a8,a9,a10,a11,a12,a13,a14,a15,a16])) rfl rfl (by kernel_rfl) (by kernel_rfl) (by kernel_rfl) (by kernel_rfl) (fun _ _ _ h=>h) (yieldsIf_load_mid (by rfl) 85 (.tmp 13) rfl pb (pof+p * 17) (by rfl) [a0,.int .i64 k,.int .i64 m,.int .i64 q,a4,a5,a6,a7,a8,a9,a10,a11,a12,a13,a14,a15,a16] _ (fun w hw=>hw.2.2.2) Tryz.underlying85 rfl size_pol) (by assumption) ?_;(try simp only[Act.put,z1,z2,z3]);refine readyT (rs:=[10]) (by kernel_rfl) (by simp) ?_;refine AllReadyT.consT rfl rfl (fun K hK=>?_) ?_
 ·rw[if_pos (by rfl)];refine wp_store_mid 85 (.tmp 4) (.tmp 14) rfl g 0 #[a0,.int .i64 k,.int .i64 m,.int .i64 q,a4,a5,a6,a7,a8,a9,a10,a11,a12,a13,a14,a15,a16] (by rfl) (by rfl) HTH.out size_pol HON.out ?_;refine hK.out _ _ ?_;clear hK K;(try simp only[Act.put,z1,z2,z3]);refine doneT (by kernel_rfl) ?_ _;go_wp2_with fail;obtain⟨w5,hw5⟩:=zx (World.setCells W0.drew g 0 [a0,.int .i64 k,.int .i64 m,.int .i64 q,a4,a5,a6,a7,a8,a9,a10,a11,a12,a13,a14,a15,a16]);rw[←hw5]
  have hr5:w5.rangeAt g 0 [a0,.int .i64 k,.int .i64 m,.int .i64 q,a4,a5,a6,a7,a8,a9,a10,a11,a12,a13,a14,a15,a16]:=by rw[hw5];exact World.rangeAt_setCells_same _ _ _ _ HTH.out
  have hb5:Below w.heap.size w w5:=by rw[hw5];exact below_setCellsV HGW.out _ _ _ HB0.out.drew
  clear hw5 hHeld;have hld:=run_loadVar_mid (P:=Tryz.prog) w5 g 0 85 _ _ hr5 Tryz.underlying85 rfl size_pol;exact bodyPost_ret (v:=.agg #[a0,.int .i64 k,.int .i64 m,.int .i64 q,a4,a5,a6,a7,a8,a9,a10,a11,a12,a13,a14,a15,a16]) (results_cell _ 85 4 _ _ _ ⟨g,0,none⟩ Tryz.results40 (by rfl) hld) rfl ⟨rfl,hb5⟩
 exact AllReadyT.nil
theorem mem_take_succ{α:Type} {l:List α} {j:Nat} {x:α} (h:j<l.length) (hx:x∈l.take (j+1)):x∈l.take j∨x=l[j]:=by
 rw[List.take_succ_eq_append_getElem h,List.mem_append,List.mem_singleton] at hx;exact hx
def cauC(c:Cau):List Value:=[.int .i64 c.state,.int .i64 c.drive]
def cauV(c:Cau):Value:=.agg #[.int .i64 c.state,.int .i64 c.drive]
def oldS(v f s:Int) (x:ByteArray):Bool:=decide (decEr x.data.toList=0)&&isB (decP x.data.toList) v f s
theorem oldAt_eq(v f s:Int) (l:List ByteArray):oldAt v f s l=l.any (oldS v f s):=rfl
theorem oldD_hit{r:Re} {v f s:Int} {d:Nat} (h:∀k (hk:k<r.plat.length),k<d→oldAt v f s r.plat[k]=false) (hd:d<r.plat.length) (ho:oldAt v f s r.plat[d]=true):oldD r v f s=some d:=by
 unfold oldD;rw[List.findIdx?_eq_some_iff_getElem];exact⟨hd,ho,fun j hj=>by rw[h j (by omega) hj];simp⟩
theorem oldD_miss{r:Re} {v f s:Int} (h:∀k (hk:k<r.plat.length),oldAt v f s r.plat[k]=false):oldD r v f s=none:=by
 unfold oldD;rw[List.findIdx?_eq_none_iff];intro x hx;obtain⟨i,hi,rfl⟩:=List.getElem_of_mem hx;exact h i hi
theorem cause_src(r:Re) (v f s:Int) (hd:∀x∈pieces r,(0:Int)≤x.drive):(0≤srcD r v f s true→causeOf r v f s=⟨1,srcD r v f s true⟩)∧(srcD r v f s true<0→0≤srcD r v f s false→causeOf r v f s=⟨2,srcD r v f s false⟩)∧(srcD r v f s true<0→srcD r v f s false<0→causeOf r v f s=match oldD r v f s with | some d=>⟨3,(d:Int)⟩ | none=>⟨4,-1⟩):=by
 unfold srcD causeOf
 cases h1:(pieces r).find? (srcB r v f s true) with
 | some x=>refine⟨fun _=>rfl,fun h=>?_,fun h=>?_⟩ <;> · simp only at h;omega
 | none =>
  cases h2:(pieces r).find? (srcB r v f s false) with
  | some x =>
   refine⟨fun h=>?_,fun _ _=>rfl,fun _ h=>?_⟩
   ·simp only at h;omega
   ·simp only at h;omega
  | none =>
   refine⟨fun h=>?_,fun _ h=>?_,fun _ _=>?_⟩
   ·simp only at h;omega
   ·simp only at h;omega
   ·rfl
theorem one2(a b:Int):(#[.int .i64 a,.int .i64 b]:Array Value).all (·.oneCell')=true:=by simp[Value.oneCell']
theorem size_cau:(Tryz.prog.info? 102).map (·.size)=some 2:=by kernel_rfl
theorem refcause_any(vp vo va:Value) (r:Re) (v f s:Int) (w:World) (h:ReS w (Bl w.heap.size) vp vo va r) (hp:r.plat.length≤1000) (hl:∀l∈r.plat,l.length≤1000) :
  Calls Tryz.prog 41 #[.agg #[vp,vo,va],.int .i64 v,.int .i64 f,.int .i64 s] w fun e w'=>e=.returned (cauV (causeOf r v f s))∧Below w.heap.size w w':=by
 have HSR:=zh (fun on w1 h1=>refSource_any vp vo va r v f s on w1 h1 hp hl);obtain⟨hc1,hc2,hc3⟩:=cause_src r v f s (fun x _=>by omega);obtain⟨c,hc⟩:=zx (causeOf r v f s);rw[←hc] at hc1 hc2 hc3 ⊢;obtain⟨s1,hs1⟩:=zx (srcD r v f s true);obtain⟨s2,hs2⟩:=zx (srcD r v f s false);rw[←hs1] at hc1 hc2 hc3;rw[←hs2] at hc2 hc3;have HC1:=zh hc1;have HC2:=zh hc2;have HC3:=zh hc3;have HS1:=zh hs1;have HS2:=zh hs2;have HPL:=zh hl;have HR:=zh h;obtain⟨Ap,cp,rfl,-,-⟩:=h.1.form;obtain⟨W0,hW0⟩:=zx ((w.alloc (.cells #[.slice Ap r.plat.length cp,vo,va] 40)).alloc (.cells #[.int .i64 0,.int .i64 0] 102));obtain⟨q,hq⟩:=zx w.heap.size;obtain⟨g,hg⟩:=zx (w.heap.size+1)
 have hb0:Below w.heap.size w W0:=by rw[hW0];exact((Below.refl _ _).alloc (Nat.le_refl _) _).alloc (by simp) _
 have hgk:W0.heap[g]?=some (.cells #[.int .i64 0,.int .i64 0] 102 (0,0)):=by rw[hW0];exact heap_alloc_at _ _ _ (by rw[hg];simp)
 have hqk:W0.heap[q]?=some (.cells #[.slice Ap r.plat.length cp,vo,va] 40 (0,0)):=by rw[hW0,hq];exact(Below.heap_alloc _ _ _ (by simp)).trans (heap_alloc_new w _)
 have c0:W0.cell? ⟨q,0,none⟩=some (.slice Ap r.plat.length cp):=by rw[cell_of_row W0 q 0 _ _ _ hqk];rfl
 have c1:W0.cell? ⟨q,1,none⟩=some vo:=by rw[cell_of_row W0 q 1 _ _ _ hqk];rfl
 have c2:W0.cell? ⟨q,2,none⟩=some va:=by rw[cell_of_row W0 q 2 _ _ _ hqk];rfl
 have hgw:w.heap.size≤g:=by omega
 have hq0:q<W0.heap.size:=by rw[hW0,hq];simp;omega
 have hg0:g<W0.heap.size:=by rw[hW0,hg];simp
 have HQ:=zh hq;have HG:=zh hg;have HW0:=zh hW0;have HB0:=zh hb0;have HR0:=zh (h.below hb0);have HGK:=zh hgk;obtain⟨D,hD⟩:=zx r.plat.length;rw[←hD] at HW0 c0 hp HSR HR0 HR ⊢;have HD:=zh hD
 have HEND:=zh (fun(w5:World) (c':Cau) (hw:Below W0.heap.size W0 w5)=>show w5.there g 0 2∧(w5.setCells g 0 (cauC c')).rangeAt g 0 (cauC c')∧Below w.heap.size w (w5.setCells g 0 (cauC c')) from
  ⟨there_of_block (w:=w5) (cs:=#[.int .i64 0,.int .i64 0]) ((hw.block g hg0).trans hgk) (Nat.le_refl 2),World.rangeAt_setCells_same _ _ _ _ (there_of_block (w:=w5) (cs:=#[.int .i64 0,.int .i64 0]) ((hw.block g hg0).trans hgk) (Nat.le_refl 2)),below_setCellsV hgw _ _ _ (hb0.trans (hw.mono hb0.size))⟩)
 clear h hl hW0 hq hg hb0 hqk hgk hc hc1 hc2 hc3 hs1 hs2 hD;go_enter Tryz.func41,Tryz.ntmps41;go_wp2_with fail;rw[←HW0.out,←HG.out,←HQ.out];refine(HSR.out true _ HR0.out).mono ?_;rintro e w1 ⟨rfl,hb1⟩;rw[←HS1.out];have e0:=(hb1.cell (p:=⟨q,0,none⟩) hq0).trans c0;have e1:=(hb1.cell (p:=⟨q,1,none⟩) hq0).trans c1;have e2:=(hb1.cell (p:=⟨q,2,none⟩) hq0).trans c2;have hgk1:=(hb1.block g hg0).trans HGK.out;by_cases h1:0≤s1
 ·have t1:decide (0≤s1)=true:=decide_eq_true h1;have HE:=zh (HC1.out h1);have HT:=zh (HEND.out w1 ⟨1,s1⟩ hb1);clear h1 c0 c1 c2 e0 e1 e2 hgk1;go_wp2_with (refine wpList_store_mid rfl 102 (.tmp 8) (.tmp 23) rfl g 0 #[.int .i64 1,.int .i64 s1] (by rfl) (by rfl) HT.out.1 size_cau (one2 _ _) ?_);have hld:=run_loadVar_mid (P:=Tryz.prog) _ g 0 102 _ _ HT.out.2.1 Tryz.underlying102 rfl size_cau;(try simp only[Exit.inBlock,Exit.then]);refine bodyPost_ret (v:=.agg #[.int .i64 1,.int .i64 s1]) ?_ rfl ?_
  ·exact results_cell _ 102 8 _ _ _ ⟨g,0,none⟩ Tryz.results41 (by rfl) hld
  ·exact⟨by rw[HE.out];rfl,HT.out.2.2⟩
 have t1:decide (0≤s1)=false:=decide_eq_false h1;have HN1:=zh (show s1<0 by omega);clear c0 c1 c2 h1;go_wp2_with fail;refine(HSR.out false _ (HR0.out.below hb1)).mono ?_;rintro e w2 ⟨rfl,hb2'⟩;have hb2:=hb1.trans (hb2'.mono hb1.size);rw[←HS2.out];have k0:=(hb2'.cell (p:=⟨q,0,none⟩) (Nat.lt_of_lt_of_le hq0 hb1.size)).trans e0;by_cases h2:0≤s2
 ·have t2:decide (0≤s2)=true:=decide_eq_true h2;have HE:=zh (HC2.out HN1.out h2);have HT:=zh (HEND.out w2 ⟨2,s2⟩ hb2);clear h2 e0 e1 e2 k0 hgk1;go_wp2_with (refine wpList_store_mid rfl 102 (.tmp 8) (.tmp 32) rfl g 0 #[.int .i64 2,.int .i64 s2] (by rfl) (by rfl) HT.out.1 size_cau (one2 _ _) ?_);have hld:=run_loadVar_mid (P:=Tryz.prog) _ g 0 102 _ _ HT.out.2.1 Tryz.underlying102 rfl size_cau;(try simp only[Exit.inBlock,Exit.then]);refine bodyPost_ret (v:=.agg #[.int .i64 2,.int .i64 s2]) ?_ rfl ?_
  ·exact results_cell _ 102 8 _ _ _ ⟨g,0,none⟩ Tryz.results41 (by rfl) hld
  ·exact⟨by rw[HE.out];rfl,HT.out.2.2⟩
 have t2:decide (0≤s2)=false:=decide_eq_false h2;have HE:=zh (HC3.out HN1.out (by omega));have HK0:=zh k0;obtain⟨W1,hW1⟩:=zx w2;rw[←hW1] at hb2 HK0;have HB2:=zh hb2;have hq1:q<W1.heap.size:=Nat.lt_of_lt_of_le hq0 hb2.size;have HBW:=zh (HB0.out.trans (hb2.mono HB0.out.size));subst hW1;clear h2 e0 e1 e2 k0 hgk1 hb2 hb2';go_wp2_with fail;go_loopg [11] D (fun z v11 wr=>∃d:Nat,d≤D∧z=D - d∧v11=.int .i64 (d:Int)∧Hid (∀k (hk:k<r.plat.length),k<d→oldAt v f s r.plat[k]=false)∧Below W1.heap.size W1 wr)
 case atStart=>exact⟨0,by omega,rfl,rfl,zh (fun k hk h=>by omega),Below.refl _ _⟩
 case round =>
  obtain⟨d,hd,rfl,rfl,HNO,hbr⟩:=hrel;have e0:=(hbr.cell (p:=⟨q,0,none⟩) hq1).trans HK0.out;by_cases hlt:d<D
  ·have hdl:d<r.plat.length:=by rw[←HD.out];exact hlt
   have HHIT:=zh (fun ho=>oldD_hit (v:=v) (f:=f) (s:=s) HNO.out hdl ho)
   have HNX:=zh (show oldAt v f s r.plat[d]=false→∀k (hk:k<r.plat.length),k<d+1→oldAt v f s r.plat[k]=false from fun ho k hk hlt2=>by
    by_cases e:k=d
    ·subst e;exact ho
    ·exact HNO.out k hk (by omega))
   obtain⟨l,hl⟩:=zx (r.plat[d])
   have hl1000:l.length≤1000:=by rw[hl];exact HPL.out _ (List.getElem_mem hdl)
   obtain⟨bp,op,csp,hAp,hRp,-,hcp,vd,hvd,hsl⟩:=HR.out.1.at_ hdl;rw[←hl] at hsl HHIT HNX;have hcd:=hcp 0 vd (by rw[hvd];rfl);obtain⟨Ad,cd,rfl,-,-⟩:=hsl.form;have HSL:=zh hsl;have HCD:=zh hcd;subst hAp;obtain⟨wo,rfl⟩:=zx (wr:World);have HRP:=zh hRp;have hbwo:=HBW.out.trans (hbr.mono HBW.out.size)
   have edo:wo.cell? ⟨bp,op+d,none⟩=some (.slice Ad l.length cd):=by
    have h1:=(hbwo.cell (p:=⟨bp,op+d * 1+0,none⟩) hRp).trans HCD.out
    simpa using h1
   clear hl hcp hvd hsl hcd csp hRp hdl hbwo;go_wp2_with fail;go_loopg [12] l.length (fun z v12 wr=>∃j:Nat,j≤l.length∧z=l.length - j∧v12=.int .i64 (j:Int)∧Hid (∀x∈l.take j,oldS v f s x=false)∧Below W1.heap.size W1 wr)
   case atStart=>exact⟨0,by omega,rfl,rfl,zh (fun x hx=>by simp at hx),hbr⟩
   case round =>
    clear hbr e0 edo;obtain⟨j,hj,rfl,rfl,HNJ,hbr⟩:=hrel;have hbw:=HBW.out.trans (hbr.mono HBW.out.size);have e0:=(hbr.cell (p:=⟨q,0,none⟩) hq1).trans HK0.out
    have ed:wr.cell? ⟨bp,op+d,none⟩=some (.slice Ad l.length cd):=by
     have h1:=(hbw.cell (p:=⟨bp,op+d * 1+0,none⟩) HRP.out).trans HCD.out
     simpa using h1
    by_cases hlt2:j<l.length
    ·obtain⟨bs,os,css,hAs,hRs,-,hcs,hse,hsm⟩:=HSL.out.at_ hlt2;have hes:=hcs 0 (.string l[j]) (by rw[hse];rfl)
     have HNXJ:=zh (show oldS v f s l[j]=false→∀x∈l.take (j+1),oldS v f s x=false from fun ho x hx=>by
      rcases mem_take_succ hlt2 hx with h | h
      ·exact HNJ.out x h
      ·rw[h];exact ho)
     have HYES:=zh (show oldS v f s l[j]=true→oldAt v f s l=true from fun ho=>by
      rw[oldAt_eq,List.any_eq_true];exact⟨_,List.getElem_mem hlt2,ho⟩)
     obtain⟨x,hx⟩:=zx (l[j]);rw[←hx] at hes hsm HNXJ HYES
     have es:wr.cell? ⟨bs,os+j,none⟩=some (.string x):=by
      have h1:=(hbw.cell (p:=⟨bs,os+j * 1+0,none⟩) hRs).trans hes
      simpa using h1
     subst hAs;have HDEC:=zh (fun w=>refsdec_any x w hsm)
     have HOS:=zh (show oldS v f s x=(decide (decEr x.data.toList=0)&&isB (decPc x.data.toList) v f s) by
      unfold oldS;by_cases h0:decEr x.data.toList=0
      ·rw[decPc_ok h0]
      ·rw[decide_eq_false h0];rfl)
     obtain⟨E,hE⟩:=zx (decEr x.data.toList);obtain⟨P,hP⟩:=zx (decPc x.data.toList);rw[←hE,←hP] at HDEC HOS;have hsz:=hbr.size;obtain⟨pa,pb,pc,pg,pr,px⟩:=P;unfold PcV at HDEC;simp only at HDEC;obtain⟨y,hy⟩:∃y:ByteArray,y=⟨px.toArray⟩:=⟨_,rfl⟩;rw[←hy] at HDEC;clear hcs hes hx hse hsm hE hP css hy;go_wp2_with fail;refine(HDEC.out _).mono ?_;rintro e w3 ⟨rfl,hb3⟩;have hbr3:=hbr.trans (hb3.mono hsz);have f0:=(hb3.cell (p:=⟨q,0,none⟩) (Nat.lt_of_lt_of_le hq1 hsz)).trans e0;have hbx:Below W1.heap.size W1 (w3.alloc (.cells #[.int .i64 pa,.int .i64 pb,.int .i64 pc,.int .i64 pg,.int .i64 pr,.string y] 94)):=hbr3.alloc hbr3.size _;have HBX:=zh hbx;clear hbx e0 ed es;by_cases hE0:E=0
     ·have b1:((E:Int)==0)=true:=by simpa using hE0
      by_cases hv:pa=v
      ·have b2:((pa:Int)==v)=true:=by simpa using hv
       by_cases hf:pb=f
       ·have b3:((pb:Int)==f)=true:=by simpa using hf
        by_cases hs:pc=s
        ·have b4:((pc:Int)==s)=true:=by simpa using hs
         have HYY:=zh (HHIT.out (HYES.out (by rw[HOS.out];unfold isB;simp only[hE0,hv,hf,hs];simp)));have HE2:=zh (show c=⟨3,(d:Int)⟩ by rw[HE.out,HYY.out]);have HT:=zh (HEND.out _ ⟨3,(d:Int)⟩ (HB2.out.trans (HBX.out.mono HB2.out.size)));clear hE0 hv hf hs HE;have HE:=HE2;go_wp2_with (refine wpList_store_mid rfl 102 (.tmp 8) (.tmp 83) rfl g 0 #[.int .i64 3,.int .i64 (d:Int)] (by rfl) (by rfl) HT.out.1 size_cau (one2 _ _) ?_);have hld:=run_loadVar_mid (P:=Tryz.prog) _ g 0 102 _ _ HT.out.2.1 Tryz.underlying102 rfl size_cau;(try simp only[Exit.inBlock,Exit.then]);refine bodyPost_ret (v:=.agg #[.int .i64 3,.int .i64 (d:Int)]) ?_ rfl ?_
         ·exact results_cell _ 102 8 _ _ _ ⟨g,0,none⟩ Tryz.results41 (by rfl) hld
         ·exact⟨by rw[HE.out];rfl,HT.out.2.2⟩
        ·have b4:((pc:Int)==s)=false:=by simpa using hs
         have HNN:=zh (HNXJ.out (by rw[HOS.out];unfold isB;simp only[b4];simp));clear hE0 hv hf hs;go_wp2_with fail;go_roundg (l.length - (j+1))
         case measure=>omega
         case rel=>exact⟨j+1,by omega,rfl,by go_num,HNN,HBX.out⟩
       ·have b3:((pb:Int)==f)=false:=by simpa using hf
        have HNN:=zh (HNXJ.out (by rw[HOS.out];unfold isB;simp only[b3];simp));clear hE0 hv hf;go_wp2_with fail;go_roundg (l.length - (j+1))
        case measure=>omega
        case rel=>exact⟨j+1,by omega,rfl,by go_num,HNN,HBX.out⟩
      ·have b2:((pa:Int)==v)=false:=by simpa using hv
       have HNN:=zh (HNXJ.out (by rw[HOS.out];unfold isB;simp only[b2];simp));clear hE0 hv;go_wp2_with fail;go_roundg (l.length - (j+1))
       case measure=>omega
       case rel=>exact⟨j+1,by omega,rfl,by go_num,HNN,HBX.out⟩
     ·have b1:((E:Int)==0)=false:=by simpa using hE0
      have HNN:=zh (HNXJ.out (by rw[HOS.out,decide_eq_false hE0];rfl));clear hE0;go_wp2_with fail;go_roundg (l.length - (j+1))
      case measure=>omega
      case rel=>exact⟨j+1,by omega,rfl,by go_num,HNN,HBX.out⟩
    ·have HALL:=zh (HNX.out (by
      rw[oldAt_eq,List.any_eq_false];intro x hx;have:=HNJ.out x (by rw[List.take_of_length_le (by omega)];exact hx)
      rw[this];simp))
     go_wp2_with fail;go_roundg (D - (d+1))
     case measure=>omega
     case rel=>exact⟨d+1,by omega,rfl,by go_num,HALL,hbr⟩
  ·have HO:=zh (oldD_miss (r:=r) (v:=v) (f:=f) (s:=s) (fun k hk=>HNO.out k hk (by have:=HD.out;omega)));have HE2:=zh (show c=⟨4,-1⟩ by rw[HE.out,HO.out]);have HT:=zh (HEND.out wr ⟨4,-1⟩ (HB2.out.trans (hbr.mono HB2.out.size)));clear HE;have HE:=HE2;go_wp2_with (refine wpList_store_mid rfl 102 (.tmp 8) (.tmp 84) rfl g 0 #[.int .i64 4,.int .i64 (-1)] (by rfl) (by rfl) HT.out.1 size_cau (one2 _ _) ?_);have hld:=run_loadVar_mid (P:=Tryz.prog) _ g 0 102 _ _ HT.out.2.1 Tryz.underlying102 rfl size_cau;(try simp only[Exit.inBlock,Exit.then]);refine bodyPost_ret (v:=.agg #[.int .i64 4,.int .i64 (-1)]) ?_ rfl ?_
   ·exact results_cell _ 102 8 _ _ _ ⟨g,0,none⟩ Tryz.results41 (by rfl) hld
   ·exact⟨by rw[HE.out];rfl,HT.out.2.2⟩
theorem info_cau:(Tryz.prog.info? 102).map (fun i=>(i.zero,i.size,i.bytes))=some (some (.agg #[.int .i64 0,.int .i64 0]),2,16):=by kernel_rfl
theorem info_inc:(Tryz.prog.info? 27).map (fun i=>(i.zero,i.size,i.bytes))=some (some (.agg #[.int .i64 0,.int .i64 0,.bool false,.int .i64 0,.slice none 0 0]),5,56):=by kernel_rfl
def CauK(w:World) (R:Nat→Prop) (cs:List Value) (c:Cau):Prop:=cs=cauC c
theorem cauK:Steady CauK:=⟨fun _ h=>h,fun _ h=>h⟩
def OwnCau(w:World) (base:Nat) (v:Value) (l:List Cau):Prop:=w.ownsRow base 102 2 v l.length (l.flatMap cauC)
theorem OwnCau.nil(w:World) (base:Nat):OwnCau w base (.slice none 0 0) []:=World.ownsRow_nil _ _ _ _
theorem OwnCau.below{w w2:World} {base:Nat} {v:Value} {l:List Cau} (h:OwnCau w base v l) (hb:Below w.heap.size w w2):OwnCau w2 base v l:=own_below h hb
theorem OwnCau.base{w:World} {B B':Nat} {v:Value} {l:List Cau} (h:OwnCau w B v l) (hB:B'≤B):OwnCau w B' v l:=own_base h hB
theorem OwnCau.form{w:World} {base:Nat} {v:Value} {l:List Cau} (h:OwnCau w base v l):∃A c,v=.slice A l.length c:=own_form h
theorem OwnCau.lt{w:World} {base:Nat} {v:Value} {l:List Cau} (h:OwnCau w base v l):∀b,v.ownBlock=some b→base≤b∧b<w.heap.size:=World.ownsRow.lt h
theorem app_cau{ops:Array Oper} {rest:List Oper} {o:Oper} {a:Act} {Q:Exit→Act→World→Prop} {w:World} (c:Cau) (s x:Operand) (hgd:o.guard=none) (ho:o.op=.call { callee:=.builtin .append,args:=#[s,x],argTypes:=#[25,25] })
  (base:Nat) (v:Value) (n:Nat) (l:List Cau) (hlen:l.length=n) (hs:a.eval s=v) (hown:w.ownsRow base 102 2 v n (l.flatMap cauC))
  (hx:a.eval x=.slice (some ⟨w.heap.size,0,none⟩) 1 1) (hn:n+1≤16777216) (hbase:base≤w.heap.size)
  (h:∀v' w',OwnCau w' base v' (l++[c])→w.grownBy w' v.ownBlock→(v'.ownBlock=v.ownBlock∨v'.ownBlock=some (w.heap.size+1))→wpList Tryz.prog ops Q rest (a.put o.dst v') w') :
  wpList Tryz.prog ops Q (o :: rest) a (w.alloc (.cells #[.int .i64 c.state,.int .i64 c.drive] 102)):=by
 obtain⟨i0,hi0,hz0,hz1,hz2⟩:=info_parts info_cau;refine wpList_append1 hgd s x _ ho base i0 _ 2 16 Tryz.underlying25 hi0 hz0 hz1 hz2 rfl (by omega) (by omega) v n (l.flatMap cauC) hs hown hx rfl (fun u hu=>?_) hn hbase (fun v' w' h1 h2 h3=>h v' w' ?_ h2 h3)
 ·simp at hu;rcases hu with rfl | rfl <;> rfl
 ·unfold OwnCau;rw[List.length_append,List.length_singleton,hlen,List.flatMap_append]
  simpa[cauC] using h1
theorem flat_cau:∀(l:List Cau) (k:Nat) (x:Cau),l[k]?=some x→∀i c,(cauC x)[i]?=some c→(l.flatMap cauC)[k * 2+i]?=some c
 | [],k,f,h=>by simp at h
 | x :: r,0,f,h=>by
  simp at h;subst h;intro i c hc;have hi:i<(cauC x).length:=(List.getElem?_eq_some_iff.1 hc).1;rw[List.flatMap_cons,Nat.zero_mul,Nat.zero_add,List.getElem?_append_left hi];exact hc
 | x :: r,k+1,f,h=>by
  intro i c hc;have hl:(cauC x).length=2:=rfl;rw[List.flatMap_cons,List.getElem?_append_right (by rw[hl];omega),hl];have:=flat_cau r k f (by simpa using h) i c hc;rw[←this]
  congr 1
  omega
theorem OwnCau.slS{w:World} {base:Nat} {v:Value} {l:List Cau} (h:OwnCau w base v l):SlS 2 CauK w (Fr base w.heap.size) v l:=by
 have h1:w.ownsRow base 102 2 v l.length (l.flatMap cauC):=h
 have hc:=fun g=>h1.cells (g:=g)
 have hlt:=h1.lt;rcases h1.2 with ⟨rfl,h0⟩ | ⟨g,cap,cur,rfl,_,_,h2,h3,_⟩
 ·unfold SlS;rw[h0];exact Row.nil _ _ _
 ·refine⟨_,cap,rfl,h2,Nat.le_trans h2 h3,fun _=>⟨g,0,rfl,hlt g rfl,fun k f hf=>⟨cauC f,rfl,fun i c hi=>?_,rfl⟩⟩⟩
  have e1:∀j,(⟨g,0,none⟩:Addr).add j=⟨g,0+j,none⟩:=fun j=>by unfold Addr.add;split <;> simp_all
  rw[Nat.add_assoc,←e1];exact hc g rfl _ _ (flat_cau l k f hf i c hi)
theorem two_cau{cs:List Value} {x:Cau} {w:World} {p o:Nat} (h:∀i c,cs[i]?=some c→w.cell? ⟨p,o+i,none⟩=some c) (e:cs=cauC x) :
  w.cell? ⟨p,o,none⟩=some (.int .i64 x.state)∧w.cell? ⟨p,o+1,none⟩=some (.int .i64 x.drive):=by
 subst e;exact⟨h 0 _ rfl,h 1 _ rfl⟩
theorem one_sls{α:Type} {size:Nat} {K:World→(Nat→Prop)→List Value→α→Prop} {w:World} {R:Nat→Prop} {v:Value} {es:List α} (h:SlS size K w R v es):v.oneCell'=true:=by
 obtain⟨A,c,rfl,-,-⟩:=h.form
 rfl
structure IncW where
 x:Inc
 cv:Value
instance:Inhabited IncW:=⟨⟨⟨0,0,false,0,[]⟩,.slice none 0 0⟩⟩
def incC(s:IncW):List Value:=[.int .i64 s.x.vol,.int .i64 s.x.stripe,.bool s.x.lost,.int .i64 s.x.need,s.cv]
def IncR(w:World) (B:Nat) (v:Value) (b:Nat):Prop:=B≤b∧b<w.heap.size∧v.ownBlock≠some b
structure IncsS (w:World) (B:Nat) (v:Value) (L:List IncW):Prop where
 row:w.ownsRow B 27 5 v L.length (L.flatMap incC)
 each:∀s∈L,SlS 2 CauK w (IncR w B v) s.cv s.x.causes
theorem IncsS.nil(w:World) (B:Nat):IncsS w B (.slice none 0 0) []:=⟨World.ownsRow_nil _ _ _ _,fun s h=>by cases h⟩
theorem IncsS.below{w w':World} {B:Nat} {v:Value} {L:List IncW} (h:IncsS w B v L) (hb:Below w.heap.size w w'):IncsS w' B v L :=
 ⟨own_below h.row hb,fun s hs=>SlS.mono cauK (SlS.keep cauK (h.each s hs) (fun b hx=>hb.block b hx.2.1)) (fun b hx=>⟨hx.1,Nat.lt_of_lt_of_le hx.2.1 hb.size,hx.2.2⟩)⟩
theorem IncsS.push{w w':World} {B:Nat} {v v':Value} {L:List IncW} {s:IncW} (h:IncsS w B v L) (hs:SlS 2 CauK w (IncR w B v) s.cv s.x.causes)
  (ho:w'.ownsRow B 27 5 v' (L.length+1) (L.flatMap incC++incC s)) (hg:w.grownBy w' v.ownBlock) (hat:v'.ownBlock=v.ownBlock∨∃g,v'.ownBlock=some g∧w.heap.size≤g):IncsS w' B v' (L++[s]):=by
 have hk:∀{u:IncW},SlS 2 CauK w (IncR w B v) u.cv u.x.causes→SlS 2 CauK w' (IncR w' B v') u.cv u.x.causes:=fun hu =>
  SlS.mono cauK (SlS.keep cauK hu (fun b hx=>hg.block b hx.2.1 (fun e=>hx.2.2 e.symm))) (fun b hx=>⟨hx.1,Nat.lt_of_lt_of_le hx.2.1 hg.size,fun e=>by
   rcases hat with h2 | ⟨g,h2,h3⟩
   ·rw[h2] at e;exact hx.2.2 e
   ·rw[h2] at e;injection e with e;have:=hx.2.1;omega⟩)
 refine⟨by rw[List.length_append,List.flatMap_append];simpa using ho,fun u hu=>?_⟩;rcases List.mem_append.1 hu with h2 | h2
 ·exact hk (h.each u h2)
 ·rw[List.mem_singleton.1 h2];exact hk hs
theorem app_inc{ops:Array Oper} {rest:List Oper} {o:Oper} {a:Act} {Q:Exit→Act→World→Prop} {w:World} (u:Inc) (cv:Value) (s x:Operand) (hgd:o.guard=none) (ho:o.op=.call { callee:=.builtin .append,args:=#[s,x],argTypes:=#[23,23] })
  (base:Nat) (v:Value) (L:List IncW) (hs:a.eval s=v) (hown:IncsS w base v L) (hnew:SlS 2 CauK w (IncR w base v) cv u.causes)
  (hx:a.eval x=.slice (some ⟨w.heap.size,0,none⟩) 1 1) (hn:L.length+1≤16777216) (hbase:base≤w.heap.size)
  (h:∀v' w',IncsS w' base v' (L++[⟨u,cv⟩])→w.grownBy w' v.ownBlock→wpList Tryz.prog ops Q rest (a.put o.dst v') w') :
  wpList Tryz.prog ops Q (o :: rest) a (w.alloc (.cells #[.int .i64 u.vol,.int .i64 u.stripe,.bool u.lost,.int .i64 u.need,cv] 27)):=by
 obtain⟨i0,hi0,hz0,hz1,hz2⟩:=info_parts info_inc;have h1c:=one_sls hnew;refine wpList_append1 hgd s x _ ho base i0 _ 5 56 Tryz.underlying23 hi0 hz0 hz1 hz2 rfl (by omega) (by omega) v L.length (L.flatMap incC) hs hown.row hx rfl (fun y hy=>?_) hn hbase (fun v' w' h1 h2 h3=>h v' w' (hown.push (s:=⟨u,cv⟩) hnew h1 h2 ?_) h2)
 ·simp at hy;rcases hy with rfl | rfl | rfl | rfl | rfl
  ·rfl
  ·rfl
  ·rfl
  ·rfl
  ·exact h1c
 ·rcases h3 with h3 | h3
  ·exact .inl h3
  ·exact .inr ⟨_,h3,by omega⟩
theorem flat_inc:∀(l:List IncW) (k:Nat) (x:IncW),l[k]?=some x→∀i c,(incC x)[i]?=some c→(l.flatMap incC)[k * 5+i]?=some c
 | [],k,f,h=>by simp at h
 | x :: r,0,f,h=>by
  simp at h;subst h;intro i c hc;have hi:i<(incC x).length:=(List.getElem?_eq_some_iff.1 hc).1;rw[List.flatMap_cons,Nat.zero_mul,Nat.zero_add,List.getElem?_append_left hi];exact hc
 | x :: r,k+1,f,h=>by
  intro i c hc;have hl:(incC x).length=5:=rfl;rw[List.flatMap_cons,List.getElem?_append_right (by rw[hl];omega),hl];have:=flat_inc r k f (by simpa using h) i c hc;rw[←this]
  congr 1
  omega
def IncK(w:World) (R:Nat→Prop) (cs:List Value) (x:Inc):Prop:=∃cv,cs=[.int .i64 x.vol,.int .i64 x.stripe,.bool x.lost,.int .i64 x.need,cv]∧SlS 2 CauK w R cv x.causes
theorem incK:Steady IncK:=⟨fun hk ⟨v,e,h⟩=>⟨v,e,SlS.keep cauK h hk⟩,fun hr ⟨v,e,h⟩=>⟨v,e,SlS.mono cauK h hr⟩⟩
theorem IncsS.slS{w:World} {base:Nat} {v:Value} {L:List IncW} (h:IncsS w base v L):SlS 5 IncK w (Fr base w.heap.size) v (L.map (·.x)):=by
 have h1:=h.row
 have hc:=fun g=>h1.cells (g:=g)
 have hlt:=h1.lt;rcases h1.2 with ⟨rfl,h0⟩ | ⟨g,cap,cur,rfl,_,_,h2,h3,_⟩
 ·unfold SlS;rw[List.length_map,h0];exact Row.nil _ _ _
 ·refine⟨_,cap,by rw[List.length_map],by rw[List.length_map];exact h2,by rw[List.length_map];exact Nat.le_trans h2 h3,fun _=>⟨g,0,rfl,hlt g rfl,fun k f hf=>?_⟩⟩;rw[List.getElem?_map] at hf
  cases hx:L[k]? with
  | none=>rw[hx] at hf;cases hf
  | some s =>
   rw[hx] at hf;injection hf with hf;subst hf;refine⟨incC s,rfl,fun i c hi=>?_,s.cv,rfl,SlS.mono cauK (h.each s (List.mem_of_getElem? hx)) (fun b hb=>⟨hb.1,hb.2.1⟩)⟩
   have e1:∀j,(⟨g,0,none⟩:Addr).add j=⟨g,0+j,none⟩:=fun j=>by unfold Addr.add;split <;> simp_all
   rw[Nat.add_assoc,←e1];exact hc g rfl _ _ (flat_inc L k s hx i c hi)
theorem drewN_add(w:World) (a b:Nat):(w.drewN a).drewN b=w.drewN (a+b):=by unfold World.drewN;simp[Nat.add_assoc]
theorem five_inc{cs:List Value} {x:Inc} {w:World} {R:Nat→Prop} {p o:Nat} (h:∀i c,cs[i]?=some c→w.cell? ⟨p,o+i,none⟩=some c) (e:IncK w R cs x) :
  ∃A c,w.cell? ⟨p,o,none⟩=some (.int .i64 x.vol)∧w.cell? ⟨p,o+1,none⟩=some (.int .i64 x.stripe)∧w.cell? ⟨p,o+2,none⟩=some (.bool x.lost)∧w.cell? ⟨p,o+3,none⟩=some (.int .i64 x.need)∧w.cell? ⟨p,o+4,none⟩=some (.slice A x.causes.length c)∧SlS 2 CauK w R (.slice A x.causes.length c) x.causes∧x.causes.length≤maxLen:=by
 obtain⟨cv,rfl,hs⟩:=e;obtain⟨A,c,rfl,-,hm⟩:=hs.form;exact⟨A,c,h 0 _ rfl,h 1 _ rfl,h 2 _ rfl,h 3 _ rfl,h 4 _ rfl,hs,hm⟩
theorem sameincs_any(va vb:Value) (L:List Inc) (R R':Nat→Prop) (w:World) (ha:SlS 5 IncK w R va L) (hb:SlS 5 IncK w R' vb L) :
  Calls Tryz.prog 21 #[va,vb] w fun e w'=>e=.returned (.bool true)∧∃n,w'=w.drewN n:=by
 obtain⟨A,c,rfl,h1,h2⟩:=ha.form;obtain⟨B,d,rfl,g1,g2⟩:=hb.form;unfold maxLen at h2 g2;have HA:=zh ha;have HB:=zh hb;obtain⟨LN,hL⟩:=zx L.length;rw[←hL] at HA HB h1 h2 g1 g2 ⊢;have HL:=zh hL;clear ha hb hL;go_enter Tryz.func21,Tryz.ntmps21;go_wp2_with fail;go_loopg [5] LN (fun z v5 wr=>∃j:Nat,j≤LN∧z=LN - j∧v5=.int .i64 (j:Int)∧Hid (∃n,wr=w.drewN n))
 case atStart=>exact⟨0,by omega,rfl,rfl,0,rfl⟩
 case round =>
  obtain⟨j,hj,rfl,rfl,hw⟩:=hrel;obtain⟨n,rfl⟩:=hw.out;clear hw;by_cases hlt:j<LN
  ·have hjl:j<L.length:=by rw[←HL.out];exact hlt
   obtain⟨b,off,cs,hAe,-,-,hc,hcs⟩:=HA.out.at_ (k:=j) hjl;obtain⟨b',off',cs',hBe,-,-,hc',hcs'⟩:=HB.out.at_ (k:=j) hjl;subst hAe;subst hBe;generalize L[j]=x at *;obtain⟨A1,k1,c0,c1,c2,c3,c4,hs1,hm1⟩:=five_inc hc hcs;obtain⟨A2,k2,d0,d1,d2,d3,d4,hs2,hm2⟩:=five_inc hc' hcs';obtain⟨xv,xs,xl,xn,xc⟩:=x;simp only at c0 c1 c2 c3 c4 d0 d1 d2 d3 d4 hs1 hs2 hm1 hm2;unfold maxLen at hm1 hm2;have HS1:=zh hs1;have HS2:=zh hs2;obtain⟨CN,hCN⟩:=zx xc.length;rw[←hCN] at c4 d4 HS1 HS2 hm1 hm2;have HCN:=zh hCN;have HC4:=zh (And.intro c4 d4);have HLT:=zh hlt;clear hc hc' hcs hcs' hjl hs1 hs2 hCN
   have b1:(xv != xv)=false:=by simp
   have b2:(xs != xs)=false:=by simp
   have b3:(xl != xl)=false:=by simp
   have b4:(xn != xn)=false:=by simp
   have b5:((CN:Int) != (CN:Int))=false:=by simp
   go_upto_region 6 with fail
   go_quiet (fail)
   go_wp2_with fail;clear c0 c1 c2 c3 c4 d0 d1 d2 d3 d4 b1 b2 b3 b4 b5;go_loopg [6] CN (fun z v6 wr=>∃i:Nat,i≤CN∧z=CN - i∧v6=.int .i64 (i:Int)∧Hid (∃n,wr=w.drewN n))
   case atStart=>exact⟨0,by omega,rfl,rfl,zh ⟨_,drewN_add _ _ _⟩⟩
   case round =>
    obtain⟨i,hi,rfl,rfl,hw⟩:=hrel;obtain⟨n',rfl⟩:=hw.out;clear hw;have c4:w.cell? ⟨b,off+j * 5+4,none⟩=some (.slice A1 CN k1):=HC4.out.1;have d4:w.cell? ⟨b',off'+j * 5+4,none⟩=some (.slice A2 CN k2):=HC4.out.2;by_cases hlt2:i<CN
    ·have hil:i<xc.length:=by rw[←HCN.out];exact hlt2
     obtain⟨p,po,ps,hP,-,-,hpc,hps⟩:=HS1.out.at_ (k:=i) hil;obtain⟨q,qo,qs,hQ,-,-,hqc,hqs⟩:=HS2.out.at_ (k:=i) hil;subst hP;subst hQ;generalize xc[i]=y at *;obtain⟨e0,e1⟩:=two_cau hpc hps;obtain⟨f0,f1⟩:=two_cau hqc hqs;obtain⟨ys,yd⟩:=y;simp only at e0 e1 f0 f1;clear hpc hqc hps hqs hil;go_upto_region 11 with fail
     go_quiet (fail)
     go_wp2_with fail;go_roundg (CN - (i+1))
     case measure=>omega
     case rel=>exact⟨i+1,by omega,rfl,by go_num,zh ⟨_,(by first | exact drewN_add _ _ _ | rfl)⟩⟩
    ·go_wp2_with fail;go_roundg (LN - (j+1))
     case measure=>have:=HLT.out;omega
     case rel=>exact⟨j+1,by have:=HLT.out;omega,rfl,by go_num,zh ⟨_,rfl⟩⟩
  ·go_wp2_with fail;go_ret;exact⟨rfl,⟨_,rfl⟩⟩
theorem ret_b{a b:Bool} (h:a=b):Ending.returned (.bool a)=Ending.returned (.bool b):=by rw[h]
def TlyB(w:World) (g:Nat) (a b l:Int):Prop:=w.heap[g]?=some (.cells #[.int .i64 a,.int .i64 b,.int .i64 l,.bool true] 118 (0,0))
theorem TlyB.cells{w:World} {g:Nat} {a b l:Int} (h:TlyB w g a b l):w.cell? ⟨g,0,none⟩=some (.int .i64 a)∧w.cell? ⟨g,1,none⟩=some (.int .i64 b)∧w.cell? ⟨g,2,none⟩=some (.int .i64 l)∧w.cell? ⟨g,3,none⟩=some (.bool true)∧w.frozen? ⟨g,0,none⟩=false∧w.frozen? ⟨g,1,none⟩=false∧w.frozen? ⟨g,2,none⟩=false :=
 ⟨by rw[cell_of_row _ _ _ _ _ _ h];rfl,by rw[cell_of_row _ _ _ _ _ _ h];rfl,by rw[cell_of_row _ _ _ _ _ _ h];rfl,by rw[cell_of_row _ _ _ _ _ _ h];rfl,frozen_of_row _ _ _ _ _ h,frozen_of_row _ _ _ _ _ h,frozen_of_row _ _ _ _ _ h⟩
theorem TlyB.lt{w:World} {g:Nat} {a b l:Int} (h:TlyB w g a b l):g<w.heap.size:=(Array.getElem?_eq_some_iff.1 h).1
def addG(s:Int):Int:=if s=1 then 1 else 0
def addA(s:Int):Int:=if s=2 then 1 else 0
theorem add_any(g:Nat) (a b l s:Int) (w:World) (h:TlyB w g a b l) (ha:0≤a∧a≤100000) (hb:0≤b∧b≤100000) (hl : -100000≤l∧l≤100000) :
  Calls Tryz.prog 53 #[.pointer (some ⟨g,0,none⟩),.int .i64 s] w fun e w'=>e=.returned (.tuple #[])∧TlyB w' g (a+addG s) (b+addA s) (l - 1)∧HotBy [some g] w w':=by
 obtain⟨c0,c1,c2,c3,f0,f1,f2⟩:=h.cells;obtain⟨ha0,ha1⟩:=ha;obtain⟨hb0,hb1⟩:=hb;obtain⟨hl0,hl1⟩:=hl;have H1:=zh (show(w.setCell ⟨g,2,none⟩ (.int .i64 (l - 1))).heap[g]?=some (.cells #[.int .i64 a,.int .i64 b,.int .i64 (l - 1),.bool true] 118 (0,0)) from heap_setCell_same w g 2 _ _ _ h);have HH:=zh (fun(w:World) (i:Nat) (v:Value)=>HotBy.setCell [some g] w ⟨g,i,none⟩ v (by simp));have H2:=zh (show TlyB ((w.setCell ⟨g,2,none⟩ (.int .i64 (l - 1))).setCell ⟨g,0,none⟩ (.int .i64 (a+1))) g (a+1) b (l - 1) from heap_setCell_same _ g 0 _ _ _ H1.out);have H3:=zh (show TlyB ((w.setCell ⟨g,2,none⟩ (.int .i64 (l - 1))).setCell ⟨g,1,none⟩ (.int .i64 (b+1))) g a (b+1) (l - 1) from heap_setCell_same _ g 1 _ _ _ H1.out);by_cases h1:s=1
 ·have e1:(s==1)=true:=by simpa using h1
  have HE:=zh (show addG s=1∧addA s=0 by subst h1;exact⟨rfl,rfl⟩);clear h h1;go_enter Tryz.func53,Tryz.ntmps53;go_wp2_with fail
  go_end0
  rw[HE.out.1,HE.out.2,Int.add_zero];exact⟨rfl,H2.out,(HH.out _ _ _).trans (HH.out _ _ _)⟩
 ·by_cases h2:s=2
  ·have e1:(s==1)=false:=by simpa using h1
   have e2:(s==2)=true:=by simpa using h2
   have HE:=zh (show addG s=0∧addA s=1 by subst h2;exact⟨rfl,rfl⟩);clear h h1 h2;go_enter Tryz.func53,Tryz.ntmps53;go_wp2_with fail
   go_end0
   rw[HE.out.1,HE.out.2,Int.add_zero];exact⟨rfl,H3.out,(HH.out _ _ _).trans (HH.out _ _ _)⟩
  ·have e1:(s==1)=false:=by simpa using h1
   have e2:(s==2)=false:=by simpa using h2
   have HE:=zh (show addG s=0∧addA s=0 by unfold addG addA;rw[if_neg h1,if_neg h2];exact⟨rfl,rfl⟩);clear h h1 h2;go_enter Tryz.func53,Tryz.ntmps53;go_wp2_with fail
   go_end0
   rw[HE.out.1,HE.out.2,Int.add_zero,Int.add_zero];exact⟨rfl,H1.out,HH.out _ _ _⟩
def possB(a b l need:Int) (lost:Bool):Bool :=
 if l<0∨need≤a then false else if lost=true then decide (a+b<need) else decide (need≤a+b)||decide (need≤a+b+l)
theorem possible_any(g:Nat) (a b l need:Int) (lost:Bool) (w:World) (h:TlyB w g a b l) (ha:0≤a∧a≤100000) (hb:0≤b∧b≤100000) (hl : -100000≤l∧l≤100000) :
  Calls Tryz.prog 54 #[.pointer (some ⟨g,0,none⟩),.bool lost,.int .i64 need] w fun e w'=>e=.returned (.bool (possB a b l need lost))∧∃n,w'=w.drewN n:=by
 obtain⟨c0,c1,c2,c3,f0,f1,f2⟩:=h.cells;obtain⟨ha0,ha1⟩:=ha;obtain⟨hb0,hb1⟩:=hb;obtain⟨hl0,hl1⟩:=hl;have s1:IntKind.i64.wrap (a+b)=a+b:=IntWalk.i64_in _ (by omega);have s2:IntKind.i64.wrap (a+b+l)=a+b+l:=IntWalk.i64_in _ (by omega);obtain⟨R,hR⟩:=zx (possB a b l need lost);rw[←hR];by_cases h1:l<0
 ·have e1:decide (l<0)=true:=decide_eq_true h1;have HE:=zh (show R=false by rw[hR];unfold possB;rw[if_pos (.inl h1)]);clear h hR h1;go_enter Tryz.func54,Tryz.ntmps54;go_wp2_with fail;go_ret;exact⟨ret_b HE.out.symm,0,rfl⟩
 have e1:decide (l<0)=false:=decide_eq_false h1;by_cases h2:need≤a
 ·have e2:decide (need≤a)=true:=decide_eq_true h2;have HE:=zh (show R=false by rw[hR];unfold possB;rw[if_pos (.inr h2)]);clear h hR h1 h2;go_enter Tryz.func54,Tryz.ntmps54;go_wp2_with fail;go_ret;exact⟨ret_b HE.out.symm,0,rfl⟩
 have e2:decide (need≤a)=false:=decide_eq_false h2
 cases lost with
 | true =>
  obtain⟨c,hc⟩:=zx (decide (a+b<need));have e3:decide (a+b<need)=c:=hc.symm;have HE:=zh (show R=c by rw[hR,hc];unfold possB;rw[if_neg (by omega),if_pos rfl]);clear h hR h1 h2 hc;go_enter Tryz.func54,Tryz.ntmps54;go_upto_region 4 with fail
  go_quiet (fail)
  go_wp2_with fail;go_ret;exact⟨ret_b HE.out.symm,_,rfl⟩
 | false =>
  by_cases h3:need≤a+b
  ·have e3:decide (need≤a+b)=true:=decide_eq_true h3;have HE:=zh (show R=true by rw[hR];unfold possB;rw[if_neg (by omega),if_neg (by decide),e3];rfl);clear h hR h1 h2 h3;go_enter Tryz.func54,Tryz.ntmps54;go_upto_region 5 with fail
   go_quiet (fail)
   go_wp2_with fail;go_ret;exact⟨ret_b HE.out.symm,_,rfl⟩
  ·have e3:decide (need≤a+b)=false:=decide_eq_false h3;obtain⟨c,hc⟩:=zx (decide (need≤a+b+l));have e4:decide (need≤a+b+l)=c:=hc.symm;have HE:=zh (show R=c by rw[hR,hc];unfold possB;rw[if_neg (by omega),if_neg (by decide),e3];rfl);clear h hR h1 h2 h3 hc;go_enter Tryz.func54,Tryz.ntmps54;go_upto_region 5 with fail
   go_quiet (fail)
   go_wp2_with fail;go_ret;exact⟨ret_b HE.out.symm,_,rfl⟩
def cauOk(ND:Nat) (c:Cau):Bool:=if c.state=1∨c.state=2∨c.state=3 then decide (0≤c.drive)&&decide (c.drive<(ND:Int)) else decide (c.state=4)&&decide (c.drive = -1)
def isStr(n:Nat) (ext v s:Int):Bool:=decide (0≤v∧v<(n:Int)∧0≤s∧s<ext)
instance:Inhabited Inc:=⟨⟨0,0,false,0,[]⟩⟩
def sumG:List Cau→Int
 | []=>0
 | c :: l=>addG c.state+sumG l
def sumA:List Cau→Int
 | []=>0
 | c :: l=>addA c.state+sumA l
theorem sumG_snoc(l:List Cau) (c:Cau):sumG (l++[c])=sumG l+addG c.state:=by
 induction l with
 | nil=>simp[sumG]
 | cons x l ih=>rw[List.cons_append,sumG,sumG,ih];omega
theorem sumA_snoc(l:List Cau) (c:Cau):sumA (l++[c])=sumA l+addA c.state:=by
 induction l with
 | nil=>simp[sumA]
 | cons x l ih=>rw[List.cons_append,sumA,sumA,ih];omega
theorem addG_bd(s:Int):0≤addG s∧addG s≤1:=by unfold addG;split <;> omega
theorem addA_bd(s:Int):0≤addA s∧addA s≤1:=by unfold addA;split <;> omega
theorem sumG_bd(l:List Cau):0≤sumG l∧sumG l≤(l.length:Int):=by
 induction l with
 | nil=>simp[sumG]
 | cons x l ih=>have:=addG_bd x.state;rw[sumG,List.length_cons];omega
theorem sumA_bd(l:List Cau):0≤sumA l∧sumA l≤(l.length:Int):=by
 induction l with
 | nil=>simp[sumA]
 | cons x l ih=>have:=addA_bd x.state;rw[sumA,List.length_cons];omega
theorem takeG{l:List Cau} {j:Nat} (h:j<l.length):sumG (l.take (j+1))=sumG (l.take j)+addG l[j].state:=by rw[List.take_succ_eq_append_getElem h,sumG_snoc]
theorem takeA{l:List Cau} {j:Nat} (h:j<l.length):sumA (l.take (j+1))=sumA (l.take j)+addA l[j].state:=by rw[List.take_succ_eq_append_getElem h,sumA_snoc]
def finB(K M need:Int) (lost:Bool) (cs:List Cau):Bool:=decide ((cs.length:Int)=K+M)&&(decide (sumG cs<need)&&(lost==decide (sumG cs+sumA cs<need)))
def oneB(F:FltM) (x:Inc):Bool :=
 isStr F.vols.length F.ext x.vol x.stripe&&(decide (x.need=kOf F x.vol.toNat)&&(x.causes.all (cauOk F.dves.length)&&finB (kOf F x.vol.toNat) (mOf F x.vol.toNat) x.need x.lost x.causes))
def incLtB(a b:Inc):Bool:=decide (a.vol<b.vol∨(a.vol=b.vol∧a.stripe<b.stripe))
def ordAt(l:List Inc) (i:Nat):Bool:=decide (i=0)||incLtB l[i - 1]! l[i]!
def okAt(F:FltM) (l:List Inc) (i:Nat):Bool:=oneB F l[i]! && ordAt l i
def validB(F:FltM) (l:List Inc):Bool:=(List.range l.length).all (okAt F l)
theorem valid_hit{F:FltM} {l:List Inc} (h:∀k,k<l.length→okAt F l k=true):validB F l=true:=by
 unfold validB;rw[List.all_eq_true];intro k hk;exact h k (List.mem_range.1 hk)
theorem valid_miss{F:FltM} {l:List Inc} {i:Nat} (hi:i<l.length) (h:okAt F l i=false):validB F l=false:=by
 unfold validB;rw[List.all_eq_false];exact⟨i,List.mem_range.2 hi,by rw[h];simp⟩
theorem getBang{α:Type} [Inhabited α] {l:List α} {i:Nat} (h:i<l.length):l[i]! = l[i]:=by simp[h]
theorem fin_no(K M need:Int) (lost:Bool) (cs:List Cau) (hl:¬((cs.length:Int)=K+M)):finB K M need lost cs=false:=by
 unfold finB;rw[decide_eq_false hl];rfl
theorem isStr_iff(NO:Nat) (e v s:Int):isStr NO e v s=true↔(0≤v∧v<(NO:Int))∧(0≤s∧s<e):=by
 unfold isStr;rw[decide_eq_true_eq];omega
end Go.Proofs.YtcfkllnpkmebpaaGreatDoor
