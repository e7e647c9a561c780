/- The program's explain of a stripe of a made fleet, walked. -/
import Derived.Deep.MidRow
import Derived.Test.YtcfkllnpkmebpaaGreatDoorMq21
import Derived.Test.YtcfkllnpkmebpaaGreatDoorMq01
import Derived.Test.YtcfkllnpkmebpaaGreatDoorMq22
import Derived.Test.YtcfkllnpkmebpaaGreatDoorMq12
import Derived.Deep.AppendLies
set_option maxRecDepth 100000
set_option maxHeartbeats 12800000
namespace Go.Proofs.YtcfkllnpkmebpaaGreatDoor
open Go.RowKit
open Go.ChangeMaps Go.MapKept Go.WideShapes
set_option linter.unusedVariables false
set_option linter.unusedSimpArgs false
theorem size_inc:(Tryz.prog.info? 27).map (·.size)=some 5:=by kernel_rfl
theorem cau_there{w:World} {g:Nat} {a b:Int} (h:w.heap[g]?=some (.cells #[.int .i64 a,.int .i64 b] 102 (0,0))):w.there g 0 2:=there_of_block (w:=w) (cs:=#[.int .i64 a,.int .i64 b]) h (Nat.le_refl 2)
def CauB(w0 w:World) (g:Nat) (c:Cau):Prop:=w.heap[g]?=some (.cells #[.int .i64 c.state,.int .i64 c.drive] 102 (0,0))∧w0.heap.size≤g∧Below w0.heap.size w0 w
theorem CauB.below{w0 w w':World} {g:Nat} {c:Cau} (h:CauB w0 w g c) (hb:Below w.heap.size w w'):CauB w0 w' g c :=
 ⟨(hb.block g (Array.getElem?_eq_some_iff.1 h.1).1).trans h.1,h.2.1,h.2.2.trans (hb.mono h.2.2.size)⟩
theorem CauB.set{w0 w:World} {g:Nat} {c:Cau} (h:CauB w0 w g c) (c':Cau):CauB w0 (w.setCells g 0 [.int .i64 c'.state,.int .i64 c'.drive]) g c':=by
 have h1:(w.setCell ⟨g,0,none⟩ (.int .i64 c'.state)).heap[g]?=some (.cells #[.int .i64 c'.state,.int .i64 c.drive] 102 (0,0)):=heap_setCell_same w g 0 _ _ _ h.1;have h2:((w.setCell ⟨g,0,none⟩ (.int .i64 c'.state)).setCell ⟨g,1,none⟩ (.int .i64 c'.drive)).heap[g]?=some (.cells #[.int .i64 c'.state,.int .i64 c'.drive] 102 (0,0)):=heap_setCell_same _ g 1 _ _ _ h1;exact⟨h2,h.2.1,below_setCellsV h.2.1 _ _ _ h.2.2⟩
theorem CauB.row{w0 w:World} {g:Nat} {c:Cau} (h:CauB w0 w g c):w.rangeAt g 0 [.int .i64 c.state,.int .i64 c.drive]:=World.rangeAt_of_block h.1 0 2
theorem CauB.lt{w0 w:World} {g:Nat} {c:Cau} (h:CauB w0 w g c):g<w.heap.size:=(Array.getElem?_eq_some_iff.1 h.1).1
theorem explain_any(N:Nat) (hN:N≤12) (vl vm vd vv vp vo vp0 vo0 va0:Value) (F:FltM) (r:Re) (v s EX KN KM gm n:Nat) (lost:Bool) (w:World) (hf:FleetS w (Bl w.heap.size) vl vm vd vv vp vo F) (hok:FleetOk N F) (h:ReS w (Bl w.heap.size) vp0 vo0 va0 r) (hp:r.plat.length≤24) (hl:∀l∈r.plat,l.length≤1000) (hac:r.acks.length≤1000000)
  (hv:v<F.vols.length) (hEX:F.ext=(EX:Int)) (hs:s<EX) (hKN:kOf F v=(KN:Int)) (hKM:kOf F v+mOf F v=(KM:Int)) (hM:MapG w 210 k3 gm n (fun k=>(oldD r k.v k.f k.s).map dV)) :
  Calls Tryz.prog 78 #[.agg #[.int .i64 F.ext,vl,vm,vd,vv,vp,vo],.agg #[vp0,vo0,va0],.map (some gm),.agg #[.int .i64 (v:Int),.int .i64 (s:Int)],.bool lost] w fun e w'=>∃cv,e=.returned (.agg #[.int .i64 (v:Int),.int .i64 (s:Int),.bool lost,.int .i64 (KN:Int),cv])∧SlS 2 CauK w' (Fr w.heap.size w'.heap.size) cv (causL r (v:Int) (s:Int) KM)∧Below w.heap.size w w':=by
 have hkm4:(KN=1∨KN=2)∧KM≤4:=by
  obtain⟨kk,m1,m2,-,-⟩:=kmq_ok hok hv;omega
 obtain⟨pb,pof,ob,oof,cp,co,rfl,rfl,hRp,hRo,hPA⟩:=polAt hf hok;have HGD:=zh (fun(i:Nat) (w':World) (hb:Below w.heap.size w w')=>good_any vp0 vo0 va0 r (v:Int) (i:Int) (s:Int) w' (h.below hb) (by omega) hl hac (by have:=hok.volN;unfold I64;omega) (by have:=hok.ext;unfold I64;omega));have HONL:=zh (fun(d:Nat) (hd:d≤1048576) (w':World) (hb:Below w.heap.size w w')=>ionline_any vp0 vo0 va0 r d w' (h.below hb) hd)
 have hgl:∀i:Nat,(goodI r (v:Int) (i:Int) (s:Int)).length≤1000000:=fun i=>by
  have h0:=goodTo_length (v:Int) (i:Int) (s:Int) (pieces r);have h1:=piecesTo_length r 1000 hl r.plat.length;have h2:r.plat.length * 1000≤24 * 1000:=Nat.mul_le_mul_right 1000 hp;unfold goodI;unfold pieces at h0 ⊢;omega
 have HGL:=zh hgl;have HPN:=zh hp;obtain⟨hpl,nm,hvol,a0,a4,a5,a6,a7,a8,a9,a10,a11,a12,a13,a14,a15,a16,hpol,hone⟩:=hPA v hv;obtain⟨MM,hMM⟩:=zx (mOf F v);obtain⟨QQ,hQ⟩:=zx (qOf F v);obtain⟨p0,hpp⟩:=zx (volP F v);rw[hKN,←hMM,←hQ] at hpol hone;rw[←hpp] at hvol hpl hpol;rw[hKN,←hMM] at hKM
 have hex:EX≤2:=by have:=hok.ext;omega
 have hno:=hok.volN;have hnp:=hok.polN;have HIV:=zh (show I64 (v:Int)∧I64 (s:Int) by unfold I64;omega);rw[hEX];obtain⟨NO,hNO⟩:=zx F.vols.length;obtain⟨NP,hNP⟩:=zx F.pols.length;rw[←hNO] at hno hv ⊢;rw[←hNP] at hnp hpl ⊢;obtain⟨W0,hW0⟩:=zx ((((w.alloc (.cells #[.int .i64 (EX:Int),vl,vm,vd,vv,.slice (some ⟨pb,pof,none⟩) NP cp,.slice (some ⟨ob,oof,none⟩) NO co] 35)).alloc (.cells #[vp0,vo0,va0] 40)).alloc (.cells #[.int .i64 (v:Int),.int .i64 (s:Int)] 67)).alloc (.cells #[.int .i64 0,.int .i64 0,.bool false,.int .i64 0,.slice none 0 0] 27));obtain⟨z,hz⟩:=zx w.heap.size;obtain⟨y,hy⟩:=zx (w.heap.size+1);obtain⟨gk,hgk⟩:=zx (w.heap.size+1+1);obtain⟨gr,hgr⟩:=zx (w.heap.size+1+1+1)
 have hb0:Below w.heap.size w W0:=by rw[hW0];exact((((Below.refl _ _).alloc (Nat.le_refl _) _).alloc (by simp) _).alloc (by simp;omega) _).alloc (by simp;omega) _
 have hrk:W0.heap[gr]?=some (.cells #[.int .i64 0,.int .i64 0,.bool false,.int .i64 0,.slice none 0 0] 27 (0,0)):=by
  rw[hW0];exact heap_alloc_at _ _ _ (by rw[hgr];simp)
 have hkk:W0.heap[gk]?=some (.cells #[.int .i64 (v:Int),.int .i64 (s:Int)] 67 (0,0)):=by
  rw[hW0];exact(Below.heap_alloc _ _ _ (by rw[hgk];simp only[sz_al];omega)).trans (heap_alloc_at _ _ _ (by rw[hgk];simp))
 have hyk:W0.heap[y]?=some (.cells #[vp0,vo0,va0] 40 (0,0)):=by
  rw[hW0];exact(Below.heap_alloc _ _ _ (by rw[hy];simp only[sz_al];omega)).trans ((Below.heap_alloc _ _ _ (by rw[hy];simp only[sz_al];omega)).trans (heap_alloc_at _ _ _ (by rw[hy];simp)))
 have hzk:W0.heap[z]?=some (.cells #[.int .i64 (EX:Int),vl,vm,vd,vv,.slice (some ⟨pb,pof,none⟩) NP cp,.slice (some ⟨ob,oof,none⟩) NO co] 35 (0,0)):=by
  rw[hW0,hz];exact(Below.heap_alloc _ _ _ (by simp only[sz_al];omega)).trans ((Below.heap_alloc _ _ _ (by simp only[sz_al];omega)).trans ((Below.heap_alloc _ _ _ (by simp only[sz_al];omega)).trans (heap_alloc_new w _)))
 have hyl:y<W0.heap.size:=(Array.getElem?_eq_some_iff.1 hyk).1;have hzl:z<W0.heap.size:=(Array.getElem?_eq_some_iff.1 hzk).1;have hkl:gk<W0.heap.size:=(Array.getElem?_eq_some_iff.1 hkk).1;have hrl:gr<W0.heap.size:=(Array.getElem?_eq_some_iff.1 hrk).1;have HC:=zh (fun(w':World) (hb:Below W0.heap.size W0 w')=>And.intro (cells7 ((hb.block z hzl).trans hzk)) (cells3 ((hb.block y hyl).trans hyk)))
 have HKC:=zh (fun(w':World) (hb:Below W0.heap.size W0 w')=>(show w'.cell? ⟨gk,0,none⟩=some (.int .i64 (v:Int))∧w'.cell? ⟨gk,1,none⟩=some (.int .i64 (s:Int)) from by
  have h1:=(hb.block gk hkl).trans hkk
  exact⟨by rw[cell_of_row _ _ _ _ _ _ h1];rfl,by rw[cell_of_row _ _ _ _ _ _ h1];rfl⟩))
 have HRC:=zh (fun(w':World) (hb:Below W0.heap.size W0 w')=>(hb.block gr hrl).trans hrk);have HRE:=zh (fun(w':World) (hb:Below W0.heap.size W0 w')=>hb0.trans (hb.mono hb0.size));have HMG:=zh (fun(w':World) (hb:Below W0.heap.size W0 w')=>hM.below (hb0.trans (hb.mono hb0.size)) hM.lt);have HGE:=zh (show w.heap.size≤gr∧w.heap.size≤W0.heap.size from⟨by omega,hb0.size⟩);have HW0:=zh hW0;have HZ:=zh (And.intro hz (And.intro hy (And.intro hgk hgr)));have HB0:=zh hb0;have HVOL:=zh (fun(w':World) (hb:Below W0.heap.size W0 w')=>(show w'.cell? ⟨ob,oof+v * 2+1,none⟩=some (.int .i64 (p0:Int)) from range_same hvol ((hb0.trans (hb.mono hb0.size)).block ob hRo) 1 _ rfl));have HPOL:=zh (fun(w':World) (hb:Below W0.heap.size W0 w')=>(show w'.rangeAt pb (pof+p0 * 17) [a0,.int .i64 (KN:Int),.int .i64 MM,.int .i64 QQ,a4,a5,a6,a7,a8,a9,a10,a11,a12,a13,a14,a15,a16] from range_same hpol ((hb0.trans (hb.mono hb0.size)).block pb hRp)));have HON:=zh hone;have HTH:=zh (show((W0.alloc (.cells #[.string ⟨#[]⟩,.int .i64 0,.int .i64 0,.int .i64 0,.int .i64 0,.int .i64 0,.int .i64 0,.int .i64 0,.int .i64 0,.slice none 0 0,.slice none 0 0,.bool false,.slice none 0 0,.slice none 0 0,.bool false,.slice none 0 0,.slice none 0 0] 85)).drew).there W0.heap.size 0 17 from there_of_block (w:=(W0.alloc (.cells #[.string ⟨#[]⟩,.int .i64 0,.int .i64 0,.int .i64 0,.int .i64 0,.int .i64 0,.int .i64 0,.int .i64 0,.int .i64 0,.slice none 0 0,.slice none 0 0,.bool false,.slice none 0 0,.slice none 0 0,.bool false,.slice none 0 0,.slice none 0 0] 85)).drew) (cs:=#[.string ⟨#[]⟩,.int .i64 0,.int .i64 0,.int .i64 0,.int .i64 0,.int .i64 0,.int .i64 0,.int .i64 0,.int .i64 0,.slice none 0 0,.slice none 0 0,.bool false,.slice none 0 0,.slice none 0 0,.bool false,.slice none 0 0,.slice none 0 0]) (heap_alloc_new W0 _) (Nat.le_refl 17))
 have HSK:=zh (fun(w':World) (hb:Below W0.heap.size W0 w')=>(show w'.cell? ⟨z,5,none⟩=some (.slice (some ⟨pb,pof,none⟩) NP cp)∧w'.cell? ⟨z,6,none⟩=some (.slice (some ⟨ob,oof,none⟩) NO co)∧w'.cell? ⟨gk,0,none⟩=some (.int .i64 (v:Int))∧w'.cell? ⟨ob,oof+v * 2+1,none⟩=some (.int .i64 (p0:Int))∧w'.rangeAt pb (pof+p0 * 17) [a0,.int .i64 (KN:Int),.int .i64 MM,.int .i64 QQ,a4,a5,a6,a7,a8,a9,a10,a11,a12,a13,a14,a15,a16] from by
  obtain⟨⟨-,-,-,-,-,x5,x6⟩,-⟩:=HC.out w' hb
  exact⟨x5,x6,(HKC.out w' hb).1,HVOL.out w' hb,HPOL.out w' hb⟩))
 have i1:(v:Int)<(NO:Int):=by omega
 have i2:(p0:Int)<(NP:Int):=by omega
 have i3:(KN:Int)≤2:=by omega
 have i4:(1:Int)≤(KN:Int):=by omega
 have i5:(KM:Int)≤4:=by omega
 have hkw:IntKind.i64.wrap ((KN:Int)+MM)=(KM:Int):=by rw[hKM];exact IntWalk.i64_in _ (by omega)
 have hkm:(KN:Int)+MM=(KM:Int):=hKM;have HKM4:=zh (show KM≤4 from hkm4.2);clear hf hok h hPA hRp hRo hvol hpol hone hW0 hz hy hgk hgr hb0 hyk hzk hkk hrk hyl hzl hkl hrl hNO hNP hEX hKN hMM hQ hpp hpl hKM hgl hkm4 hl hac hN hp hM;go_enter Tryz.func78,Tryz.ntmps78;go_upto_region 1 with fail;rw[←HW0.out,←HZ.out.2.2.2,←HZ.out.2.2.1,←HZ.out.2.1,←HZ.out.1];refine region_tail (S:=(fun w'=>w'.cell? ⟨z,5,none⟩=some (.slice (some ⟨pb,pof,none⟩) NP cp)∧w'.cell? ⟨z,6,none⟩=some (.slice (some ⟨ob,oof,none⟩) NO co)∧w'.cell? ⟨gk,0,none⟩=some (.int .i64 (v:Int))∧w'.cell? ⟨ob,oof+v * 2+1,none⟩=some (.int .i64 (p0:Int))∧w'.rangeAt pb (pof+p0 * 17) [a0,.int .i64 (KN:Int),.int .i64 MM,.int .i64 QQ,a4,a5,a6,a7,a8,a9,a10,a11,a12,a13,a14,a15,a16])) [12] (by kernel_rfl) (HSK.out _ (Below.refl _ _).drew) (fun hHeld=>?_);refine tk 0 20 ?_;refine tk 1 21 ?_;refine tk 2 22 ?_;refine tk 3 23 ?_;refine tk 4 24 ?_;refine tk 5 25 ?_;refine tk 6 26 ?_;refine tk 7 27 ?_;refine tk 8 28 ?_;refine tk 9 29 ?_;refine takeT (i:=10) (d:=30) (v:=(.agg #[a0,.int .i64 (KN:Int),.int .i64 MM,.int .i64 QQ,a4,a5,a6,a7,a8,a9,a10,a11,a12,a13,a14,a15,a16])) rfl rfl (by kernel_rfl) (by kernel_rfl) (by kernel_rfl) (by kernel_rfl) (fun _ _ _ h=>h) (yieldsIf_load_mid (by rfl) 85 (.tmp 29) rfl pb (pof+p0 * 17) (by rfl) [a0,.int .i64 (KN:Int),.int .i64 MM,.int .i64 QQ,a4,a5,a6,a7,a8,a9,a10,a11,a12,a13,a14,a15,a16] _ (fun w hw=>hw.2.2.2.2) Tryz.underlying85 rfl size_pol) (by assumption) ?_;(try simp only[Act.put,z1,z2,z3]);refine readyT (rs:=[11]) (by kernel_rfl) (by simp) ?_;refine AllReadyT.cons rfl (fun K hK=>?_) ?_
 ·go_simp;refine hK.out _ _ ?_ (fun hHeld=>?_)
  ·exact HSK.out _ ((Below.refl _ _).drew.alloc (Nat.le_refl _) _)
  clear hK K;(try simp only[Act.put,z1,z2,z3]);refine readyT (rs:=[12]) (by kernel_rfl) (by simp) ?_;refine AllReadyT.consT rfl rfl (fun K hK=>?_) ?_
  ·rw[if_pos (by rfl)];refine wp_store_mid 85 (.tmp 11) (.tmp 30) rfl W0.heap.size 0 #[a0,.int .i64 (KN:Int),.int .i64 MM,.int .i64 QQ,a4,a5,a6,a7,a8,a9,a10,a11,a12,a13,a14,a15,a16] (by rfl) (by rfl) HTH.out size_pol HON.out ?_;refine hK.out _ _ ?_;clear hK K;(try simp only[Act.put,z1,z2,z3]);refine doneT (by kernel_rfl) ?_ _;clear hHeld;obtain⟨W8,hW8⟩:=zx (World.setCells ((W0.alloc (.cells #[.string ⟨#[]⟩,.int .i64 0,.int .i64 0,.int .i64 0,.int .i64 0,.int .i64 0,.int .i64 0,.int .i64 0,.int .i64 0,.slice none 0 0,.slice none 0 0,.bool false,.slice none 0 0,.slice none 0 0,.bool false,.slice none 0 0,.slice none 0 0] 85)).drew) W0.heap.size 0 [a0,.int .i64 (KN:Int),.int .i64 MM,.int .i64 QQ,a4,a5,a6,a7,a8,a9,a10,a11,a12,a13,a14,a15,a16]);obtain⟨gp,hgp⟩:=zx W0.heap.size
   have hb8:Below W0.heap.size W0 W8:=by rw[hW8];exact below_setCellsV (Nat.le_refl _) _ _ _ ((Below.refl _ _).alloc (Nat.le_refl _) _).drew
   have hgrn:W8.rangeAt gp 0 [a0,.int .i64 (KN:Int),.int .i64 MM,.int .i64 QQ,a4,a5,a6,a7,a8,a9,a10,a11,a12,a13,a14,a15,a16]:=by rw[hW8,hgp];exact World.rangeAt_setCells_same _ _ _ _ HTH.out
   have HGP:=zh (fun(w':World) (hb:Below W8.heap.size W8 w')=>(show w'.cell? ⟨gp,1,none⟩=some (.int .i64 (KN:Int))∧w'.cell? ⟨gp,2,none⟩=some (.int .i64 MM) from
    have hl:=World.block_lt_of_cell? W8 _ (hgrn 0 _ rfl)
    ⟨range_same hgrn (hb.block gp hl) 1 _ rfl,range_same hgrn (hb.block gp hl) 2 _ rfl⟩))
   have HB8:=zh hb8;have HW8:=zh hW8;have HGG:=zh hgp;obtain⟨W9,hW9⟩:=zx (W8.alloc (.cells #[.int .i64 (v:Int),.int .i64 (s:Int),.bool lost,.int .i64 (KN:Int),.slice none 0 0] 27));obtain⟨g,hg⟩:=zx W8.heap.size;have HT0:=zh (show IncT W8 g (.int .i64 (v:Int)) (.int .i64 (s:Int)) (.bool lost) (.int .i64 (KN:Int)) W9 (.slice none 0 0) [] from by rw[hW9];exact IncT.start hg);have HW9:=zh hW9;have HG9:=zh hg;clear hW8 hgp hb8 hgrn HTH HSK hW9 hg;rw[←HW8.out,←HGG.out];obtain⟨p1,p2⟩:=HGP.out W8 (Below.refl _ _);obtain⟨k0,k1⟩:=HKC.out W8 HB8.out;go_upto_region 3 with fail;rw[←HW9.out,←HG9.out];clear p1 p2 k0 k1;obtain⟨p1,p2⟩:=HGP.out W9 HT0.out.hot;go_wp2_with fail;clear p1 p2;go_loopg [44] KM (fun z v44 wr=>∃(i:Nat) (cv:Value),v44=.int .i64 (i:Int)∧i≤KM∧z=KM - i∧Hid (IncT W8 g (.int .i64 (v:Int)) (.int .i64 (s:Int)) (.bool lost) (.int .i64 (KN:Int)) wr cv (causL r (v:Int) (s:Int) i)))
   case atStart=>exact⟨0,_,rfl,Nat.zero_le _,rfl,HT0⟩
   case round =>
    clear HT0;obtain⟨i,cv,rfl,hi,rfl,HT⟩:=hrel;by_cases hlt:i<KM
    ·obtain⟨wo,rfl⟩:=zx (wr:World);have HLT:=zh hlt;have HB1:=zh (HB8.out.trans (HT.out.hot.mono HB8.out.size));have HNT:=zh (fun(cv':Value) (w':World) (ht:IncT W8 g (.int .i64 (v:Int)) (.int .i64 (s:Int)) (.bool lost) (.int .i64 (KN:Int)) w' cv' (causL r (v:Int) (s:Int) i++[causeOf r (v:Int) (i:Int) (s:Int)]))=>(show IncT W8 g (.int .i64 (v:Int)) (.int .i64 (s:Int)) (.bool lost) (.int .i64 (KN:Int)) w' cv' (causL r (v:Int) (s:Int) (i+1)) from by rw[causL_succ];exact ht))
     have hgi:=fun w' (hb:Below w.heap.size w w')=>HGD.out i w' hb
     obtain⟨G,hG⟩:=zx (goodI r (v:Int) (i:Int) (s:Int));obtain⟨o,ho⟩:=zx (oldD r (v:Int) (i:Int) (s:Int));obtain⟨CX,hCX⟩:=zx (causeOf r (v:Int) (i:Int) (s:Int));rw[←hG] at hgi;rw[←hCX] at HNT;have HCX:=zh (show causeG r G o=CX by rw[hG,ho,hCX,causeG_eq]);have HGI:=zh hgi;have HGN:=zh hG;have HOO:=zh ho;obtain⟨LG,hLG⟩:=zx G.length
     have hgn:LG≤1000000:=by rw[hLG,hG];exact HGL.out i
     have HLG:=zh hLG;have HKV:=zh (show(.agg #[.int .i64 (v:Int),.int .i64 (i:Int),.int .i64 (s:Int)]:Value)=k3 ⟨(v:Int),(i:Int),(s:Int)⟩ from rfl);have HOKX:=zh (show Ky3.ok ⟨(v:Int),(i:Int),(s:Int)⟩ from⟨HIV.out.1,(show I64 (i:Int) from⟨by omega,by omega⟩),HIV.out.2⟩);obtain⟨D0,hD0⟩:=zx (o.getD 0);obtain⟨okb,hokb⟩:=zx o.isSome;have HU:=zh (show(fun k:Ky3=>(oldD r k.v k.f k.s).map dV) ⟨(v:Int),(i:Int),(s:Int)⟩=o.map dV by rw[ho]);have HDX:=zh (show(o.map dV).getD (.int .i64 0)=.int .i64 (D0:Int) by rw[hD0];cases o <;> rfl);have HOB:=zh (show(o.map dV).isSome=okb by rw[hokb];cases o <;> rfl);have HC1:=zh (show causeG r [] o=(if okb=true then⟨3,(D0:Int)⟩ else⟨4,-1⟩) by rw[hD0,hokb,causeG_nil];cases o <;> rfl);obtain⟨W10,hW10⟩:=zx (wo.alloc (.cells #[.int .i64 4,.int .i64 (-1)] 102));obtain⟨gc,hgc⟩:=zx wo.heap.size;have HCB:=zh (show CauB wo W10 gc ⟨4,-1⟩ from⟨by rw[hW10,hgc];exact heap_alloc_new wo _,by omega,by rw[hW10];exact(Below.refl _ _).alloc (Nat.le_refl _) _⟩);have HB10:=zh (HB1.out.trans (HCB.out.2.2.mono HB1.out.size));have HM10:=zh (HMG.out W10 HB10.out);have HW10:=zh hW10;have HGC:=zh hgc;obtain⟨k0,k1⟩:=HKC.out W10 HB10.out;clear hG ho hCX hgi hLG hD0 hokb hW10 hgc hlt;go_upto_region 7 with fail;rw[←HW10.out,←HGC.out]
     go_upto_if 59 with (refine kg_look_ok rfl (.tmp 49) (.tmp 55) 158 210 3 rfl key3 Tryz.underlying158 gm n _ _ (.int .i64 0) (by rfl) HKV.out HM10.out (zero_int8 _) HOKX.out (o.map dV) HU.out ?_;rw[HDX.out,HOB.out])
     clear k0 k1;obtain⟨C1,hC1⟩:∃c:Cau,c=(if okb=true then⟨3,(D0:Int)⟩ else⟨4,-1⟩):=⟨_,rfl⟩;have HC1E:=zh hC1;have HC1F:=zh (show causeG r [] o=C1 by rw[HC1.out,hC1]);clear hC1;go_cut [] from 60 to 61 (fun wc=>Hid (CauB wo wc gc C1))
     case first =>
      cases okb with
      | true =>
       have HTH:=zh (cau_there HCB.out.1);go_wp2_with (refine wpList_store_mid rfl 102 (.tmp 14) (.tmp 61) rfl gc 0 #[.int .i64 3,.int .i64 (D0:Int)] (by rfl) (by rfl) HTH.out size_cau (one2 _ _) ?_);go_meet;exact zh (by rw[HC1E.out];exact HCB.out.set ⟨3,(D0:Int)⟩)
      | false =>
       go_wp2_with fail;go_meet;exact zh (by rw[HC1E.out];exact HCB.out)
     case rest =>
      have HCC:=hcut;clear hcut HCB HB10 HM10 HU HDX HOB HC1 HC1E HKV HOKX;have HB2:=zh (HB1.out.trans (HCC.out.2.2.mono HB1.out.size));obtain⟨k0,k1⟩:=HKC.out wc HB2.out;obtain⟨-,y0,y1,y2,-⟩:=HC.out wc HB2.out
      go_upto_if 71 with (go_at_call 61;refine(HGI.out _ (HRE.out _ HB2.out)).mono ?_;rintro e w2 ⟨u,rfl,hou,hb2⟩;obtain⟨Au,cu,hu⟩:=hou.form;rw[←HLG.out] at hu;subst hu;have HOU:=zh (hou.intS (fun x hx=>(by rw[HGN.out] at hx;obtain⟨d,rfl,hd⟩:=good_nat r _ _ _ x hx;have:=HPN.out;unfold I64;omega)));have HBG:=zh hb2;clear hou hb2)
      clear k0 k1 y0 y1 y2;have HC2:=zh (HCC.out.below HBG.out);have HGL3:=zh HCC.out.lt;go_cut [19] from 71 to 87 (fun v19 wd=>Hid (CauB wo wd gc CX))
      case first =>
       by_cases hg0:0<LG
       ·have hgI:(0:Int)<(LG:Int):=by omega
        have HG0:=zh (show 0<G.length by rw[←HLG.out];exact hg0);obtain⟨b,off,hA,hR,hc,-⟩:=HOU.out.at7 (k:=0) HG0.out;subst hA;have HRB:=zh hR;obtain⟨x0,hx0⟩:=zx (G[0]'HG0.out);rw[←hx0] at hc;simp only[Nat.add_zero] at hc;have HX0:=zh hx0;have HTH:=zh (cau_there HC2.out.1);clear hx0 hR
        have hbg:some b∉[some gc]:=by simp;have:=HGL3.out;have:=HRB.out.1;omega
        have HBG3:=zh hbg;clear hbg;go_upto_region 13 with (refine wpList_store_mid rfl 102 (.tmp 14) (.tmp 75) rfl gc 0 #[.int .i64 2,.int .i64 x0] (by rfl) (by rfl) HTH.out size_cau (one2 _ _) ?_);obtain⟨W3,hW3⟩:=zx (w2.setCells gc 0 [.int .i64 2,.int .i64 x0]:World)
        have hh:HotBy [some gc] w2 W3:=by rw[hW3];exact(HotBy.setCell [some gc] w2 ⟨gc,0,none⟩ (.int .i64 2) (by simp)).trans (HotBy.setCell [some gc] _ ⟨gc,1,none⟩ (.int .i64 x0) (by simp))
        have HC3:=zh (show CauB wo W3 gc ⟨2,x0⟩ by rw[hW3];exact HC2.out.set ⟨2,x0⟩)
        have HCL:=zh (fun(k:Nat) (hk:k<G.length) (w':World) (hb:Below W3.heap.size W3 w')=>(show w'.cell? ⟨b,off+k,none⟩=some (.int .i64 G[k]) from by
         obtain⟨b',off',hA',hR',hc',-⟩:=HOU.out.at7 (k:=k) hk;injection hA' with hA';injection hA' with hb1 ho1;subst hb1;subst ho1
         exact(hb.cell (p:=⟨b,off+k,none⟩) (Nat.lt_of_lt_of_le hR'.2 hh.size)).trans ((World.cell?_of_block (w:=w2) (hh.block b hR'.2 HBG3.out)).trans hc')))
        have HW3:=zh hW3;clear hW3 hh hc;(try simp only[Array.toList_toArray]);rw[←HW3.out];go_wp2_with fail;go_loopg [19,78] LG (fun z v19 v78 wr=>∃j:Nat,v78=.int .i64 (j:Int)∧j≤LG∧z=LG - j∧Hid (∀k (hk:k<G.length),k<j→onB r G[k].toNat=false)∧Hid (CauB wo wr gc ⟨2,x0⟩)∧Hid (Below W3.heap.size W3 wr))
        case atStart=>exact⟨0,rfl,Nat.zero_le _,rfl,zh (fun k hk h=>by omega),HC3,zh (Below.refl _ _)⟩
        case round =>
         obtain⟨j,rfl,hj,rfl,HNO,HCI,HBI⟩:=hrel;by_cases hlj:j<LG
         ·have hjg:j<G.length:=by rw[←HLG.out];exact hlj
          obtain⟨d,hd,hdl⟩:=good_nat r (v:Int) (i:Int) (s:Int) G[j] (by rw[←HGN.out];exact List.getElem_mem hjg);have e0:=HCL.out j hjg wr HBI.out;rw[hd] at e0;have HR1:=zh (HB1.out.trans (HCI.out.2.2.mono HB1.out.size));obtain⟨-,y0,y1,y2,-⟩:=HC.out wr HR1.out;have hio:=HONL.out d (by have:=HPN.out;omega) wr (HRE.out wr HR1.out);obtain⟨onb,honb⟩:=zx (onB r d);rw[←honb] at hio;have HIO:=zh hio
          have HHIT:=zh (show onb=true→CX=⟨1,(d:Int)⟩ from fun e=>by
           rw[←HCX.out,causeG_hit hjg HNO.out (by rw[hd,Int.toNat_natCast,←honb];exact e),hd])
          have HNX:=zh (show onb=false→∀k (hk:k<G.length),k<j+1→onB r G[k].toNat=false from fun e k hk h=>by
           by_cases e2:k=j
           ·subst e2;rw[hd,Int.toNat_natCast,←honb];exact e
           ·exact HNO.out k hk (by omega))
          have hdn:(d:Int)≤24:=by have:=HPN.out;omega
          clear hjg hd hdl hio honb
          cases onb with
          | true =>
           go_upto_region 17 with (go_at_call 62;refine HIO.out.mono ?_;rintro e w4 ⟨rfl,hb4⟩;have HB4:=zh hb4;clear hb4);have HC4:=zh (HCI.out.below HB4.out);have HTH4:=zh (cau_there HC4.out.1);clear e0 y0 y1 y2;go_wp2_with (refine wpList_store_mid rfl 102 (.tmp 14) (.tmp 86) rfl gc 0 #[.int .i64 1,.int .i64 (d:Int)] (by rfl) (by rfl) HTH4.out size_cau (one2 _ _) ?_);go_meet;exact zh (by rw[HHIT.out (by simp)];exact HC4.out.set ⟨1,(d:Int)⟩)
          | false =>
           go_wp2_with (go_at_call 62;refine HIO.out.mono ?_;rintro e w4 ⟨rfl,hb4⟩;have HB4:=zh hb4;clear hb4);go_roundg (LG - (j+1))
           case measure=>omega
           case rel=>exact⟨j+1,by go_num,by omega,rfl,zh (HNX.out (by simp)),zh (HCI.out.below HB4.out),zh (HBI.out.trans (HB4.out.mono HBI.out.size))⟩
         ·have HE:=zh (show(⟨2,x0⟩:Cau)=CX by rw[←HCX.out,causeG_miss HG0.out (fun k hk=>HNO.out k hk (by have:=HLG.out;omega)),HX0.out]);go_wp2_with fail;go_meet;exact zh (by rw[←HE.out];exact HCI.out)
       ·have HE:=zh (show C1=CX by rw[←HCX.out,←HC1F.out,List.eq_nil_of_length_eq_zero (show G.length=0 by have:=HLG.out;omega)])
        obtain rfl:LG=0:=by omega
        go_wp2_with fail;go_meet;exact zh (by rw[←HE.out];exact HC2.out)
      case rest =>
       have HCD:=hcut;clear hcut HC2 HCC HOU HBG HB2;have HT2:=zh (HT.out.below HCD.out.2.2);obtain⟨m0,m1,m2⟩:=HT2.out.cells;have hr:=HCD.out.row;have q0:=hr 0 _ rfl;have q1:=hr 1 _ rfl;simp only[Nat.add_zero,Nat.zero_add] at q0 q1;obtain⟨Av,cvv,hvf⟩:=HT2.out.own.form;rw[causL_len] at hvf;subst hvf;have HLN:=zh (causL_len r (v:Int) (s:Int) i);clear hr;go_wp2_with (at_builtin;refine app_cau CX (.tmp 89) (.tmp 91) rfl rfl W8.heap.size (.slice Av i cvv) i (causL r (v:Int) (s:Int) i) HLN.out (by rfl) (by have:=HT2.out.own;unfold OwnCau at this;rw[HLN.out] at this;exact this) (by rfl) (by have:=HLT.out;have:=HKM4.out;omega) HT2.out.hot.size ?_;intro v5 w5 hown5 hg5 hat5;obtain⟨A5,c5,hv5⟩:=hown5.form;rw[List.length_append,HLN.out] at hv5;subst hv5;obtain⟨hB5,hX5⟩:=HT2.out.grown hg5;have n1:w5.cell? ⟨g,4,none⟩=some (.slice Av i cvv):=(by rw[cell_of_row _ _ _ _ _ _ hX5];rfl);have nf:w5.frozen? ⟨g,4,none⟩=false:=frozen_of_row _ _ _ _ _ hX5;have HN:=zh (HNT.out _ _ (HT2.out.push hg5 hown5));clear hB5 hX5 hown5 hg5 hat5);go_roundg (KM - (i+1))
       case measure=>have:=HLT.out;omega
       case rel=>exact⟨i+1,_,by go_num,by have:=HLT.out;omega,rfl,HN⟩
    ·obtain rfl:KM=i:=by omega
     have HB1:=zh (HB8.out.trans (HT.out.hot.mono HB8.out.size));have HRG:=zh HT.out.all;have hrb:=HRC.out wr HB1.out;have HTR:=zh (show wr.there gr 0 5 from there_of_block (w:=wr) (cs:=#[.int .i64 0,.int .i64 0,.bool false,.int .i64 0,.slice none 0 0]) hrb (Nat.le_refl 5));have HSL:=zh HT.out.own.slS;have HOC:=zh (show(#[.int .i64 (v:Int),.int .i64 (s:Int),.bool lost,.int .i64 (KN:Int),cv]:Array Value).all (·.oneCell')=true from by simp[Value.oneCell',one_sls HSL.out];exact one_sls HSL.out);clear hrb;go_wp2_with (first | (refine wpList_load_mid rfl 27 (.tmp 12) rfl g 0 (by rfl) [.int .i64 (v:Int),.int .i64 (s:Int),.bool lost,.int .i64 (KN:Int),cv] _ HRG.out Tryz.underlying27 rfl size_inc ?_) | (refine wpList_store_mid rfl 27 (.tmp 10) (.tmp 95) rfl gr 0 #[.int .i64 (v:Int),.int .i64 (s:Int),.bool lost,.int .i64 (KN:Int),cv] (by rfl) (by rfl) HTR.out size_inc HOC.out ?_));have hld:=run_loadVar_mid (P:=Tryz.prog) _ gr 0 27 _ _ (World.rangeAt_setCells_same wr gr 0 [.int .i64 (v:Int),.int .i64 (s:Int),.bool lost,.int .i64 (KN:Int),cv] HTR.out) Tryz.underlying27 rfl size_inc;(try simp only[Exit.inBlock,Exit.then]);refine bodyPost_ret (v:=.agg #[.int .i64 (v:Int),.int .i64 (s:Int),.bool lost,.int .i64 (KN:Int),cv]) ?_ rfl ?_
     ·exact results_cell _ 27 10 _ _ _ ⟨gr,0,none⟩ Tryz.results78 (by rfl) hld
     ·have hbw:=below_setCellsV HGE.out.1 [.int .i64 (v:Int),.int .i64 (s:Int),.bool lost,.int .i64 (KN:Int),cv] 0 wr (HB0.out.trans (HB1.out.mono HB0.out.size));have hh:=hot_setCells wr gr [.int .i64 (v:Int),.int .i64 (s:Int),.bool lost,.int .i64 (KN:Int),cv] 0;have hg0:gr<W0.heap.size:=(Array.getElem?_eq_some_iff.1 (HRC.out W0 (Below.refl _ _))).1;have hs8:=HB8.out.size;have hge:=HGE.out;exact⟨cv,rfl,SlS.mono cauK (SlS.keep cauK HSL.out (fun b hb=>hh.block b hb.2 (by have:=hb.1;simp;omega))) (fun b hb=>⟨by have:=hb.1;omega,Nat.lt_of_lt_of_le hb.2 hh.size⟩),hbw⟩
  exact AllReadyT.nil
 exact AllReadyT.nil
end Go.Proofs.YtcfkllnpkmebpaaGreatDoor

namespace Go.Proofs.YtcfkllnpkmebpaaGreatDoor
open Go.RowKit
set_option linter.unusedVariables false
set_option linter.unusedSimpArgs false
def expl(F:FltM) (r:Re):List Inc:=if r.plat.length≤F.dves.length∧r.on.length≤F.dves.length then incL F r F.ext.toNat F.vols.length 0 else []
end Go.Proofs.YtcfkllnpkmebpaaGreatDoor

namespace Go.Proofs.YtcfkllnpkmebpaaGreatDoor
open Go.RowKit
open Go.ChangeMaps Go.MapKept Go.WideShapes
set_option linter.unusedVariables false
set_option linter.unusedSimpArgs false
theorem explain_out(N:Nat) (hN:N≤12) (vl vm vd vv vp vo vp0 vo0 va0:Value) (F:FltM) (r:Re) (w:World) (hf:FleetS w (Bl w.heap.size) vl vm vd vv vp vo F) (hok:FleetOk N F) (h:ReS w (Bl w.heap.size) vp0 vo0 va0 r) (hx:F.dves.length<r.plat.length∨F.dves.length<r.on.length) :
  Calls Tryz.prog 28 #[.agg #[.int .i64 F.ext,vl,vm,vd,vv,vp,vo],.agg #[vp0,vo0,va0]] w fun e w'=>e=.returned (.slice none 0 0)∧Below w.heap.size w w':=by
 obtain⟨Ad,cd,rfl,-,hmd⟩:=SlS.form hf.2.2.2.1;obtain⟨Ap,cp,rfl,-,hmp⟩:=h.1.form;obtain⟨Ao,co,rfl,-,hmo⟩:=h.2.1.form;unfold maxLen at hmd hmp hmo;obtain⟨W0,hW0⟩:=zx ((w.alloc (.cells #[.int .i64 F.ext,vl,vm,vd,.slice Ad F.dves.length cd,vp,vo] 35)).alloc (.cells #[.slice Ap r.plat.length cp,.slice Ao r.on.length co,va0] 40));obtain⟨z,hz⟩:=zx w.heap.size;obtain⟨y,hy⟩:=zx (w.heap.size+1)
 have hb0:Below w.heap.size w W0:=by rw[hW0];exact((Below.refl _ _).alloc (Nat.le_refl _) _).alloc (by simp) _
 have hyk:W0.heap[y]?=some (.cells #[.slice Ap r.plat.length cp,.slice Ao r.on.length co,va0] 40 (0,0)):=by
  rw[hW0];exact heap_alloc_at _ _ _ (by rw[hy];simp)
 have hzk:W0.heap[z]?=some (.cells #[.int .i64 F.ext,vl,vm,vd,.slice Ad F.dves.length cd,vp,vo] 35 (0,0)):=by
  rw[hW0,hz];exact(Below.heap_alloc _ _ _ (by simp)).trans (heap_alloc_new w _)
 have hyl:y<W0.heap.size:=(Array.getElem?_eq_some_iff.1 hyk).1;have hzl:z<W0.heap.size:=(Array.getElem?_eq_some_iff.1 hzk).1;have HVA:=zh (fvalidate_any N hN vl vm vd _ vp vo F W0 (hf.below hb0) hok);have HC:=zh (fun(w':World) (hb:Below W0.heap.size W0 w')=>And.intro (cells7 ((hb.block z hzl).trans hzk)) (cells3 ((hb.block y hyl).trans hyk)));have HW0:=zh hW0;have HZ:=zh (And.intro hz hy);have HB0:=zh hb0;obtain⟨⟨c0,c1,c2,c3,c4,c5,c6⟩,-⟩:=HC.out W0 (Below.refl _ _);obtain⟨EX,hEX⟩:=zx F.ext;obtain⟨ND,hND⟩:=zx F.dves.length;obtain⟨NPL,hNPL⟩:=zx r.plat.length;obtain⟨NOL,hNOL⟩:=zx r.on.length;rw[←hEX,←hND] at HVA HW0 HC ⊢;rw[←hEX] at c0;rw[←hND] at c4 hmd;rw[←hNPL,←hNOL] at HW0 HC ⊢;rw[←hNPL] at hmp;rw[←hNOL] at hmo;rw[←hND,←hNPL,←hNOL] at hx;by_cases hc:ND<NPL
 ·have t1:decide (ND<NPL)=true:=decide_eq_true hc;clear hf hok h hW0 hz hy hb0 hyk hzk hyl hzl hEX hND hNPL hNOL hx hc;go_enter Tryz.func28,Tryz.ntmps28;go_wp2_with fail;rw[←HW0.out,←HZ.out.2,←HZ.out.1];refine HVA.out.mono ?_;rintro e w1 ⟨rfl,hb1⟩;have HB1:=zh hb1;clear c0 c1 c2 c3 c4 c5 c6 hb1;obtain⟨⟨c0,c1,c2,c3,c4,c5,c6⟩,y0,y1,y2,-⟩:=HC.out w1 HB1.out;go_wp2_with fail;go_ret;exact⟨rfl,HB0.out.trans (HB1.out.mono HB0.out.size)⟩
 ·have t1:decide (ND<NPL)=false:=decide_eq_false hc;have t2:decide (ND<NOL)=true:=decide_eq_true (hx.resolve_left hc);clear hf hok h hW0 hz hy hb0 hyk hzk hyl hzl hEX hND hNPL hNOL hx hc;go_enter Tryz.func28,Tryz.ntmps28;go_wp2_with fail;rw[←HW0.out,←HZ.out.2,←HZ.out.1];refine HVA.out.mono ?_;rintro e w1 ⟨rfl,hb1⟩;have HB1:=zh hb1;clear c0 c1 c2 c3 c4 c5 c6 hb1;obtain⟨⟨c0,c1,c2,c3,c4,c5,c6⟩,y0,y1,y2,-⟩:=HC.out w1 HB1.out;go_wp2_with fail;go_ret;exact⟨rfl,HB0.out.trans (HB1.out.mono HB0.out.size)⟩
theorem OwnKy.apart{w w':World} {B B':Nat} {u v:Value} {ks:List (Nat×Nat)} {L:List IncW} (h:OwnKy w B u ks) (hi:IncsS w B' v L) (hg:w.grownBy w' v.ownBlock):OwnKy w' B u ks:=by
 refine World.ownsRow.kept h hg ?_
 cases hu:u.ownBlock with
 | none=>exact .inl rfl
 | some g =>
  refine .inr fun e=>?_
  exact own_apart h hi.row (by decide) hu e.symm rfl
theorem keyL_mem2{F:FltM} {r:Re} {cond:Int→Int→Int→Bool} {ext NO:Nat} {x:Nat×Nat} (h:x∈keyL F r cond ext NO 0):x.1<NO∧x.2<ext∧keyP F r cond x=true:=by
 unfold keyL at h;obtain⟨h1,h2⟩:=List.mem_filter.1 h;unfold keysTo at h1;rcases List.mem_append.1 h1 with h3 | h3
 ·obtain⟨v,hv,h4⟩:=List.mem_flatMap.1 h3;obtain⟨s,hs,rfl⟩:=List.mem_map.1 h4;exact⟨List.mem_range.1 hv,List.mem_range.1 hs,h2⟩
 ·simp at h3
theorem keysTo_ne(ext v s:Nat) (hs:s≤ext):(keysTo ext v s).Pairwise (fun a b=>a≠b):=(keysTo_rise ext v s hs).imp (fun h e=>by subst e;omega)
theorem sorted_incL{F:FltM} {r:Re} {ext NV:Nat} {l:List Inc} (hp:l.Perm ((keyL F r (condR true) ext NV 0).map (incOf F r true)++(keyL F r (condR false) ext NV 0).map (incOf F r false))) (hs:l.Pairwise (fun a b=>¬incLt b a)):l=incL F r ext NV 0:=by
 refine incL_sorted hp ?_
 have hd:l.Pairwise (fun a b:Inc=>¬(a.vol=b.vol∧a.stripe=b.stripe)):=by
  rw[List.Perm.pairwise_iff (R:=fun a b:Inc=>¬(a.vol=b.vol∧a.stripe=b.stripe)) (fun {x y} h e=>h ⟨e.1.symm,e.2.symm⟩) hp];have hne:=keysTo_ne ext NV 0 (Nat.zero_le _)
  have hone:∀(c:Int→Int→Int→Bool) (lb:Bool),((keyL F r c ext NV 0).map (incOf F r lb)).Pairwise (fun a b:Inc=>¬(a.vol=b.vol∧a.stripe=b.stripe)):=fun c lb=>by
   rw[List.pairwise_map];refine(hne.filter _).imp ?_;intro a b h e;obtain⟨a1,a2⟩:=a;obtain⟨b1,b2⟩:=b;have e1:(a1:Int)=(b1:Int):=e.1;have e2:(a2:Int)=(b2:Int):=e.2;exact h (by rw[show a1=b1 by omega,show a2=b2 by omega])
  rw[List.pairwise_append];refine⟨hone _ _,hone _ _,fun a ha b hb e=>?_⟩;obtain⟨⟨p1,p2⟩,hp1,rfl⟩:=List.mem_map.1 ha;obtain⟨⟨q1,q2⟩,hq1,rfl⟩:=List.mem_map.1 hb;have e1:(p1:Int)=(q1:Int):=e.1;have e2:(p2:Int)=(q2:Int):=e.2
  obtain rfl:p1=q1:=by omega
  obtain rfl:p2=q2:=by omega
  have h1:lostP F r (p1,p2)=true:=(List.mem_filter.1 hp1).2;have h2:awayP F r (p1,p2)=true:=(List.mem_filter.1 hq1).2;rw[lost_away F r _ h1] at h2;cases h2
 refine(hs.and hd).imp ?_;intro a b h;unfold incLt at *;omega
theorem explain_in(N:Nat) (hN:N≤3) (vl vm vd vv vp vo vp0 vo0 va0:Value) (F:FltM) (r:Re) (EX:Nat) (w:World) (hf:FleetS w (Bl w.heap.size) vl vm vd vv vp vo F) (hok:FleetOk N F) (h:ReS w (Bl w.heap.size) vp0 vo0 va0 r) (hp:r.plat.length≤24) (hl:∀l∈r.plat,l.length≤1000) (hac:r.acks.length≤1000000) (hEX:F.ext=(EX:Int))
  (hx1:r.plat.length≤F.dves.length) (hx2:r.on.length≤F.dves.length) :
  Calls Tryz.prog 28 #[.agg #[.int .i64 F.ext,vl,vm,vd,vv,vp,vo],.agg #[vp0,vo0,va0]] w fun e w'=>∃u,e=.returned u∧SlS 5 IncK w' (Fr w.heap.size w'.heap.size) u (incL F r EX F.vols.length 0)∧Below w.heap.size w w':=by
 have HKM:=zh (fun(a:Nat) (ha:a<F.vols.length)=>kmq_ok hok ha);obtain⟨pb,pof,ob,oof,cp,co,rfl,rfl,-,-,-⟩:=polAt hf hok;obtain⟨Ad,cd,rfl,-,hmd⟩:=SlS.form hf.2.2.2.1;obtain⟨Ap,cpl,rfl,-,-⟩:=h.1.form;obtain⟨Ao,col,rfl,-,hmo⟩:=h.2.1.form;obtain⟨Aa,cal,rfl,-,hma⟩:=h.2.2.form;unfold maxLen at hmd hmo;have HLO:=zh (fun(w':World) (hb:Below w.heap.size w w')=>lost_any N (by omega) vl vm vd _ _ _ _ _ _ F r w' (hf.below hb) hok (h.below hb) (by omega) hl hac);have HUN:=zh (fun(w':World) (hb:Below w.heap.size w w')=>unav_any N (by omega) vl vm vd _ _ _ _ _ _ F r w' (hf.below hb) hok (h.below hb) (by omega) hl hac);have HOD:=zh (fun(w':World) (hb:Below w.heap.size w w')=>old_any _ _ _ r w' (h.below hb) (by omega) hl);have HEX0:=zh (fun(lb:Bool) (a b KN KM gm n:Nat) (w':World) (hb:Below w.heap.size w w') (ha:a<F.vols.length) (hbb:b<EX) (hKN:kOf F a=(KN:Int)) (hKM:kOf F a+mOf F a=(KM:Int)) (hM:MapG w' 210 k3 gm n (fun k=>(oldD r k.v k.f k.s).map dV))=>explain_any N (by omega) vl vm vd _ _ _ _ _ _ F r a b EX KN KM gm n lb w' (hf.below hb) hok (h.below hb) hp hl hac ha hEX hbb hKN hKM hM)
 have hex:EX≤2:=by have:=hok.ext;omega
 have hno:=hok.volN;have HEXN:=zh (show F.ext.toNat=EX by omega);obtain⟨KL1,hKL1⟩:=zx (keyL F r (condR true) F.ext.toNat F.vols.length 0);obtain⟨KL2,hKL2⟩:=zx (keyL F r (condR false) F.ext.toNat F.vols.length 0)
 have hkl:KL1.length≤6∧KL2.length≤6:=by
  have h1:=keyL_len F r (condR true) F.ext.toNat F.vols.length 0;have h2:=keyL_len F r (condR false) F.ext.toNat F.vols.length 0;have h3:F.vols.length * F.ext.toNat≤3 * 2:=Nat.mul_le_mul (by omega) (by omega);rw[hKL1,hKL2];omega
 have HKL6:=zh hkl;have HKL:=zh (And.intro hKL1 hKL2);rw[←hKL1] at HLO;rw[←hKL2] at HUN;rw[hEX] at HLO HUN HEX0 ⊢;obtain⟨W0,hW0⟩:=zx ((w.alloc (.cells #[.int .i64 (EX:Int),vl,vm,vd,.slice Ad F.dves.length cd,.slice (some ⟨pb,pof,none⟩) F.pols.length cp,.slice (some ⟨ob,oof,none⟩) F.vols.length co] 35)).alloc (.cells #[.slice Ap r.plat.length cpl,.slice Ao r.on.length col,.slice Aa r.acks.length cal] 40));obtain⟨z,hz⟩:=zx w.heap.size;obtain⟨y,hy⟩:=zx (w.heap.size+1)
 have hb0:Below w.heap.size w W0:=by rw[hW0];exact((Below.refl _ _).alloc (Nat.le_refl _) _).alloc (by simp) _
 have HVA:=zh (show Calls Tryz.prog 48 #[.agg #[.int .i64 (EX:Int),vl,vm,vd,.slice Ad F.dves.length cd,.slice (some ⟨pb,pof,none⟩) F.pols.length cp,.slice (some ⟨ob,oof,none⟩) F.vols.length co]] W0 fun e w'=>e=.returned (.int .i64 0)∧Below W0.heap.size W0 w' from by rw[←hEX];exact fvalidate_any N (by omega) vl vm vd _ _ _ F W0 (hf.below hb0) hok);obtain⟨ND,hND⟩:=zx F.dves.length;obtain⟨NO,hNO⟩:=zx F.vols.length;obtain⟨NP,hNP⟩:=zx F.pols.length;obtain⟨NPL,hNPL⟩:=zx r.plat.length;obtain⟨NOL,hNOL⟩:=zx r.on.length;obtain⟨NAL,hNAL⟩:=zx r.acks.length;have HNO:=zh hNO;rw[←hND] at HLO HUN HEX0 HVA hW0 hx1 hx2 hmd;rw[←hNO] at HLO HUN HEX0 HVA hW0 hno ⊢;rw[←hNP] at HLO HUN HEX0 HVA hW0;rw[←hNPL] at HLO HUN HEX0 HOD hW0 hx1 hp;rw[←hNOL] at HLO HUN HEX0 HOD hW0 hx2 hmo;rw[←hNAL] at HLO HUN HEX0 HOD hW0;rw[←hND,←hNP,←hNPL,←hNOL,←hNAL]
 have hyk:W0.heap[y]?=some (.cells #[.slice Ap NPL cpl,.slice Ao NOL col,.slice Aa NAL cal] 40 (0,0)):=by
  rw[hW0];exact heap_alloc_at _ _ _ (by rw[hy];simp)
 have hzk:W0.heap[z]?=some (.cells #[.int .i64 (EX:Int),vl,vm,vd,.slice Ad ND cd,.slice (some ⟨pb,pof,none⟩) NP cp,.slice (some ⟨ob,oof,none⟩) NO co] 35 (0,0)):=by
  rw[hW0,hz];exact(Below.heap_alloc _ _ _ (by simp)).trans (heap_alloc_new w _)
 have hyl:y<W0.heap.size:=(Array.getElem?_eq_some_iff.1 hyk).1;have hzl:z<W0.heap.size:=(Array.getElem?_eq_some_iff.1 hzk).1
 have HS3:=zh (fun(w':World) (hb:Below W0.heap.size W0 w')=>(show w'.cell? ⟨z,0,none⟩=some (.int .i64 (EX:Int))∧w'.cell? ⟨z,1,none⟩=some vl∧w'.cell? ⟨z,2,none⟩=some vm∧w'.cell? ⟨z,3,none⟩=some vd∧w'.cell? ⟨z,4,none⟩=some (.slice Ad ND cd)∧w'.cell? ⟨z,5,none⟩=some (.slice (some ⟨pb,pof,none⟩) NP cp)∧w'.cell? ⟨z,6,none⟩=some (.slice (some ⟨ob,oof,none⟩) NO co)∧w'.cell? ⟨y,0,none⟩=some (.slice Ap NPL cpl)∧w'.cell? ⟨y,1,none⟩=some (.slice Ao NOL col)∧w'.cell? ⟨y,2,none⟩=some (.slice Aa NAL cal) from by
  obtain⟨c0,c1,c2,c3,c4,c5,c6⟩:=cells7 ((hb.block z hzl).trans hzk);obtain⟨y0,y1,y2,-⟩:=cells3 ((hb.block y hyl).trans hyk)
  exact⟨c0,c1,c2,c3,c4,c5,c6,y0,y1,y2⟩))
 have HRE:=zh (fun(w':World) (hb:Below W0.heap.size W0 w')=>hb0.trans (hb.mono hb0.size));have HW0:=zh hW0;have HZ:=zh (And.intro hz hy);have HB0:=zh hb0;have HSM:=zh (show EX≤2∧NO≤3 from⟨hex,by omega⟩);have t1:decide (ND<NPL)=false:=decide_eq_false (by omega);have t2:decide (ND<NOL)=false:=decide_eq_false (by omega);obtain⟨c0,c1,c2,c3,c4,c5,c6,y0,y1,y2⟩:=HS3.out W0 (Below.refl _ _);clear hf hok h hW0 hz hy hb0 hyk hzk hyl hzl hND hNO hNP hNPL hNOL hNAL hEX hKL1 hKL2 hl hN hx1 hx2 hp hac hkl hma;go_enter Tryz.func28,Tryz.ntmps28;go_wp2_with fail;rw[←HW0.out,←HZ.out.2,←HZ.out.1];refine HVA.out.mono ?_;rintro e w2 ⟨rfl,hb2⟩;have HB2:=zh hb2;clear c0 c1 c2 c3 c4 c5 c6 y0 y1 y2 hb2;obtain⟨c0,c1,c2,c3,c4,c5,c6,y0,y1,y2⟩:=HS3.out w2 HB2.out;go_wp2_with fail;refine(HOD.out _ (HRE.out _ HB2.out)).mono ?_;rintro e w2b ⟨gm,nm,rfl,-,hMG,hb2b⟩;have HB2b:=zh (HB2.out.trans (hb2b.mono HB2.out.size));have HMG:=zh hMG;clear c0 c1 c2 c3 c4 c5 c6 y0 y1 y2 hMG hb2b t1 t2;obtain⟨c0,c1,c2,c3,c4,c5,c6,y0,y1,y2⟩:=HS3.out w2b HB2b.out;go_wp2_with fail;refine(HLO.out _ (HRE.out _ HB2b.out)).mono ?_;rintro e w3 ⟨u1,rfl,ho1,hb3⟩;obtain⟨A1,cu1,hu1⟩:=ho1.form;obtain⟨N1,hN1⟩:=zx KL1.length;rw[←hN1] at hu1;subst hu1;have HNtrue:=zh hN1;have HPtrue:=zh (show([]:List Inc).length=0 from rfl);have HB3:=zh (HB2b.out.trans (hb3.mono HB2b.out.size));have HMG3:=zh (HMG.out.below hb3 HMG.out.lt);have HO1:=zh (ho1.base (Nat.le_trans HB0.out.size HB2b.out.size))
 have hn16:(N1:Int)≤6:=by have:=HKL6.out.1;omega
 have HEXP:=zh (fun(lb:Bool) (a b KN KM:Nat) (w':World) (hb:Below w3.heap.size w3 w') (ha:a<F.vols.length) (hbb:b<EX) (hKN:kOf F a=(KN:Int)) (hKM:kOf F a+mOf F a=(KM:Int))=>HEX0.out lb a b KN KM gm nm w' (HRE.out w' (HB3.out.trans (hb.mono HB3.out.size))) (by rw[HNO.out];exact ha) hbb hKN hKM (HMG3.out.below hb HMG3.out.lt));clear c0 c1 c2 c3 c4 c5 c6 y0 y1 y2 ho1 hb3 hN1;go_wp2_with fail;go_loopg [6,38] N1 (fun z7 vs v38 wr=>∃(j:Nat) (L:List IncW) (v6:Value),v6=vs∧v38=.int .i64 (j:Int)∧j≤N1∧z7=N1 - j∧Hid (IncsS wr w3.heap.size v6 L)∧Hid (L.map (·.x)=([]:List Inc)++(KL1.take j).map (incOf F r true))∧Hid (Below w3.heap.size w3 wr)∧Hid (OwnKy wr w.heap.size (.slice A1 N1 cu1) KL1))
 case atStart=>exact⟨0,[],_,rfl,rfl,Nat.zero_le _,rfl,zh (IncsS.nil _ _),zh rfl,zh (Below.refl _ _),HO1⟩
 case round =>
  clear HO1;obtain⟨j,L,v6,rfl,rfl,hj,rfl,HIN,HLL,HBR,HOK⟩:=hrel;by_cases hlt:j<N1
  ·have HLT:=zh hlt
   have hjl:j<KL1.length:=by rw[←HNtrue.out];exact hlt
   obtain⟨b,off,cs,hA,-,-,hc,hcs⟩:=HOK.out.slS.at_ (k:=j) hjl;obtain⟨e0,e1⟩:=two_ky hc hcs;subst hA;obtain⟨hm1,hm2,-⟩:=keyL_mem2 (show KL1[j]∈keyL F r (condR true) F.ext.toNat F.vols.length 0 from by rw[←HKL.out.1];exact List.getElem_mem hjl);have HTK:=zh (show KL1.take (j+1)=KL1.take j++[KL1[j]] from List.take_succ_eq_append_getElem hjl);obtain⟨x,hx⟩:=zx (KL1[j]);rw[←hx] at e0 e1 hm1 hm2 HTK;obtain⟨x1,x2⟩:=x;simp only at e0 e1 hm1 hm2;obtain⟨hk12,hm0',hm2',-,-⟩:=HKM.out x1 hm1;obtain⟨KN,hKN⟩:∃k:Nat,kOf F x1=(k:Int):=⟨(kOf F x1).toNat,by omega⟩;obtain⟨KM,hKM⟩:∃k:Nat,kOf F x1+mOf F x1=(k:Int):=⟨(kOf F x1+mOf F x1).toNat,by omega⟩;have HIO:=zh (incOf_eq F r true x1 x2 KN KM hKN hKM);obtain⟨W5,hW5⟩:=zx (wr.alloc (.cells #[.int .i64 (x1:Int),.int .i64 (x2:Int)] 67));obtain⟨gk2,hgk⟩:=zx wr.heap.size
   have hb5:Below wr.heap.size wr W5:=by rw[hW5];exact(Below.refl _ _).alloc (Nat.le_refl _) _
   have hqk:W5.heap[gk2]?=some (.cells #[.int .i64 (x1:Int),.int .i64 (x2:Int)] 67 (0,0)):=by rw[hW5,hgk];exact heap_alloc_new wr _
   have HB5:=zh (HBR.out.trans (hb5.mono HBR.out.size));have HCL:=zh (HEXP.out true x1 x2 KN KM W5 HB5.out hm1 (by have:=HEXN.out;omega) hKN hKM);have HIN5:=zh (HIN.out.below hb5);have HOK5:=zh (HOK.out.below hb5)
   have q0:W5.cell? ⟨gk2,0,none⟩=some (.int .i64 (x1:Int)):=by rw[cell_of_row _ _ _ _ _ _ hqk];rfl
   have q1:W5.cell? ⟨gk2,1,none⟩=some (.int .i64 (x2:Int)):=by rw[cell_of_row _ _ _ _ _ _ hqk];rfl
   obtain⟨c0,c1,c2,c3,c4,c5,c6,y0,y1,y2⟩:=HS3.out W5 (HB3.out.trans (HB5.out.mono HB3.out.size));have HW5:=zh hW5;have HGK2:=zh hgk;have HLTR:=zh (show ∀bb,v6.ownBlock=some bb→bb<W5.heap.size from fun bb e=>Nat.lt_of_lt_of_le (HIN.out.row.lt bb e).2 hb5.size)
   have HLEN:=zh (show L.length+1≤16777216 by
    have h1:=congrArg List.length HLL.out;rw[List.length_map,List.length_append,List.length_map,List.length_take] at h1;have h2:=HPtrue.out;have h3:=HNtrue.out;have h4:=HLT.out
    omega)
   clear hc hcs hjl hx hm1 hm2 hk12 hm0' hm2' hKN hKM hW5 hgk hb5 hqk hlt;go_upto_region 8 with fail;clear e0 e1;rw[←HW5.out,←HGK2.out];go_wp2_with (first | (go_at_call 78;refine HCL.out.mono ?_;rintro e w6 ⟨cv,rfl,hsl6,hb6⟩;have HIN6:=zh (HIN5.out.below hb6);have HOK6:=zh (HOK5.out.below hb6);have HB6:=zh (HB5.out.trans (hb6.mono HB5.out.size));have HNEW:=zh (show SlS 2 CauK w6 (IncR w6 w3.heap.size v6) cv (causL r (x1:Int) (x2:Int) KM) from SlS.mono cauK hsl6 (fun bb hx=>⟨Nat.le_trans HB5.out.size hx.1,hx.2,fun e=>(by have h1:=HLTR.out bb e;have:=hx.1;omega)⟩));clear hsl6 hb6) | (at_builtin;refine app_inc ⟨(x1:Int),(x2:Int),true,(KN:Int),causL r (x1:Int) (x2:Int) KM⟩ cv (.tmp 42) (.tmp 48) rfl rfl w3.heap.size v6 L (by rfl) HIN6.out HNEW.out (by rfl) HLEN.out HB6.out.size ?_;intro v8 w8 hi8 hg8;have HI8:=zh hi8;have HG8:=zh hg8;clear hi8 hg8));go_roundg (N1 - (j+1))
   case measure=>have:=HLT.out;omega
   case rel =>
    refine⟨j+1,_,_,rfl,by go_num,by have:=HLT.out;omega,rfl,HI8,zh ?_,zh (HB6.out.grown HG8.out HB6.out.size (fun bb hx=>(HIN6.out.row.lt bb hx).1)),zh (HOK6.out.apart HIN6.out HG8.out)⟩;rw[HTK.out,List.map_append,List.map_append,HLL.out,List.append_assoc];show _++(_++[_])=_++(_++[_]);rw[HIO.out]
  ·have HP0:=zh (show L.map (·.x)=KL1.map (incOf F r true) from by
    rw[HLL.out,List.nil_append,List.take_of_length_le (by have:=HNtrue.out;omega)])
   obtain⟨P0,hP0⟩:∃P:List Inc,P=KL1.map (incOf F r true):=⟨_,rfl⟩;have HPfalse:=zh (show P0.length≤6 by rw[hP0,List.length_map];exact HKL6.out.1);have HPE:=zh hP0;rw[←hP0] at HP0;obtain⟨c0,c1,c2,c3,c4,c5,c6,y0,y1,y2⟩:=HS3.out wr (HB3.out.trans (HBR.out.mono HB3.out.size));clear hP0;go_wp2_with fail;refine(HUN.out _ (HRE.out _ (HB3.out.trans (HBR.out.mono HB3.out.size)))).mono ?_;rintro e w4 ⟨u2,rfl,ho2,hb4⟩;obtain⟨A2,cu2,hu2⟩:=ho2.form;obtain⟨N2,hN2⟩:=zx KL2.length;rw[←hN2] at hu2;subst hu2;have HNfalse:=zh hN2;have HIN4:=zh (HIN.out.below hb4);have HBR4:=zh (HBR.out.trans (hb4.mono HBR.out.size));have HO2:=zh (ho2.base (Nat.le_trans (Nat.le_trans HB0.out.size HB3.out.size) HBR.out.size))
   have hn26:(N2:Int)≤6:=by have:=HKL6.out.2;omega
   have HL4:=zh (show L.map (·.x)=P0++(KL2.take 0).map (incOf F r false) by rw[HP0.out];simp);clear c0 c1 c2 c3 c4 c5 c6 y0 y1 y2 ho2 hb4 hN2 HLL HIN HBR HOK;go_wp2_with fail;go_loopg [6,55] N2 (fun z7 vs v38 wr=>∃(j:Nat) (L:List IncW) (v6:Value),v6=vs∧v38=.int .i64 (j:Int)∧j≤N2∧z7=N2 - j∧Hid (IncsS wr w3.heap.size v6 L)∧Hid (L.map (·.x)=P0++(KL2.take j).map (incOf F r false))∧Hid (Below w3.heap.size w3 wr)∧Hid (OwnKy wr w.heap.size (.slice A2 N2 cu2) KL2))
   case atStart=>exact⟨0,L,_,rfl,rfl,Nat.zero_le _,rfl,HIN4,HL4,HBR4,HO2⟩
   case round =>
    clear HIN4 HL4 HBR4 HO2 HP0;obtain⟨j,L,v6,rfl,rfl,hj,rfl,HIN,HLL,HBR,HOK⟩:=hrel;by_cases hlt:j<N2
    ·have HLT:=zh hlt
     have hjl:j<KL2.length:=by rw[←HNfalse.out];exact hlt
     obtain⟨b,off,cs,hA,-,-,hc,hcs⟩:=HOK.out.slS.at_ (k:=j) hjl;obtain⟨e0,e1⟩:=two_ky hc hcs;subst hA;obtain⟨hm1,hm2,-⟩:=keyL_mem2 (show KL2[j]∈keyL F r (condR false) F.ext.toNat F.vols.length 0 from by rw[←HKL.out.2];exact List.getElem_mem hjl);have HTK:=zh (show KL2.take (j+1)=KL2.take j++[KL2[j]] from List.take_succ_eq_append_getElem hjl);obtain⟨x,hx⟩:=zx (KL2[j]);rw[←hx] at e0 e1 hm1 hm2 HTK;obtain⟨x1,x2⟩:=x;simp only at e0 e1 hm1 hm2;obtain⟨hk12,hm0',hm2',-,-⟩:=HKM.out x1 hm1;obtain⟨KN,hKN⟩:∃k:Nat,kOf F x1=(k:Int):=⟨(kOf F x1).toNat,by omega⟩;obtain⟨KM,hKM⟩:∃k:Nat,kOf F x1+mOf F x1=(k:Int):=⟨(kOf F x1+mOf F x1).toNat,by omega⟩;have HIO:=zh (incOf_eq F r false x1 x2 KN KM hKN hKM);obtain⟨W5,hW5⟩:=zx (wr.alloc (.cells #[.int .i64 (x1:Int),.int .i64 (x2:Int)] 67));obtain⟨gk2,hgk⟩:=zx wr.heap.size
     have hb5:Below wr.heap.size wr W5:=by rw[hW5];exact(Below.refl _ _).alloc (Nat.le_refl _) _
     have hqk:W5.heap[gk2]?=some (.cells #[.int .i64 (x1:Int),.int .i64 (x2:Int)] 67 (0,0)):=by rw[hW5,hgk];exact heap_alloc_new wr _
     have HB5:=zh (HBR.out.trans (hb5.mono HBR.out.size));have HCL:=zh (HEXP.out false x1 x2 KN KM W5 HB5.out hm1 (by have:=HEXN.out;omega) hKN hKM);have HIN5:=zh (HIN.out.below hb5);have HOK5:=zh (HOK.out.below hb5)
     have q0:W5.cell? ⟨gk2,0,none⟩=some (.int .i64 (x1:Int)):=by rw[cell_of_row _ _ _ _ _ _ hqk];rfl
     have q1:W5.cell? ⟨gk2,1,none⟩=some (.int .i64 (x2:Int)):=by rw[cell_of_row _ _ _ _ _ _ hqk];rfl
     obtain⟨c0,c1,c2,c3,c4,c5,c6,y0,y1,y2⟩:=HS3.out W5 (HB3.out.trans (HB5.out.mono HB3.out.size));have HW5:=zh hW5;have HGK2:=zh hgk;have HLTR:=zh (show ∀bb,v6.ownBlock=some bb→bb<W5.heap.size from fun bb e=>Nat.lt_of_lt_of_le (HIN.out.row.lt bb e).2 hb5.size)
     have HLEN:=zh (show L.length+1≤16777216 by
      have h1:=congrArg List.length HLL.out;rw[List.length_map,List.length_append,List.length_map,List.length_take] at h1;have h2:=HPfalse.out;have h3:=HNfalse.out;have h4:=HLT.out
      omega)
     clear hc hcs hjl hx hm1 hm2 hk12 hm0' hm2' hKN hKM hW5 hgk hb5 hqk hlt;go_upto_region 13 with fail;clear e0 e1;rw[←HW5.out,←HGK2.out];go_wp2_with (first | (go_at_call 78;refine HCL.out.mono ?_;rintro e w6 ⟨cv,rfl,hsl6,hb6⟩;have HIN6:=zh (HIN5.out.below hb6);have HOK6:=zh (HOK5.out.below hb6);have HB6:=zh (HB5.out.trans (hb6.mono HB5.out.size));have HNEW:=zh (show SlS 2 CauK w6 (IncR w6 w3.heap.size v6) cv (causL r (x1:Int) (x2:Int) KM) from SlS.mono cauK hsl6 (fun bb hx=>⟨Nat.le_trans HB5.out.size hx.1,hx.2,fun e=>(by have h1:=HLTR.out bb e;have:=hx.1;omega)⟩));clear hsl6 hb6) | (at_builtin;refine app_inc ⟨(x1:Int),(x2:Int),false,(KN:Int),causL r (x1:Int) (x2:Int) KM⟩ cv (.tmp 59) (.tmp 65) rfl rfl w3.heap.size v6 L (by rfl) HIN6.out HNEW.out (by rfl) HLEN.out HB6.out.size ?_;intro v8 w8 hi8 hg8;have HI8:=zh hi8;have HG8:=zh hg8;clear hi8 hg8));go_roundg (N2 - (j+1))
     case measure=>have:=HLT.out;omega
     case rel =>
      refine⟨j+1,_,_,rfl,by go_num,by have:=HLT.out;omega,rfl,HI8,zh ?_,zh (HB6.out.grown HG8.out HB6.out.size (fun bb hx=>(HIN6.out.row.lt bb hx).1)),zh (HOK6.out.apart HIN6.out HG8.out)⟩;rw[HTK.out,List.map_append,List.map_append,HLL.out,List.append_assoc];show _++(_++[_])=_++(_++[_]);rw[HIO.out]
    ·have HPM:=zh (show(L.map (·.x)).Perm ((keyL F r (condR true) F.ext.toNat F.vols.length 0).map (incOf F r true)++(keyL F r (condR false) F.ext.toNat F.vols.length 0).map (incOf F r false)) from by
      have h2:KL2.take j=KL2:=List.take_of_length_le (by have:=HNfalse.out;omega)
      have e:L.map (·.x)=(keyL F r (condR true) F.ext.toNat F.vols.length 0).map (incOf F r true)++(keyL F r (condR false) F.ext.toNat F.vols.length 0).map (incOf F r false):=by rw[HLL.out,h2,HPE.out,←HKL.out.1,←HKL.out.2]
      exact e▸List.Perm.refl _)
     have HL12:=zh (show L.length≤12 by
      have h1:=congrArg List.length HLL.out;rw[List.length_map,List.length_append,List.length_map,List.length_take] at h1;have:=HKL6.out;have:=HPfalse.out
      omega)
     have HBD:=zh (show ∀s∈L,(0≤s.x.vol∧s.x.vol<4096)∧(0≤s.x.stripe∧s.x.stripe<4096) from fun s hs=>by
      have h1:s.x∈L.map (·.x):=List.mem_map.2 ⟨s,hs,rfl⟩;rw[HPM.out.mem_iff,List.mem_append,List.mem_map,List.mem_map] at h1;have h3:=HSM.out;have h4:=HNO.out;have h5:=HEXN.out;rcases h1 with ⟨q,hq,e⟩ | ⟨q,hq,e⟩
      ·obtain⟨g1,g2,-⟩:=keyL_mem2 hq;rw[←e];show(0≤(q.1:Int)∧(q.1:Int)<4096)∧(0≤(q.2:Int)∧(q.2:Int)<4096);omega
      ·obtain⟨g1,g2,-⟩:=keyL_mem2 hq;rw[←e];show(0≤(q.1:Int)∧(q.1:Int)<4096)∧(0≤(q.2:Int)∧(q.2:Int)<4096)
       omega)
     have HSO:=zh (sortinc_any v6 w3.heap.size L wr HIN.out HL12.out HBD.out);go_wp2_with (go_at_call 79;refine HSO.out.mono ?_;rintro e w9 ⟨rfl,L',hperm,hsort,hsl,hb9⟩;have HF:=zh (And.intro hperm (And.intro hsort (And.intro hsl hb9)));clear hperm hsort hsl hb9);go_ret;obtain⟨hperm,hsort,hsl,hb9⟩:=HF.out;have hb39:=HBR.out.trans hb9;have hL':=sorted_incL (hperm.trans HPM.out) hsort;rw[HEXN.out,←HNO.out] at hL';refine⟨_,rfl,?_,HB0.out.trans ((HB3.out.trans (hb39.mono HB3.out.size)).mono HB0.out.size)⟩;rw[←hL'];exact SlS.mono incK hsl (fun b hb=>⟨Nat.le_trans (Nat.le_trans HB0.out.size HB3.out.size) hb.1,hb.2⟩)
end Go.Proofs.YtcfkllnpkmebpaaGreatDoor

namespace Go.Proofs.YtcfkllnpkmebpaaGreatDoor
open Go.RowKit
set_option linter.unusedVariables false
set_option linter.unusedSimpArgs false
theorem explain_all(N:Nat) (hN:N≤3) (vl vm vd vv vp vo vp0 vo0 va0:Value) (F:FltM) (r:Re) (w:World) (hf:FleetS w (Bl w.heap.size) vl vm vd vv vp vo F) (hok:FleetOk N F) (h:ReS w (Bl w.heap.size) vp0 vo0 va0 r) (hp:r.plat.length≤24) (hl:∀l∈r.plat,l.length≤1000) (hac:r.acks.length≤1000000) :
  Calls Tryz.prog 28 #[.agg #[.int .i64 F.ext,vl,vm,vd,vv,vp,vo],.agg #[vp0,vo0,va0]] w fun e w'=>∃u,e=.returned u∧SlS 5 IncK w' (Fr w.heap.size w'.heap.size) u (expl F r)∧Below w.heap.size w w':=by
 unfold expl;by_cases hx:r.plat.length≤F.dves.length∧r.on.length≤F.dves.length
 ·rw[if_pos hx];exact explain_in N hN vl vm vd vv vp vo vp0 vo0 va0 F r F.ext.toNat w hf hok h hp hl hac (by have:=hok.ext;omega) hx.1 hx.2
 ·rw[if_neg hx]
  exact(explain_out N (by omega) vl vm vd vv vp vo vp0 vo0 va0 F r w hf hok h (by omega)).mono fun e w' ⟨he,hb⟩=>⟨_,he,Row.nil _ _ _,hb⟩
end Go.Proofs.YtcfkllnpkmebpaaGreatDoor

namespace Go.Proofs.YtcfkllnpkmebpaaGreatDoor
open Go.RowKit
set_option linter.unusedVariables false
set_option linter.unusedSimpArgs false
theorem ret_b{a b:Bool} (h:a=b):Ending.returned (.bool a)=Ending.returned (.bool b):=by rw[h]
def TlyB(w:World) (g:Nat) (a b l:Int):Prop:=w.heap[g]?=some (.cells #[.int .i64 a,.int .i64 b,.int .i64 l,.bool true] 118 (0,0))
theorem TlyB.cells{w:World} {g:Nat} {a b l:Int} (h:TlyB w g a b l):w.cell? ⟨g,0,none⟩=some (.int .i64 a)∧w.cell? ⟨g,1,none⟩=some (.int .i64 b)∧w.cell? ⟨g,2,none⟩=some (.int .i64 l)∧w.cell? ⟨g,3,none⟩=some (.bool true)∧w.frozen? ⟨g,0,none⟩=false∧w.frozen? ⟨g,1,none⟩=false∧w.frozen? ⟨g,2,none⟩=false :=
 ⟨by rw[cell_of_row _ _ _ _ _ _ h];rfl,by rw[cell_of_row _ _ _ _ _ _ h];rfl,by rw[cell_of_row _ _ _ _ _ _ h];rfl,by rw[cell_of_row _ _ _ _ _ _ h];rfl,frozen_of_row _ _ _ _ _ h,frozen_of_row _ _ _ _ _ h,frozen_of_row _ _ _ _ _ h⟩
theorem TlyB.lt{w:World} {g:Nat} {a b l:Int} (h:TlyB w g a b l):g<w.heap.size:=(Array.getElem?_eq_some_iff.1 h).1
theorem TlyB.below{w w':World} {g:Nat} {a b l:Int} (h:TlyB w g a b l) (hb:Below w.heap.size w w'):TlyB w' g a b l:=(hb.block g h.lt).trans h
def addG(s:Int):Int:=if s=1 then 1 else 0
def addA(s:Int):Int:=if s=2 then 1 else 0
theorem add_any(g:Nat) (a b l s:Int) (w:World) (h:TlyB w g a b l) (ha:0≤a∧a≤100000) (hb:0≤b∧b≤100000) (hl : -100000≤l∧l≤100000) :
  Calls Tryz.prog 53 #[.pointer (some ⟨g,0,none⟩),.int .i64 s] w fun e w'=>e=.returned (.tuple #[])∧TlyB w' g (a+addG s) (b+addA s) (l - 1)∧HotBy [some g] w w':=by
 obtain⟨c0,c1,c2,c3,f0,f1,f2⟩:=h.cells;obtain⟨ha0,ha1⟩:=ha;obtain⟨hb0,hb1⟩:=hb;obtain⟨hl0,hl1⟩:=hl;have H1:=zh (show(w.setCell ⟨g,2,none⟩ (.int .i64 (l - 1))).heap[g]?=some (.cells #[.int .i64 a,.int .i64 b,.int .i64 (l - 1),.bool true] 118 (0,0)) from heap_setCell_same w g 2 _ _ _ h);have HH:=zh (fun(w:World) (i:Nat) (v:Value)=>HotBy.setCell [some g] w ⟨g,i,none⟩ v (by simp));have H2:=zh (show TlyB ((w.setCell ⟨g,2,none⟩ (.int .i64 (l - 1))).setCell ⟨g,0,none⟩ (.int .i64 (a+1))) g (a+1) b (l - 1) from heap_setCell_same _ g 0 _ _ _ H1.out);have H3:=zh (show TlyB ((w.setCell ⟨g,2,none⟩ (.int .i64 (l - 1))).setCell ⟨g,1,none⟩ (.int .i64 (b+1))) g a (b+1) (l - 1) from heap_setCell_same _ g 1 _ _ _ H1.out);by_cases h1:s=1
 ·have e1:(s==1)=true:=by simpa using h1
  have HE:=zh (show addG s=1∧addA s=0 by subst h1;exact⟨rfl,rfl⟩);clear h h1;go_enter Tryz.func53,Tryz.ntmps53;go_wp2_with fail
  go_end0
  rw[HE.out.1,HE.out.2,Int.add_zero];exact⟨rfl,H2.out,(HH.out _ _ _).trans (HH.out _ _ _)⟩
 ·by_cases h2:s=2
  ·have e1:(s==1)=false:=by simpa using h1
   have e2:(s==2)=true:=by simpa using h2
   have HE:=zh (show addG s=0∧addA s=1 by subst h2;exact⟨rfl,rfl⟩);clear h h1 h2;go_enter Tryz.func53,Tryz.ntmps53;go_wp2_with fail
   go_end0
   rw[HE.out.1,HE.out.2,Int.add_zero];exact⟨rfl,H3.out,(HH.out _ _ _).trans (HH.out _ _ _)⟩
  ·have e1:(s==1)=false:=by simpa using h1
   have e2:(s==2)=false:=by simpa using h2
   have HE:=zh (show addG s=0∧addA s=0 by unfold addG addA;rw[if_neg h1,if_neg h2];exact⟨rfl,rfl⟩);clear h h1 h2;go_enter Tryz.func53,Tryz.ntmps53;go_wp2_with fail
   go_end0
   rw[HE.out.1,HE.out.2,Int.add_zero,Int.add_zero];exact⟨rfl,H1.out,HH.out _ _ _⟩
def possB(a b l need:Int) (lost:Bool):Bool :=
 if l<0∨need≤a then false else if lost=true then decide (a+b<need) else decide (need≤a+b)||decide (need≤a+b+l)
theorem possible_any(g:Nat) (a b l need:Int) (lost:Bool) (w:World) (h:TlyB w g a b l) (ha:0≤a∧a≤100000) (hb:0≤b∧b≤100000) (hl : -100000≤l∧l≤100000) :
  Calls Tryz.prog 54 #[.pointer (some ⟨g,0,none⟩),.bool lost,.int .i64 need] w fun e w'=>e=.returned (.bool (possB a b l need lost))∧∃n,w'=w.drewN n:=by
 obtain⟨c0,c1,c2,c3,f0,f1,f2⟩:=h.cells;obtain⟨ha0,ha1⟩:=ha;obtain⟨hb0,hb1⟩:=hb;obtain⟨hl0,hl1⟩:=hl;have s1:IntKind.i64.wrap (a+b)=a+b:=IntWalk.i64_in _ (by omega);have s2:IntKind.i64.wrap (a+b+l)=a+b+l:=IntWalk.i64_in _ (by omega);obtain⟨R,hR⟩:=zx (possB a b l need lost);rw[←hR];by_cases h1:l<0
 ·have e1:decide (l<0)=true:=decide_eq_true h1;have HE:=zh (show R=false by rw[hR];unfold possB;rw[if_pos (.inl h1)]);clear h hR h1;go_enter Tryz.func54,Tryz.ntmps54;go_wp2_with fail;go_ret;exact⟨ret_b HE.out.symm,0,rfl⟩
 have e1:decide (l<0)=false:=decide_eq_false h1;by_cases h2:need≤a
 ·have e2:decide (need≤a)=true:=decide_eq_true h2;have HE:=zh (show R=false by rw[hR];unfold possB;rw[if_pos (.inr h2)]);clear h hR h1 h2;go_enter Tryz.func54,Tryz.ntmps54;go_wp2_with fail;go_ret;exact⟨ret_b HE.out.symm,0,rfl⟩
 have e2:decide (need≤a)=false:=decide_eq_false h2
 cases lost with
 | true =>
  obtain⟨c,hc⟩:=zx (decide (a+b<need));have e3:decide (a+b<need)=c:=hc.symm;have HE:=zh (show R=c by rw[hR,hc];unfold possB;rw[if_neg (by omega),if_pos rfl]);clear h hR h1 h2 hc;go_enter Tryz.func54,Tryz.ntmps54;go_upto_region 4 with fail
  go_quiet (fail)
  go_wp2_with fail;go_ret;exact⟨ret_b HE.out.symm,_,rfl⟩
 | false =>
  by_cases h3:need≤a+b
  ·have e3:decide (need≤a+b)=true:=decide_eq_true h3;have HE:=zh (show R=true by rw[hR];unfold possB;rw[if_neg (by omega),if_neg (by decide),e3];rfl);clear h hR h1 h2 h3;go_enter Tryz.func54,Tryz.ntmps54;go_upto_region 5 with fail
   go_quiet (fail)
   go_wp2_with fail;go_ret;exact⟨ret_b HE.out.symm,_,rfl⟩
  ·have e3:decide (need≤a+b)=false:=decide_eq_false h3;obtain⟨c,hc⟩:=zx (decide (need≤a+b+l));have e4:decide (need≤a+b+l)=c:=hc.symm;have HE:=zh (show R=c by rw[hR,hc];unfold possB;rw[if_neg (by omega),if_neg (by decide),e3];rfl);clear h hR h1 h2 h3 hc;go_enter Tryz.func54,Tryz.ntmps54;go_upto_region 5 with fail
   go_quiet (fail)
   go_wp2_with fail;go_ret;exact⟨ret_b HE.out.symm,_,rfl⟩
def cauOk(ND:Nat) (c:Cau):Bool:=if c.state=1∨c.state=2∨c.state=3 then decide (0≤c.drive)&&decide (c.drive<(ND:Int)) else decide (c.state=4)&&decide (c.drive = -1)
theorem icause_any(f0 f1 f2 f3 f5 f6:Value) (Ad:Option Addr) (ND cd:Nat) (c:Cau) (w:World) (hnd:ND≤1000000) :
  Calls Tryz.prog 52 #[.agg #[f0,f1,f2,f3,.slice Ad ND cd,f5,f6],cauV c] w fun e w'=>e=.returned (.bool (cauOk ND c))∧Below w.heap.size w w':=by
 obtain⟨s,d⟩:=c;unfold cauV;simp only;obtain⟨R,hR⟩:=zx (cauOk ND ⟨s,d⟩);rw[←hR];have HND:=zh hnd;have HBW:=zh (fun(o1 o2:Obj)=>((Below.refl w.heap.size w).alloc (Nat.le_refl _) o1).alloc (show w.heap.size≤(w.alloc o1).heap.size by simp) o2);by_cases h1:s=1∨s=2∨s=3
 ·have h4:R=(decide (0≤d)&&decide (d<(ND:Int))):=by rw[hR];unfold cauOk;rw[if_pos h1]
  by_cases hd:0≤d
  ·have t1:decide (0≤d)=true:=decide_eq_true hd;obtain⟨n,rfl⟩:∃n:Nat,d=(n:Int):=⟨d.toNat,by omega⟩;obtain⟨c,hc⟩:=zx (decide (n<ND));have t2:decide (n<ND)=c:=hc.symm;have HE:=zh (show R=c by rw[h4,hc,t1,Bool.true_and];exact decide_eq_decide.2 (by omega));rcases h1 with rfl | rfl | rfl
   all_goals
    clear hR h4 hc hd;go_enter Tryz.func52,Tryz.ntmps52;go_wp2_with fail;go_ret;exact⟨ret_b HE.out.symm,HBW.out _ _⟩
  ·have t1:decide (0≤d)=false:=decide_eq_false hd;have HE:=zh (show R=false by rw[h4,t1];rfl);rcases h1 with rfl | rfl | rfl
   all_goals
    clear hR h4 hd;go_enter Tryz.func52,Tryz.ntmps52;go_wp2_with fail;go_ret;exact⟨ret_b HE.out.symm,HBW.out _ _⟩
 ·have h4:R=(decide (s=4)&&decide (d = -1)):=by rw[hR];unfold cauOk;rw[if_neg h1]
  have b1:(s==1)=false:=by rw[beq_eq_false_iff_ne];omega
  have b2:(s==2)=false:=by rw[beq_eq_false_iff_ne];omega
  have b3:(s==3)=false:=by rw[beq_eq_false_iff_ne];omega
  by_cases h5:s=4
  ·have b4:(s==4)=true:=by simpa using h5
   obtain⟨c,hc⟩:=zx ((d == -1));have b5:(d == -1)=c:=hc.symm;have HE:=zh (show R=c by rw[h4,hc,decide_eq_true h5,Bool.true_and];rw[Bool.eq_iff_iff];simp);clear hR h4 hc h1 h5;go_enter Tryz.func52,Tryz.ntmps52;go_wp2_with fail;go_ret;exact⟨ret_b HE.out.symm,HBW.out _ _⟩
  ·have b4:(s==4)=false:=by simpa using h5
   have HE:=zh (show R=false by rw[h4,decide_eq_false h5];rfl);clear hR h4 h1 h5;go_enter Tryz.func52,Tryz.ntmps52;go_wp2_with fail;go_ret;exact⟨ret_b HE.out.symm,HBW.out _ _⟩
end Go.Proofs.YtcfkllnpkmebpaaGreatDoor
