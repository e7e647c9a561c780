/- The program's Parse, walked. -/
import Derived.Deep.CutRange
import Derived.Test.YtcfkllnpkmebpaaGreatDoorMp19
import Derived.Test.YtcfkllnpkmebpaaGreatDoorMp10
import Derived.Test.YtcfkllnpkmebpaaGreatDoorMp23
import Derived.Test.YtcfkllnpkmebpaaGreatDoorMp21
import Derived.Test.YtcfkllnpkmebpaaGreatDoorMp24
import Derived.Test.YtcfkllnpkmebpaaGreatDoorMp25
import Derived.Test.YtcfkllnpkmebpaaGreatDoorMp01
set_option maxRecDepth 100000
set_option maxHeartbeats 12800000
namespace Go.Proofs.YtcfkllnpkmebpaaGreatDoor
open Go.RowKit
set_option linter.unusedVariables false
set_option linter.unusedSimpArgs false
theorem cutV_some{s:ByteArray} {t r:List UInt8} (h:lineOf s.data.toList=some (t,r)):cutV s ⟨#[10]⟩=.tuple #[.string ⟨t.toArray⟩,.string ⟨r.toArray⟩,.bool true]:=by
 unfold cutV;rw[show(⟨#[10]⟩:ByteArray).data.toList=[10] from rfl,cut_line,h]
theorem cutV_none{s:ByteArray} (h:lineOf s.data.toList=none):cutV s ⟨#[10]⟩=.tuple #[.string s,.string ⟨#[]⟩,.bool false]:=by
 unfold cutV;rw[show(⟨#[10]⟩:ByteArray).data.toList=[10] from rfl,cut_line,h]
theorem grown_after{w w1 w2:World} {row:Option Nat} (hb:Below w.heap.size w w1) (hg:w1.grownBy w2 row):w.grownBy w2 row :=
 ⟨hg.os.trans hb.os,hg.tape.trans hb.tape,hg.output.trans hb.output,Nat.le_trans hb.size hg.size,fun k hk hne=>(hg.block k (Nat.lt_of_lt_of_le hk hb.size) hne).trans (hb.block k hk)⟩
theorem begin_f{N:Nat} {vl vm vd vv vp vo:Value} {F:FltM} {w:World} (hf:FleetS w (Bl w.heap.size) vl vm vd vv vp vo F) (hok:FleetOk N F) (hN:N≤12) {v:Nat} (hv:v<F.vols.length) :
  Calls Tryz.prog 51 #[.agg #[.int .i64 F.ext,vl,vm,vd,vv,vp,vo],.int .i64 (v:Int)] w fun e w'=>e=.returned (.agg #[.int .i64 0,.int .i64 0,.int .i64 (kOf F v+mOf F v),.bool true])∧Below w.heap.size w w':=by
 obtain⟨pb,pof,ob,oof,cp,co,rfl,rfl,hRp,hRo,hPA⟩:=polAt hf hok;obtain⟨Ad,cd,rfl,-,-⟩:=SlS.form hf.2.2.2.1;obtain⟨hp,nm,hvol,a0,a4,a5,a6,a7,a8,a9,a10,a11,a12,a13,a14,a15,a16,hpol,hone⟩:=hPA v hv;obtain⟨k1,k2,k3,-,-⟩:=kmq_ok hok hv;have h1:=hok.volN;have h2:=hok.polN;have h3:=hok.dve1;have h4:=hok.dveN;exact begin_any F.ext (kOf F v) (mOf F v) (qOf F v) vl vm vd a0 a4 a5 a6 a7 a8 a9 a10 a11 a12 a13 a14 a15 a16 nm Ad F.dves.length cd pb pof ob oof F.pols.length F.vols.length cp co v (volP F v) w hv hp (by omega) (by omega) (by omega) (by omega) (by omega) hvol hpol hone
theorem able_head{N:Nat} {F:FltM} (hok:FleetOk N F) {x:Inc} (hx:x∈headC F):ableB F x=true:=by
 obtain⟨v,s,b,hv,hs,rfl⟩:=headC_mem.1 hx;obtain⟨k1,k2,k3,-,-⟩:=kmq_ok hok hv;rw[able_mk];exact poss_head (by omega) k2 b
theorem able_left{F:FltM} {x:Inc} (h:ableB F x=true):0≤lackI F x:=by
 unfold ableB possB at h;split at h
 ·cases h
 ·rename_i h1;omega
theorem map_last{M:List IncW} (h:0<M.length):(M.map fun y=>y.x)[(M.map fun y=>y.x).length - 1]! = M[M.length - 1]!.x:=by
 have h1:M.length - 1<M.length:=by omega
 rw[getBang (show(M.map fun y=>y.x).length - 1<(M.map fun y=>y.x).length by rw[List.length_map];exact h1),getBang h1,List.getElem_map];simp
theorem able_with{F:FltM} {x:Inc} {c:Cau}:ableB F (withC x c)=possB (sumG x.causes+addG c.state) (sumA x.causes+addA c.state) (lackI F x - 1) x.need x.lost:=by
 unfold ableB withC lackI;simp only;rw[sumG_snoc,sumA_snoc,List.length_append,List.length_singleton]
 congr 1
 omega
theorem lack_with{F:FltM} {x:Inc} {c:Cau}:lackI F (withC x c)=lackI F x - 1:=by
 unfold withC lackI;simp only;rw[List.length_append,List.length_singleton];omega
theorem left_set{F:FltM} {L:List Inc} {k:Nat} {y:Inc} (h0:0<L.length) (hk:k=L.length - 1):leftOf F (L.set k y)=lackI F y:=by
 unfold leftOf
 have hne:L.set k y≠[]:=fun e=>by have:=congrArg List.length e;simp at this;rw[this] at h0;simp at h0
 rw[if_neg hne,List.length_set,←hk,getBang (show k<(L.set k y).length by rw[List.length_set];omega),List.getElem_set_self]
theorem setI_last{M:List IncW} {k:Nat} {y:IncW} (h0:0<M.length) (hk:k=M.length - 1):(M.set k y)[(M.set k y).length - 1]! = y:=by
 rw[List.length_set,←hk,getBang (show k<(M.set k y).length by rw[List.length_set];omega),List.getElem_set_self]
theorem cau_store{w:World} {g:Nat} {a0 b0 a b:Value} {t:TypeId} (hx:w.heap[g]?=some (.cells #[a0,b0] t (0,0))):((w.setCell ⟨g,0,none⟩ a).setCell ⟨g,1,none⟩ b).heap[g]?=some (.cells #[a,b] t (0,0)) :=
 heap_setCell_same _ g 1 _ _ _ (heap_setCell_same _ g 0 _ _ _ hx)
def TlyM(F:FltM) (M:List IncW) (w:World) (g:Nat):Prop :=
 ∃(a b:Int) (dr:Bool),w.heap[g]?=some (.cells #[.int .i64 a,.int .i64 b,.int .i64 (leftOf F (M.map fun y=>y.x)),.bool dr] 118 (0,0))∧(M≠[]→dr=true∧a=sumG M[M.length - 1]!.x.causes∧b=sumA M[M.length - 1]!.x.causes)
theorem tly_store{w:World} {g:Nat} {a b c d a' b' c' d':Value} {t:TypeId} (h:w.heap[g]?=some (.cells #[a,b,c,d] t (0,0))) :
  ((((w.setCell ⟨g,0,none⟩ a').setCell ⟨g,1,none⟩ b').setCell ⟨g,2,none⟩ c').setCell ⟨g,3,none⟩ d').heap[g]?=some (.cells #[a',b',c',d'] t (0,0))∧HotBy [some g] w ((((w.setCell ⟨g,0,none⟩ a').setCell ⟨g,1,none⟩ b').setCell ⟨g,2,none⟩ c').setCell ⟨g,3,none⟩ d') :=
 ⟨heap_setCell_same _ g 3 _ _ _ (heap_setCell_same _ g 2 _ _ _ (heap_setCell_same _ g 1 _ _ _ (heap_setCell_same _ g 0 _ _ _ h))),
  (((HotBy.setCell _ _ ⟨g,0,none⟩ _ (by simp)).trans (HotBy.setCell _ _ ⟨g,1,none⟩ _ (by simp))).trans (HotBy.setCell _ _ ⟨g,2,none⟩ _ (by simp))).trans (HotBy.setCell _ _ ⟨g,3,none⟩ _ (by simp))⟩
theorem BentS.hot{w w':World} {B:Nat} {v:Value} {L:List IncW} {hot:List (Option Nat)} (h:BentS w B v L) (hh:HotBy hot w w') (hn:∀b,some b∈hot→b<B):BentS w' B v L :=
 ⟨own_hot h.row hh (fun b hb e=>by have:=(h.row.lt b hb).1;have:=hn b e;omega),fun s hs=>own_hot (h.own s hs) hh (fun b hb e=>by have:=((h.own s hs).lt b hb).1;have:=hn b e;omega),h.off,h.apart⟩
theorem iparse_any(N:Nat) (hN:N≤12) (vl vm vd vv vp vo:Value) (F:FltM) (S:ByteArray) (w:World) (hf:FleetS w (Bl w.heap.size) vl vm vd vv vp vo F) (hok:FleetOk N F) (hS:S.size≤100000) :
  Calls Tryz.prog 19 #[.agg #[.int .i64 F.ext,vl,vm,vd,vv,vp,vo],.string S] w fun e w'=>(∃u,e=.returned (.tuple #[u,.int .i64 (parsR F [] S.data.toList 1).2.1,.int .i64 ((parsR F [] S.data.toList 1).2.2:Int)])∧SlS 5 IncK w' (Fr w.heap.size w'.heap.size) u (parsR F [] S.data.toList 1).1)∧Below w.heap.size w w':=by
 obtain⟨W0,hW0⟩:=zx (w.alloc (.cells #[.int .i64 F.ext,vl,vm,vd,vv,vp,vo] 35));obtain⟨z,hz⟩:=zx w.heap.size
 have hb0:Below w.heap.size w W0:=by rw[hW0];exact(Below.refl _ _).alloc (Nat.le_refl _) _
 have hzk:W0.heap[z]?=some (.cells #[.int .i64 F.ext,vl,vm,vd,vv,vp,vo] 35 (0,0)):=by rw[hW0,hz];exact heap_alloc_new w _
 have hzl:z<W0.heap.size:=(Array.getElem?_eq_some_iff.1 hzk).1;have HC:=zh (fun(w':World) (hb:Below W0.heap.size W0 w')=>cells7 ((hb.block z hzl).trans hzk));have HV:=zh (fvalidate_any N hN vl vm vd vv vp vo F W0 (hf.below hb0) hok);obtain⟨EXN,hEXN⟩:∃e:Nat,F.ext=(e:Int):=⟨F.ext.toNat,by have:=hok.ext;omega⟩
 have hfl:=fun(w':World) (hb:Below W0.heap.size W0 w')=>(show FleetS w' (Bl w'.heap.size) vl vm vd vv vp vo F from hf.below (hb0.trans (hb.mono hb0.size)))
 have HPH:=zh (fun(w':World) (hb:Below W0.heap.size W0 w') (t:List UInt8)=>(show Calls Tryz.prog 57 #[.agg #[.int .i64 F.ext,vl,vm,vd,vv,vp,vo],.string ⟨t.toArray⟩] w' fun e w2=>e=.returned (headV (headOf F t))∧Below w'.heap.size w' w2 from by
  have h:=parseHead_any N hN vl vm vd vv vp vo F EXN ⟨t.toArray⟩ w' (hfl w' hb) hok hEXN
  simpa using h))
 have HPC:=zh (fun(w':World) (hb:Below W0.heap.size W0 w') (i:Nat) (hi:i<100) (t:List UInt8)=>(show Calls Tryz.prog 58 #[.agg #[.int .i64 F.ext,vl,vm,vd,vv,vp,vo],.int .i64 (i:Int),.string ⟨t.toArray⟩] w' fun e w2=>e=.returned (causeV (causeIs F i t))∧Below w'.heap.size w' w2 from by
  have h:=parseCause_any N vl vm vd vv vp vo F i ⟨t.toArray⟩ w' (hfl w' hb) hok hi
  simpa using h))
 have HBG:=zh (fun(w':World) (hb:Below W0.heap.size W0 w') (v:Nat) (hv:v<F.vols.length)=>begin_f (hfl w' hb) hok hN hv);have HOK:=zh hok;obtain⟨EX,hEX⟩:=zx F.ext;obtain⟨PR,hPR⟩:=zx (parsR F [] S.data.toList 1);rw[←hEX] at HV HC HPH HPC HBG hW0 ⊢;rw[←hPR];have HPR:=zh hPR;have HRE:=zh (fun(w':World) (hb:Below W0.heap.size W0 w')=>hb0.trans (hb.mono hb0.size));have HW0:=zh hW0;have HZ:=zh hz;obtain⟨c0,c1,c2,c3,c4,c5,c6⟩:=HC.out W0 (Below.refl _ _);clear hf hok hW0 hz hb0 hzk hzl hEX hEXN hPR hfl;go_enter Tryz.func19,Tryz.ntmps19;go_upto_region 1 with fail;rw[←HW0.out,←HZ.out];go_wp2_with fail;refine HV.out.mono ?_;rintro e W1 ⟨rfl,hb1⟩;have HB1:=zh hb1;clear c0 c1 c2 c3 c4 c5 c6 hb1;obtain⟨W2,hW2⟩:=zx (W1.alloc (.cells #[.int .i64 0,.int .i64 0,.int .i64 0,.bool false] 118));obtain⟨gt,hgt⟩:=zx W1.heap.size
 have hb2:Below W1.heap.size W1 W2:=by rw[hW2];exact(Below.refl _ _).alloc (Nat.le_refl _) _
 have hkt:W2.heap[gt]?=some (.cells #[.int .i64 0,.int .i64 0,.int .i64 0,.bool false] 118 (0,0)):=by rw[hW2,hgt];exact heap_alloc_new _ _
 have HTL0:=zh (show TlyM F [] W2 gt from⟨0,0,false,hkt,fun h=>absurd rfl h⟩);have HGT:=zh (show W1.heap.size≤gt∧gt<W2.heap.size from⟨by omega,(Array.getElem?_eq_some_iff.1 hkt).1⟩);have HB2:=zh hb2;have HW2:=zh hW2;have HGTE:=zh hgt;clear hW2 hgt hb2 hkt;go_upto_region 5 with fail;rw[←HW2.out,←HGTE.out];go_wp2_with fail;go_loopg [1,7,9] (S.size+1) (fun z v1 v7 v9 wr=>∃(s:ByteArray) (M:List IncW) (va:Value) (nn:Nat),v1=.string s∧va=v7∧v9=.int .i64 (nn:Int)∧z=s.size+1∧Hid (BentS wr W2.heap.size va M)∧Hid (TlyM F M wr gt)∧Hid (MacOk F (M.map fun y=>y.x))∧Hid (PR=parsR F (M.map fun y=>y.x) s.data.toList nn)∧Hid (M.length+s.size≤S.size∧nn+s.size≤S.size+1)∧Hid (Below W1.heap.size W1 wr)∧Hid (W2.heap.size≤wr.heap.size))
 case atStart=>exact⟨S,[],_,1,rfl,rfl,rfl,rfl,zh (BentS.nil _ _),HTL0,zh (mac_nil F),HPR,zh ⟨by simp,by omega⟩,HB2,zh (Nat.le_refl _)⟩
 case round =>
  obtain⟨s,M,va,nn,rfl,rfl,rfl,rfl,HBN,HTL,HMC,HPS,HBD,HBW,HW2S⟩:=hrel;obtain⟨A7,k7,hva⟩:=own_form HBN.out.row;subst hva;obtain⟨ta,tb,dr,htk,htd⟩:=HTL.out;obtain⟨LF,hLF⟩:=zx (leftOf F (M.map fun y=>y.x));rw[←hLF] at htk;have HTK:=zh htk;have HTD:=zh htd;have HLF:=zh hLF;have HNB:=zh (show nn≤100001∧s.size≤100000∧M.length≤100000 from by have:=HBD.out;omega);clear htk htd hLF;by_cases hs0:s.size=0
  ·have hse:s=⟨#[]⟩:=by
    have:s.data.size=0:=hs0;have h2:s.data=#[]:=Array.eq_empty_of_size_eq_zero this
    cases s;simp only at h2;rw[h2]
   subst hse
   obtain⟨t0,t1,t2,t3⟩:wr.cell? ⟨gt,0,none⟩=some (.int .i64 ta)∧wr.cell? ⟨gt,1,none⟩=some (.int .i64 tb)∧wr.cell? ⟨gt,2,none⟩=some (.int .i64 LF)∧wr.cell? ⟨gt,3,none⟩=some (.bool dr) :=
    ⟨by rw[cell_of_row _ _ _ _ _ _ HTK.out];rfl,by rw[cell_of_row _ _ _ _ _ _ HTK.out];rfl,by rw[cell_of_row _ _ _ _ _ _ HTK.out];rfl,by rw[cell_of_row _ _ _ _ _ _ HTK.out];rfl⟩
   have hfin:=HPS.out;rw[show(⟨#[]⟩:ByteArray).data.toList=[] from rfl] at hfin;by_cases hl0:LF=0
   ·have b1:(LF != 0)=false:=by simpa using hl0
    rw[pars_end F _ _ (by rw[←HLF.out];exact hl0)] at hfin;have HFIN:=zh hfin;clear hfin hl0 hs0;go_wp2_with fail;go_ret3
    exact⟨⟨_,by rw[HFIN.out];rfl,by
     rw[HFIN.out]
     exact SlS.mono incK HBN.out.incs.slS (fun x hx=>⟨Nat.le_trans (Nat.le_trans (HRE.out _ HB1.out).size HB2.out.size) hx.1,hx.2⟩)⟩,HRE.out _ (HB1.out.trans (HBW.out.mono HB1.out.size))⟩
   ·have b1:(LF != 0)=true:=by simpa using hl0
    rw[pars_cut F _ _ (by rw[←HLF.out];exact hl0)] at hfin;have HFIN:=zh hfin;clear hfin hl0 hs0;go_wp2_with fail;go_ret3;exact⟨⟨.slice none 0 0,by (rw[HFIN.out];try rfl),by rw[HFIN.out];exact Row.nil _ _ _⟩,HRE.out _ (HB1.out.trans (HBW.out.mono HB1.out.size))⟩
  ·have e0:s.toList.isEmpty=false:=by
    rw[ByteArray.toList_eq]
    cases h:s.data.toList with
    | nil=>exact absurd (by have:s.data.toList.length=s.size:=Array.length_toList;rw[h] at this;simpa using this.symm) hs0
    | cons x l=>rfl
   have hne:s.data.toList≠[]:=by
    intro h;have:s.data.toList.length=s.size:=Array.length_toList;rw[h] at this;exact hs0 (by simpa using this.symm)
   have HSZ:=zh hs0;clear hs0
   cases hlo:lineOf s.data.toList with
   | none =>
    have hfin:=HPS.out;rw[pars_noline F _ _ hne hlo] at hfin;have HFIN:=zh hfin
    have hcu:=fun(w':World)=>cut_any s 10 w' (by have:=HNB.out;omega)
    rw[cutV_none hlo] at hcu;have HCU:=zh hcu;clear hfin hlo hne hcu;go_wp2_with fail;refine(HCU.out _).mono ?_;rintro e w3 ⟨rfl,n,rfl⟩;go_wp2_with fail;go_ret3;exact⟨⟨.slice none 0 0,by (rw[HFIN.out];try rfl),by rw[HFIN.out];exact Row.nil _ _ _⟩,HRE.out _ (HB1.out.trans ((Below.drewN' HBW.out n).mono HB1.out.size))⟩
   | some tr =>
    obtain⟨t,r⟩:=tr;have hse:=(lineOf_some hlo).1;have hsl:s.data.toList.length=s.size:=Array.length_toList
    have hrl:r.length<s.size:=by rw[←hsl,hse];simp;omega
    have hcu:=fun(w':World)=>cut_any s 10 w' (by have:=HNB.out;omega)
    rw[cutV_some hlo] at hcu;have HCU:=zh hcu;have HLO:=zh hlo;have HRL:=zh hrl
    have hrz:(⟨r.toArray⟩:ByteArray).size=r.length:=by show r.toArray.size=_;simp
    obtain⟨TB,hTB⟩:∃q:ByteArray,q=⟨t.toArray⟩:=⟨_,rfl⟩;obtain⟨RB,hRB⟩:∃q:ByteArray,q=⟨r.toArray⟩:=⟨_,rfl⟩
    have hph:=fun(w':World) (hb:Below W0.heap.size W0 w')=>HPH.out w' hb t
    have hpc:=fun(w':World) (hb:Below W0.heap.size W0 w') (i:Nat) (hi:i<100)=>HPC.out w' hb i hi t
    rw[←hTB] at hph hpc HCU;rw[←hRB] at HCU hrz;have HPH1:=zh hph;have HPC1:=zh hpc;have HRB:=zh (show RB.size=r.length∧RB.data.toList=r from⟨hrz,by rw[hRB]⟩);have hnp:IntKind.i64.wrap ((nn:Int)+1)=(nn:Int)+1:=IntWalk.i64_in _ (by have:=HNB.out;omega);clear hlo hne hse hsl hrl hcu hrz hTB hRB hph hpc;go_wp2_with fail;refine(HCU.out _).mono ?_;rintro e w3 ⟨rfl,n,rfl⟩;obtain⟨W3,hW3⟩:=zx (wr.drewN n);rw[←hW3]
    have hbd:Below wr.heap.size wr W3:=by rw[hW3];exact Below.drewN' (Below.refl _ _) n
    have HB3:=zh (HBW.out.trans (hbd.mono HBW.out.size));have HBN3:=zh (HBN.out.below hbd);have HWS3:=zh (show W2.heap.size≤W3.heap.size from Nat.le_trans HW2S.out hbd.size);have htk3:=(hbd.block gt (Array.getElem?_eq_some_iff.1 HTK.out).1).trans HTK.out;have HTK3:=zh htk3
    have t2:W3.cell? ⟨gt,2,none⟩=some (.int .i64 LF):=by rw[cell_of_row _ _ _ _ _ _ htk3];rfl
    clear hW3 hbd htk3;by_cases hl0:LF=0
    ·have b1:(LF==0)=true:=by simpa using hl0
     have HL0:=zh (show leftOf F (M.map fun y=>y.x)=0 from by rw[←HLF.out];exact hl0);clear hl0;have hb03:=HB1.out.trans (HB3.out.mono HB1.out.size);obtain⟨c0,c1,c2,c3,c4,c5,c6⟩:=HC.out W3 hb03;have HPHW:=zh (HPH1.out W3 hb03);clear hb03;go_wp2_with fail;refine HPHW.out.mono ?_;rintro e w4 ⟨he,hb4⟩;have HB4:=zh (HB3.out.trans (hb4.mono HB3.out.size));have HBN4:=zh (HBN3.out.below hb4);have HWS4:=zh (show W2.heap.size≤w4.heap.size from Nat.le_trans HWS3.out hb4.size);have HTK4:=zh ((hb4.block gt (Array.getElem?_eq_some_iff.1 HTK3.out).1).trans HTK3.out);clear hb4 c0 c1 c2 c3 c4 c5 c6 t2
     cases hho:headOf F t with
     | none =>
      rw[hho] at he;obtain rfl:e=.returned (.tuple #[.agg #[.int .i64 0,.int .i64 0,.bool false,.int .i64 0,.slice none 0 0],.bool false]):=he
      have hst:stepP F (M.map fun y=>y.x) t=none:=by unfold stepP;rw[if_pos HL0.out,hho]
      have hfin:=HPS.out;rw[pars_stop F _ _ HLO.out hst] at hfin;have HFIN:=zh hfin;clear hho hst hfin;go_upto_region 14 with fail
      go_quiet (fail)
      go_wp2_with fail;go_ret3;have hbw:=HRE.out _ (HB1.out.trans (HB4.out.mono HB1.out.size));exact⟨⟨.slice none 0 0,by (rw[HFIN.out];try rfl),by rw[HFIN.out];exact Row.nil _ _ _⟩,by first | exact Below.drewN' (hbw.alloc hbw.size _) _ | exact(hbw.alloc hbw.size _).drew | exact hbw.alloc hbw.size _⟩
     | some x =>
      obtain⟨hx,hxt⟩:=headOf_spec hho;rw[hho] at he;have hab:=able_head HOK.out hx;obtain⟨v,s0,b,hv,hs,rfl⟩:=headC_mem.1 hx;obtain rfl:e=.returned (.tuple #[.agg #[.int .i64 (v:Int),.int .i64 (s0:Int),.bool b,.int .i64 (kOf F v),.slice none 0 0],.bool true]):=he;obtain⟨km1,km2,km3,-,-⟩:=kmq_ok HOK.out hv;have hps:possB 0 0 (kOf F v+mOf F v) (kOf F v) b=true:=poss_head (by omega) km2 b
      have hlk0:lackI F (mkI F v s0 b)=kOf F v+mOf F v:=by
       show kOf F ((v:Int).toNat)+mOf F ((v:Int).toNat) - ((0:Nat):Int)=_
       rw[Int.toNat_natCast];simp
      have hvb:=HBG.out
      have hbg:=fun(w':World) (hb:Below W0.heap.size W0 w')=>HBG.out w' hb v hv
      obtain⟨KN,hKN⟩:=zx (kOf F v);obtain⟨KM,hKM⟩:=zx (kOf F v+mOf F v);obtain⟨X0,hX0⟩:=zx (mkI F v s0 b)
      have hX0':(⟨(v:Int),(s0:Int),b,KN,[]⟩:Inc)=X0:=by rw[hX0,hKN];rfl
      rw[←hKM] at hps hlk0 hbg;rw[←hKN] at hps ⊢;rw[←hX0] at hho hx hab hlk0 hxt;obtain⟨nb,hnb⟩:=zx (!(decide (M.length=0)||incLtB M[M.length - 1]!.x X0))
      have hstp:stepP F (M.map fun y=>y.x) t=if nb=true then none else some ((M.map fun y=>y.x)++[X0]):=by
       unfold stepP;rw[if_pos HL0.out,hho]
       dsimp only
       by_cases h0:M.length=0
       ·have hme:M=[]:=List.eq_nil_of_length_eq_zero h0;rw[hnb,decide_eq_true h0,if_pos (.inl (by rw[hme];rfl))]
        rfl
       ·rw[map_last (by omega),hnb,decide_eq_false h0,Bool.false_or]
        have hne:¬(M.map fun y=>y.x)=[]:=by intro e;exact h0 (by simpa using congrArg List.length e)
        cases h1:incLtB M[M.length - 1]!.x X0 with
        | true=>rw[if_pos (.inr rfl)];rfl
        | false=>rw[if_neg (by rintro (h | h);exact hne h;cases h)];rfl
      have HSTP:=zh hstp;have HNBE:=zh hnb;have HPSB:=zh hps;have HBGV:=zh hbg
      have HKM:=zh (show 1≤KM∧KM≤10∧v<1000∧s0<1000 from by
       have h1:=HOK.out.volN;have h2:=HOK.out.ext
       omega)
      have HX0:=zh (And.intro hx (And.intro hX0' (And.intro hlk0 hab)));obtain⟨W5,hW5⟩:=zx (w4.alloc (.cells #[.int .i64 (v:Int),.int .i64 (s0:Int),.bool b,.int .i64 KN,.slice none 0 0] 27));obtain⟨g13,hg13⟩:=zx w4.heap.size
      have hb5:Below w4.heap.size w4 W5:=by rw[hW5];exact(Below.refl _ _).alloc (Nat.le_refl _) _
      have hk5:W5.heap[g13]?=some (.cells #[.int .i64 (v:Int),.int .i64 (s0:Int),.bool b,.int .i64 KN,.slice none 0 0] 27 (0,0)):=by rw[hW5,hg13];exact heap_alloc_new _ _
      have hl5:=(Array.getElem?_eq_some_iff.1 hk5).1;have HB5:=zh (HB4.out.trans (hb5.mono HB4.out.size));have HBN5:=zh (HBN4.out.below hb5);have HWS5:=zh (show W2.heap.size≤W5.heap.size from Nat.le_trans HWS4.out hb5.size);have HTK5:=zh ((hb5.block gt (Array.getElem?_eq_some_iff.1 HTK4.out).1).trans HTK4.out);have HK5:=zh (And.intro hk5 (And.intro hl5 (show w4.heap.size≤g13 by omega)));have HROW4:=zh (fun(x:Nat) (hx:(Value.slice A7 M.length k7).ownBlock=some x)=>(HBN4.out.row.lt x hx).2);have HW5:=zh hW5;have HG13:=zh hg13;clear hho hx hxt hab hv hs km1 km2 km3 hps hlk0 hvb hbg hKN hKM hX0 hX0' hnb hstp hW5 hg13 hb5 hk5 hl5;go_upto_region 14 with fail;rw[←HW5.out,←HG13.out];go_cut [61] from 21 to 121 (fun v61 wc=>v61=.bool nb∧Hid (Below W5.heap.size W5 wc))
      case first =>
       by_cases hm0:M.length=0
       ·have HF:=zh (show nb=false by rw[HNBE.out,decide_eq_true hm0];rfl);have t0:decide (0<(M.length:Int))=false:=decide_eq_false (by omega);have t0n:decide (0<M.length)=false:=decide_eq_false (by omega);clear hm0
        go_quiet (fail)
        go_wp2_with fail;go_meet;exact⟨by rw[HF.out],zh (Below.drewN' (Below.refl W5.heap.size W5) _)⟩
       ·have t0:decide (0<(M.length:Int))=true:=decide_eq_true (by omega);have t0n:decide (0<M.length)=true:=decide_eq_true (by omega);obtain⟨LM,hLM⟩:=zx (M.length - 1)
        have hlm:LM<M.length:=by omega
        have hks:M[LM]?=some M[LM]! := by simp[hlm]
        obtain⟨g,rfl⟩:∃g,A7=some ⟨g,0,none⟩:=by
         rcases HBN5.out.row.2 with ⟨e,e2⟩ | ⟨g,cap,cur,e,_⟩
         ·exact absurd e2 hm0
         ·injection e with e;exact⟨g,e⟩
        have hmem:=HMC.out.str M[LM]!.x (List.mem_map.2 ⟨_,List.mem_of_getElem? hks,rfl⟩);have hbd:=hmem.1;rw[isStr_iff] at hbd;have hnb:=HNBE.out;rw[decide_eq_false hm0,Bool.false_or,←hLM] at hnb;obtain⟨sm,hsm⟩:=zx (M[LM]!);rw[←hsm] at hks hbd hnb
        have hx0:=fun(w':World) (hb:Below W5.heap.size W5 w') (o:Nat) (c:Value) (hc:(incC sm)[o]?=some c)=>(show w'.cell? ⟨g,LM * 5+o,none⟩=some c from by
         have h1:=(HBN5.out.below hb).row.cells (g:=g) rfl _ _ (flat_inc M LM sm hks o c hc);rw[addr0] at h1
         exact h1)
        have hg13c:=fun(w':World) (hb:Below W5.heap.size W5 w')=>cells5 ((hb.block g13 HK5.out.2.1).trans HK5.out.1)
        obtain⟨lv,hlv⟩:=zx sm.x.vol;obtain⟨ls,hls⟩:=zx sm.x.stripe;obtain⟨ll,hll⟩:=zx sm.x.lost;obtain⟨ln,hln⟩:=zx sm.x.need;obtain⟨lc,hlc⟩:=zx sm.cv
        have HSH:=zh (fun(w':World) (hb:Below W5.heap.size W5 w')=>(show(w'.cell? ⟨g,LM * 5,none⟩=some (.int .i64 lv)∧w'.cell? ⟨g,LM * 5+1,none⟩=some (.int .i64 ls)∧w'.cell? ⟨g,LM * 5+2,none⟩=some (.bool ll)∧w'.cell? ⟨g,LM * 5+3,none⟩=some (.int .i64 ln)∧w'.cell? ⟨g,LM * 5+4,none⟩=some lc)∧(w'.cell? ⟨g13,0,none⟩=some (.int .i64 (v:Int))∧w'.cell? ⟨g13,1,none⟩=some (.int .i64 (s0:Int))∧w'.cell? ⟨g13,2,none⟩=some (.bool b)∧w'.cell? ⟨g13,3,none⟩=some (.int .i64 KN)∧w'.cell? ⟨g13,4,none⟩=some (.slice none 0 0))∧Below W5.heap.size W5 w' from
         ⟨⟨by have h:=hx0 w' hb 0 _ rfl;rw[Nat.add_zero] at h;rw[hlv];exact h,by rw[hls];exact hx0 w' hb 1 _ rfl,by rw[hll];exact hx0 w' hb 2 _ rfl,by rw[hln];exact hx0 w' hb 3 _ rfl,by rw[hlc];exact hx0 w' hb 4 _ rfl⟩,hg13c w' hb,hb⟩))
        have HOR:=zh (fun(w':World)=>order_two lv ls (v:Int) (s0:Int) (.bool ll) (.int .i64 ln) lc (.bool b) (.int .i64 KN) (.slice none 0 0) w' (by have:=HOK.out.volN;omega) (by have:=HOK.out.ext;omega) (by have:=HKM.out;omega) (by have:=HKM.out;omega))
        have HNB2:=zh (show ∀r:Int,(0≤r↔¬(lv<(v:Int)∨(lv=(v:Int)∧ls<(s0:Int))))→decide (0≤r)=nb from fun r hr=>by
         rw[hnb,←HX0.out.2.1,hlv,hls] at *;unfold incLtB;rw[Bool.eq_iff_iff,decide_eq_true_eq,Bool.not_eq_true',decide_eq_false_iff_not]
         exact hr)
        have i0:IntKind.i64.wrap ((M.length:Int) - 1)=(LM:Int):=by rw[show(M.length:Int) - 1=(LM:Int) by omega];exact IntWalk.i64_in _ (by have:=HNB.out;omega)
        have i1:(LM:Int)<(M.length:Int):=by omega
        clear hm0 hLM hlm hks hmem hbd hnb hsm hx0 hg13c hlv hls hll hln hlc;refine region_tail (S:=(fun w'=>(w'.cell? ⟨g,LM * 5,none⟩=some (.int .i64 lv)∧w'.cell? ⟨g,LM * 5+1,none⟩=some (.int .i64 ls)∧w'.cell? ⟨g,LM * 5+2,none⟩=some (.bool ll)∧w'.cell? ⟨g,LM * 5+3,none⟩=some (.int .i64 ln)∧w'.cell? ⟨g,LM * 5+4,none⟩=some lc)∧(w'.cell? ⟨g13,0,none⟩=some (.int .i64 (v:Int))∧w'.cell? ⟨g13,1,none⟩=some (.int .i64 (s0:Int))∧w'.cell? ⟨g13,2,none⟩=some (.bool b)∧w'.cell? ⟨g13,3,none⟩=some (.int .i64 KN)∧w'.cell? ⟨g13,4,none⟩=some (.slice none 0 0))∧Below W5.heap.size W5 w')) [] (by kernel_rfl) (HSH.out _ (Below.refl W5.heap.size W5).drew) (fun hHeld=>?_);refine tk 0 44 ?_;refine tk 1 45 ?_;refine tk 2 46 ?_;refine tk 3 47 ?_;refine tk 4 48 ?_;refine tk 5 49 ?_;refine tk 6 50 ?_;refine tk 7 51 ?_;refine tk 8 52 ?_;refine tk 9 53 ?_;refine tk 10 54 ?_;refine tk 11 55 ?_;refine tk 12 56 ?_;refine tk 13 57 ?_;refine readyT (rs:=[14]) (by kernel_rfl) (by simp) ?_;refine AllReadyT.cons rfl (fun K hK=>?_) ?_
        ·go_simp;refine(HOR.out _).mono ?_;rintro e w6 ⟨⟨r,rfl,hr⟩,hb6⟩;have hrn:=HNB2.out r hr;clear hr;refine hK.out _ _ ?_ (fun hHeld=>?_)
         ·exact HSH.out _ (hHeld.2.2.trans (hb6.mono hHeld.2.2.size))
         clear hK K;(try simp only[Act.put,z1,z2,z3]);refine tk 15 59 ?_;refine tk 16 60 ?_;refine tk 17 61 ?_;refine doneT (by kernel_rfl) ?_ _;have HB6:=zh hHeld.2.2;clear hHeld hb6;go_wp2_with fail;go_meet;exact⟨rfl,HB6⟩
        exact AllReadyT.nil
      case rest =>
       obtain⟨rfl,HBC⟩:=hcut;have hbn:=HBN5.out.below HBC.out;have HBWC:=zh (HB5.out.trans (HBC.out.mono HB5.out.size))
       cases nb with
       | true =>
        have hfin:=HPS.out;rw[pars_stop F _ _ HLO.out HSTP.out] at hfin;have HFIN:=zh hfin;clear hfin hbn;go_wp2_with fail;go_ret3;exact⟨⟨.slice none 0 0,by (rw[HFIN.out];try rfl),by rw[HFIN.out];exact Row.nil _ _ _⟩,HRE.out _ (HB1.out.trans (HBWC.out.mono HB1.out.size))⟩
       | false =>
        have hst:stepP F (M.map fun y=>y.x) t=some ((M.map fun y=>y.x)++[X0]):=HSTP.out;have hmac:=(step_mac HOK.out hN (fun v hv=>by have:=kmq_ok HOK.out hv;omega) HMC.out hst).1;have hpn:=HPS.out;rw[pars_step F _ _ HLO.out hst,←HRB.out.2] at hpn;have HMAC:=zh hmac;have HPN:=zh hpn;have HBNC:=zh hbn;have HTKC:=zh ((HBC.out.block gt (Array.getElem?_eq_some_iff.1 HTK5.out).1).trans HTK5.out);have HKC:=zh ((HBC.out.block g13 HK5.out.2.1).trans HK5.out.1);have hltc:g13<wc.heap.size:=Nat.lt_of_lt_of_le HK5.out.2.1 HBC.out.size;have HLTC:=zh hltc;have HWSC:=zh (show W2.heap.size≤wc.heap.size from Nat.le_trans (Nat.le_trans HWS5.out HBC.out.size) (Nat.le_refl _));obtain⟨x0,x1,x2,x3,x4⟩:=cells5 HKC.out;clear hst hmac hpn hbn hltc;go_wp2_with (at_builtin;refine app_bent ⟨(v:Int),(s0:Int),b,KN,[]⟩ (.slice none 0 0) _ _ rfl rfl W2.heap.size _ M rfl HBNC.out (OwnCau.nil _ _) (fun bb hb=>by cases hb) (fun _ _ _ _ hb=>by cases hb) rfl (by have:=HNB.out;omega) HWSC.out ?_);intro v2 w11 hbn11 hg11;obtain⟨A8,k8,hv2⟩:=own_form hbn11.row;rw[show(M++[(⟨⟨(v:Int),(s0:Int),b,KN,[]⟩,.slice none 0 0⟩:IncW)]).length=M.length+1 by simp] at hv2;subst hv2;have hb11:=HBWC.out.grown hg11 HBWC.out.size (fun x hx=>Nat.le_trans HB2.out.size (HBNC.out.row.lt x hx).1);have hk11:=(hg11.block g13 HLTC.out (fun e=>by have h1:=HROW4.out g13 e.symm;have h2:=HK5.out.2.2;omega)).trans HKC.out;have ht11:=(hg11.block gt (Array.getElem?_eq_some_iff.1 HTKC.out).1 (fun e=>by have h1:=(HBNC.out.row.lt gt e.symm).1;have h2:=HGT.out;omega)).trans HTKC.out;have HBN11:=zh hbn11;have HB11:=zh hb11;have HK11:=zh (And.intro hk11 (Array.getElem?_eq_some_iff.1 hk11).1);have HT11:=zh (And.intro ht11 (Array.getElem?_eq_some_iff.1 ht11).1);have HWS11:=zh (show W2.heap.size≤w11.heap.size from Nat.le_trans HWSC.out hg11.size);have hb011:=HB1.out.trans (hb11.mono HB1.out.size);obtain⟨c0,c1,c2,c3,c4,c5,c6⟩:=HC.out w11 hb011;have HBG11:=zh (HBGV.out w11 hb011);clear x0 x1 x2 x3 x4;obtain⟨x0,x1,x2,x3,x4⟩:=cells5 hk11;clear hbn11 hg11 hb11 hk11 ht11 hb011;go_wp2_with fail;refine HBG11.out.mono ?_;rintro e w12 ⟨rfl,hb12⟩;have ht12:=(hb12.block gt HT11.out.2).trans HT11.out.1;have hk12:=(hb12.block g13 HK11.out.2).trans HK11.out.1;have HT12:=zh ht12;have HB12:=zh hb12
        obtain⟨d0,d1,d2,d3⟩:w12.cell? ⟨gt,0,none⟩=some (.int .i64 ta)∧w12.cell? ⟨gt,1,none⟩=some (.int .i64 tb)∧w12.cell? ⟨gt,2,none⟩=some (.int .i64 LF)∧w12.cell? ⟨gt,3,none⟩=some (.bool dr) :=
         ⟨by rw[cell_of_row _ _ _ _ _ _ ht12];rfl,by rw[cell_of_row _ _ _ _ _ _ ht12];rfl,by rw[cell_of_row _ _ _ _ _ _ ht12];rfl,by rw[cell_of_row _ _ _ _ _ _ ht12];rfl⟩
        have zf:=fun i=>frozen_of_row w12 gt i _ _ ht12
        have f0:=zf 0;have f1:=zf 1;have f2:=zf 2;have f3:=zf 3;obtain⟨hs1,hs2⟩:=tly_store (a':=.int .i64 0) (b':=.int .i64 0) (c':=.int .i64 KM) (d':=.bool true) ht12;have HS1:=zh hs1;have HS2:=zh hs2;have hk13:=(hs2.block g13 (Nat.lt_of_lt_of_le HK11.out.2 hb12.size) (by simp;intro e;subst e;exact absurd HK5.out.2.2 (by have h1:=HT11.out.2;have h2:=HGT.out;have h3:=HWS4.out;omega))).trans hk12;have HK13:=zh hk13;clear x0 x1 x2 x3 x4 c0 c1 c2 c3 c4 c5 c6 hb12 ht12 hk12 zf hs1 hs2 hk13;go_upto_region 18 with fail;clear d0 d1 d2 d3 f0 f1 f2 f3;obtain⟨W13,hW13⟩:=zx (((((w12.setCell ⟨gt,0,none⟩ (.int .i64 0)).setCell ⟨gt,1,none⟩ (.int .i64 0)).setCell ⟨gt,2,none⟩ (.int .i64 KM)).setCell ⟨gt,3,none⟩ (.bool true)):World);rw[←hW13] at HS1 HS2 HK13 ⊢
        have hb13:Below W1.heap.size W1 W13:=by
         rw[hW13];have h:=HB11.out.trans (HB12.out.mono HB11.out.size);exact(((h.setCell HGT.out.1 _).setCell HGT.out.1 _).setCell HGT.out.1 _).setCell HGT.out.1 _
        have HB13:=zh hb13;have HBN13:=zh ((HBN11.out.below HB12.out).hot HS2.out (fun x hx=>by simp at hx;rw[hx];exact HGT.out.2));have HWS13:=zh (show W2.heap.size≤W13.heap.size from Nat.le_trans (Nat.le_trans HWS11.out HB12.out.size) HS2.out.size);have HPO:=zh (possible_any gt 0 0 KM KN b W13 HS1.out (by omega) (by omega) (by have:=HKM.out;omega));obtain⟨x0,x1,x2,x3,x4⟩:=cells5 HK13.out;clear hW13 hb13;go_wp2_with fail;refine HPO.out.mono ?_;rintro e w14 ⟨rfl,n2,rfl⟩;rw[HPSB.out];clear x0 x1 x2 x3 x4
        have hmap:(M++[(⟨⟨(v:Int),(s0:Int),b,KN,[]⟩,.slice none 0 0⟩:IncW)]).map (fun y=>y.x)=M.map (fun y=>y.x)++[X0]:=by rw[List.map_append,←HX0.out.2.1];rfl
        have HMAP:=zh hmap;clear hmap;go_wp2_with fail;go_roundg (RB.size+1)
        case measure=>have:=HRB.out;have:=HRL.out;omega
        case rel=>exact⟨RB,M++[⟨⟨(v:Int),(s0:Int),b,KN,[]⟩,.slice none 0 0⟩],_,nn+1,rfl,rfl,by go_num,rfl,zh (HBN13.out.below (Below.drewN' (Below.refl _ _) _)),zh ⟨0,0,true,by rw[HMAP.out,left_snoc,HX0.out.2.2.1];exact HS1.out,fun _=>by
          rw[show(M++[(⟨⟨(v:Int),(s0:Int),b,KN,[]⟩,.slice none 0 0⟩:IncW)])[(M++[(⟨⟨(v:Int),(s0:Int),b,KN,[]⟩,.slice none 0 0⟩:IncW)]).length - 1]! = ⟨⟨(v:Int),(s0:Int),b,KN,[]⟩,.slice none 0 0⟩ by simp]
          exact⟨rfl,rfl,rfl⟩⟩,zh (by rw[HMAP.out];exact HMAC.out),zh (by rw[HMAP.out];exact HPN.out),zh (by have h1:=HBD.out;have h2:=HRB.out;have h3:=HRL.out;rw[List.length_append,List.length_singleton];omega),zh (Below.drewN' HB13.out _),HWS13⟩
    ·have b1:(LF==0)=false:=by simpa using hl0
     have hm0:0<M.length:=by
      rcases Nat.eq_zero_or_pos M.length with h | h
      ·exfalso
       apply hl0;rw[HLF.out,List.eq_nil_of_length_eq_zero h]
       rfl
      ·exact h
     have hme:M≠[]:=fun e=>by rw[e] at hm0;exact absurd hm0 (by decide)
     obtain⟨hdr,hta,htb⟩:=HTD.out hme;subst hdr;obtain⟨LM,hLM⟩:=zx (M.length - 1)
     have hlm:LM<M.length:=by omega
     have hks:M[LM]?=some M[LM]! := by simp[hlm]
     have hml:=map_last hm0;rw[←hLM] at hta htb;rw[←hLM] at hml;obtain⟨sm,hsm⟩:=zx (M[LM]!);rw[←hsm] at hks hta htb hml
     obtain⟨g,rfl⟩:∃g,A7=some ⟨g,0,none⟩:=by
      rcases HBN3.out.row.2 with ⟨e,e2⟩ | ⟨g,cap,cur,e,_⟩
      ·omega
      ·injection e with e;exact⟨g,e⟩
     have hmn:(M.map fun y=>y.x)≠[]:=fun e=>hme (by simpa using e)
     have hlf2:LF=lackI F sm.x:=by rw[HLF.out];unfold leftOf;rw[if_neg hmn,hml]
     have hmem:=HMC.out.str sm.x (List.mem_map.2 ⟨_,List.mem_of_getElem? hks,rfl⟩);have hlk:=able_left hmem.2.2.2;have hbd:=hmem.1;rw[isStr_iff] at hbd;have hkm:=kmq_ok HOK.out (v:=sm.x.vol.toNat) (by omega)
     have hcl4:sm.x.causes.length≤4:=by unfold lackI at hlk;omega
     have hg1:=sumG_bd sm.x.causes;have ha1:=sumA_bd sm.x.causes
     have hlk4:lackI F sm.x≤4:=by unfold lackI;omega
     have hso:=HBN3.out.own sm (List.mem_of_getElem? hks);obtain⟨As,cA,hsv⟩:=hso.form;obtain⟨CL,hCL⟩:=zx sm.x.causes.length;rw[←hCL] at hsv hcl4;rw[hsv] at hso
     have hstep:stepP F (M.map fun y=>y.x) t=match causeIs F CL t with | none=>none | some c=>if ableB F (withC sm.x c)=true then some ((M.map fun y=>y.x).set LM (withC sm.x c)) else none:=by
      unfold stepP;rw[if_neg (by rw[←HLF.out];exact hl0),hml,←hCL,List.length_map,←hLM]
      cases causeIs F CL t <;> rfl
     obtain⟨xc,hxc⟩:=zx sm.x.causes;obtain⟨xl,hxl⟩:=zx sm.x.lost;obtain⟨xn,hxn⟩:=zx sm.x.need;rw[←hxc] at hta htb hg1 ha1 hso hCL;have HSM:=zh (And.intro hxc (And.intro hxl hxn));have HTAB:=zh (And.intro hta htb);have HLKB:=zh (show(0≤LF∧LF≤4)∧(0≤ta∧ta≤4)∧(0≤tb∧tb≤4) from by rw[hta,htb];omega);have HLF2:=zh hlf2;have HKS:=zh hks;have HCL:=zh (show xc.length=CL∧CL≤4 from⟨hCL.symm,hcl4⟩);have HSV:=zh hsv;have HSO3:=zh hso;have HSTP:=zh hstep;have HMLM:=zh (show LM<M.length∧LM=M.length - 1 from⟨hlm,hLM⟩)
     have hx0:=fun(w':World) (hb:Below W3.heap.size W3 w') (o:Nat) (c:Value) (hc:(incC sm)[o]?=some c)=>(show w'.cell? ⟨g,LM * 5+o,none⟩=some c from by
      have h1:=(HBN3.out.below hb).row.cells (g:=g) rfl _ _ (flat_inc M LM sm hks o c hc);rw[addr0] at h1
      exact h1)
     have HX:=zh (fun(w':World) (hb:Below W3.heap.size W3 w')=>(show w'.cell? ⟨g,LM * 5+2,none⟩=some (.bool xl)∧w'.cell? ⟨g,LM * 5+3,none⟩=some (.int .i64 xn)∧w'.cell? ⟨g,LM * 5+4,none⟩=some (.slice As CL cA) from
      ⟨by rw[hxl];exact hx0 w' hb 2 _ rfl,by rw[hxn];exact hx0 w' hb 3 _ rfl,by rw[←hsv];exact hx0 w' hb 4 _ rfl⟩))
     have hb03:=HB1.out.trans (HB3.out.mono HB1.out.size)
     have HSH:=zh (fun(w':World) (hb:Below W3.heap.size W3 w')=>(show(w'.cell? ⟨z,0,none⟩=some (.int .i64 EX)∧w'.cell? ⟨z,1,none⟩=some vl∧w'.cell? ⟨z,2,none⟩=some vm∧w'.cell? ⟨z,3,none⟩=some vd∧w'.cell? ⟨z,4,none⟩=some vv∧w'.cell? ⟨z,5,none⟩=some vp∧w'.cell? ⟨z,6,none⟩=some vo)∧w'.cell? ⟨g,LM * 5+4,none⟩=some (.slice As CL cA)∧Below W3.heap.size W3 w' from
      ⟨HC.out w' (hb03.trans (hb.mono hb03.size)),by rw[←hsv];exact hx0 w' hb 4 _ rfl,hb⟩))
     obtain⟨st,drv,ok,hcv,hok1,hok2,hst⟩:∃(st drv:Int) (ok:Bool),causeV (causeIs F CL t)=.tuple #[.agg #[.int .i64 st,.int .i64 drv],.bool ok]∧(ok=false→causeIs F CL t=none)∧(ok=true→causeIs F CL t=some ⟨st,drv⟩)∧(addG st≤1∧0≤addG st∧addA st≤1∧0≤addA st):=by
      have hbb:∀st:Int,addG st≤1∧0≤addG st∧addA st≤1∧0≤addA st:=fun st=>by have:=addG_bd st;have:=addA_bd st;omega
      cases causeIs F CL t with
      | none=>exact⟨0,0,false,rfl,fun _=>rfl,fun h=>(by cases h),hbb 0⟩
      | some c=>exact⟨c.state,c.drive,true,rfl,fun h=>(by cases h),fun _=>rfl,hbb c.state⟩
     have hpc2:=fun(w':World) (hb:Below W3.heap.size W3 w')=>HPC1.out w' (hb03.trans (hb.mono hb03.size)) CL (by omega)
     rw[hcv] at hpc2;have HPC2:=zh hpc2;have HOKC:=zh (And.intro hok1 hok2);have HADD:=zh hst
     have i0:IntKind.i64.wrap ((M.length:Int) - 1)=(LM:Int):=by rw[show(M.length:Int) - 1=(LM:Int) by omega];exact IntWalk.i64_in _ (by have:=HNB.out;omega)
     have i1:(LM:Int)<(M.length:Int):=by omega
     clear hm0 hme hta htb hLM hlm hks hml hsm hmn hlf2 hmem hlk hbd hkm hcl4 hg1 ha1 hlk4 hso hsv hCL hstep hxc hxl hxn hx0 hb03 hcv hok1 hok2 hst hpc2 hl0;go_upto_region 21 with fail;clear t2 i0 i1;go_cut [16,17] from 21 to 121 (fun v16 v17 wc=>∃g16,v16=.pointer (some ⟨g16,0,none⟩)∧v17=.bool ok∧Hid (wc.heap[g16]?=some (.cells #[.int .i64 st,.int .i64 drv] 102 (0,0)))∧Hid (W3.heap.size≤g16)∧Hid (Below W3.heap.size W3 wc))
     case first =>
      refine region_tail (S:=(fun w'=>(w'.cell? ⟨z,0,none⟩=some (.int .i64 EX)∧w'.cell? ⟨z,1,none⟩=some vl∧w'.cell? ⟨z,2,none⟩=some vm∧w'.cell? ⟨z,3,none⟩=some vd∧w'.cell? ⟨z,4,none⟩=some vv∧w'.cell? ⟨z,5,none⟩=some vp∧w'.cell? ⟨z,6,none⟩=some vo)∧w'.cell? ⟨g,LM * 5+4,none⟩=some (.slice As CL cA)∧Below W3.heap.size W3 w')) [] (by kernel_rfl) (HSH.out _ (Below.refl W3.heap.size W3).drew) (fun hHeld=>?_);refine tk 0 84 ?_;refine tk 1 85 ?_;refine tk 2 86 ?_;refine tk 3 87 ?_;refine tk 4 88 ?_;refine tk 5 89 ?_;refine tk 6 90 ?_;refine readyT (rs:=[7,11]) (by kernel_rfl) (by simp) ?_;refine AllReadyT.cons rfl (fun K hK=>?_) ?_
      ·go_simp;refine(HPC2.out _ hHeld.2.2).mono ?_;rintro e w6 ⟨rfl,hb6⟩;have hb36:Below W3.heap.size W3 w6:=hHeld.2.2.trans (hb6.mono hHeld.2.2.size);refine hK.out _ _ ?_ (fun hHeld=>?_)
       ·(first|exact HSH.out _ hb36|exact HSH.out _ (hHeld.2.2.alloc hHeld.2.2.size _)|exact HSH.out _ (hb36.alloc hb36.size _)|exact HSH.out _ ((hHeld.2.2.setCell (p:=⟨W3.heap.size,0,none⟩) (Nat.le_refl _) _).setCell (p:=⟨W3.heap.size,1,none⟩) (Nat.le_refl _) _))
       clear hK K;(try simp only[Act.put,z1,z2,z3]);refine tk 8 83 ?_;refine tk 9 92 ?_;refine tk 10 93 ?_;refine readyT (rs:=[11]) (by kernel_rfl) (by simp) ?_;refine AllReadyT.cons rfl (fun K hK=>?_) ?_
       ·go_simp
        first|have hX:=heap_alloc_new w6 (.cells #[.int .i64 0,.int .i64 0] 102)|have hX:=heap_alloc_new W3.drew (.cells #[.int .i64 0,.int .i64 0] 102)
        refine hK.out _ _ ?_ (fun hHeld=>?_)
        ·(first|exact HSH.out _ hb36|exact HSH.out _ (hHeld.2.2.alloc hHeld.2.2.size _)|exact HSH.out _ (hb36.alloc hb36.size _)|exact HSH.out _ ((hHeld.2.2.setCell (p:=⟨W3.heap.size,0,none⟩) (Nat.le_refl _) _).setCell (p:=⟨W3.heap.size,1,none⟩) (Nat.le_refl _) _))
        clear hK K;(try simp only[Act.put,z1,z2,z3]);refine readyT (rs:=[12]) (by kernel_rfl) (by simp) ?_;refine AllReadyT.cons rfl (fun K hK=>?_) ?_
        ·first | have hx:w6.heap[W3.heap.size]?=some (.cells #[.int .i64 0,.int .i64 0] 102 (0,0)):=(hb6.block _ (Array.getElem?_eq_some_iff.1 hX).1).trans hX | have hx:(w6.alloc (.cells #[.int .i64 0,.int .i64 0] 102)).heap[w6.heap.size]?=some (.cells #[.int .i64 0,.int .i64 0] 102 (0,0)):=hX
         obtain⟨q0,q1⟩:=cells2 hx;have r0:=frozen_of_row _ _ 0 _ _ hx;have r1:=frozen_of_row _ _ 1 _ _ hx;go_simp;refine hK.out _ _ ?_ (fun hHeld=>?_)
         ·(first|exact HSH.out _ hb36|exact HSH.out _ (hHeld.2.2.alloc hHeld.2.2.size _)|exact HSH.out _ (hb36.alloc hb36.size _)|exact HSH.out _ ((hHeld.2.2.setCell (p:=⟨W3.heap.size,0,none⟩) (Nat.le_refl _) _).setCell (p:=⟨W3.heap.size,1,none⟩) (Nat.le_refl _) _))
         clear hK K;(try simp only[Act.put,z1,z2,z3]);refine tk 13 17 ?_;refine doneT (by kernel_rfl) ?_ _;have hbs:=hHeld.2.2;clear hHeld;go_wp2_with fail;go_meet;exact⟨w6.heap.size,rfl,rfl,zh (heap_alloc_new w6 _),zh (show W3.heap.size≤w6.heap.size from hb6.size),zh hbs⟩
        exact AllReadyT.nil
       exact AllReadyT.nil
      refine AllReadyT.cons rfl (fun K hK=>?_) ?_
      ·go_simp
       first|have hX:=heap_alloc_new w6 (.cells #[.int .i64 0,.int .i64 0] 102)|have hX:=heap_alloc_new W3.drew (.cells #[.int .i64 0,.int .i64 0] 102)
       refine hK.out _ _ ?_ (fun hHeld=>?_)
       ·(first|exact HSH.out _ hb36|exact HSH.out _ (hHeld.2.2.alloc hHeld.2.2.size _)|exact HSH.out _ (hb36.alloc hb36.size _)|exact HSH.out _ ((hHeld.2.2.setCell (p:=⟨W3.heap.size,0,none⟩) (Nat.le_refl _) _).setCell (p:=⟨W3.heap.size,1,none⟩) (Nat.le_refl _) _))
       clear hK K;(try simp only[Act.put,z1,z2,z3]);refine readyT (rs:=[7]) (by kernel_rfl) (by simp) ?_;refine AllReadyT.cons rfl (fun K hK=>?_) ?_
       ·go_simp;refine(HPC2.out _ hHeld.2.2).mono ?_;rintro e w6 ⟨rfl,hb6⟩;have hb36:Below W3.heap.size W3 w6:=hHeld.2.2.trans (hb6.mono hHeld.2.2.size);refine hK.out _ _ ?_ (fun hHeld=>?_)
        ·(first|exact HSH.out _ hb36|exact HSH.out _ (hHeld.2.2.alloc hHeld.2.2.size _)|exact HSH.out _ (hb36.alloc hb36.size _)|exact HSH.out _ ((hHeld.2.2.setCell (p:=⟨W3.heap.size,0,none⟩) (Nat.le_refl _) _).setCell (p:=⟨W3.heap.size,1,none⟩) (Nat.le_refl _) _))
        clear hK K;(try simp only[Act.put,z1,z2,z3]);refine tk 8 83 ?_;refine tk 9 92 ?_;refine tk 10 93 ?_;refine readyT (rs:=[12]) (by kernel_rfl) (by simp) ?_;refine AllReadyT.cons rfl (fun K hK=>?_) ?_
        ·first | have hx:w6.heap[W3.heap.size]?=some (.cells #[.int .i64 0,.int .i64 0] 102 (0,0)):=(hb6.block _ (Array.getElem?_eq_some_iff.1 hX).1).trans hX | have hx:(w6.alloc (.cells #[.int .i64 0,.int .i64 0] 102)).heap[w6.heap.size]?=some (.cells #[.int .i64 0,.int .i64 0] 102 (0,0)):=hX
         obtain⟨q0,q1⟩:=cells2 hx;have r0:=frozen_of_row _ _ 0 _ _ hx;have r1:=frozen_of_row _ _ 1 _ _ hx;go_simp;refine hK.out _ _ ?_ (fun hHeld=>?_)
         ·(first|exact HSH.out _ hb36|exact HSH.out _ (hHeld.2.2.alloc hHeld.2.2.size _)|exact HSH.out _ (hb36.alloc hb36.size _)|exact HSH.out _ ((hHeld.2.2.setCell (p:=⟨W3.heap.size,0,none⟩) (Nat.le_refl _) _).setCell (p:=⟨W3.heap.size,1,none⟩) (Nat.le_refl _) _))
         clear hK K;(try simp only[Act.put,z1,z2,z3]);refine tk 13 17 ?_;refine doneT (by kernel_rfl) ?_ _;have hbs:=hHeld.2.2;clear hHeld;go_wp2_with fail;go_meet;exact⟨W3.heap.size,rfl,rfl,zh (cau_store hx),zh (Nat.le_refl _),zh hbs⟩
        exact AllReadyT.nil
       exact AllReadyT.nil
      exact AllReadyT.nil
     case rest =>
      obtain⟨g16,rfl,rfl,HK16,HG16,HBC⟩:=hcut;have htkc:=(HBC.out.block gt (Array.getElem?_eq_some_iff.1 HTK3.out).1).trans HTK3.out;have HAD:=zh (add_any gt ta tb LF st wc htkc (by have:=HLKB.out;omega) (by have:=HLKB.out;omega) (by have:=HLKB.out;omega));have HTKC:=zh htkc;obtain⟨q0,q1⟩:=cells2 HK16.out;clear htkc;go_wp2_with fail;refine HAD.out.mono ?_;rintro e w5 ⟨rfl,htl5,hh5⟩;have hgtl:gt<W3.heap.size:=(Array.getElem?_eq_some_iff.1 HTK3.out).1;have hk16l:=(Array.getElem?_eq_some_iff.1 HK16.out).1;have hk5:=(hh5.block g16 hk16l (by simp;intro e;have:=HG16.out;omega)).trans HK16.out;have hbn5:=(HBN3.out.below HBC.out).hot hh5 (fun x hx=>by simp at hx;rw[hx];exact HGT.out.2)
      have hx5:w5.cell? ⟨g,LM * 5+2,none⟩=some (.bool xl)∧w5.cell? ⟨g,LM * 5+3,none⟩=some (.int .i64 xn)∧w5.cell? ⟨g,LM * 5+4,none⟩=some (.slice As CL cA):=by
       obtain⟨h1,h2,h3⟩:=HX.out wc HBC.out;have e:w5.heap[g]?=wc.heap[g]?:=hh5.block g (World.block_lt_of_cell? wc _ h1) (by simp;intro e;have h4:=(HBN3.out.row.lt g rfl).1;have h5:=HGT.out;omega);exact⟨(World.cell?_of_block e).trans h1,(World.cell?_of_block e).trans h2,(World.cell?_of_block e).trans h3⟩
      have hb15:Below W1.heap.size W1 w5:=below_hotW (HB3.out.trans (HBC.out.mono HB3.out.size)) hh5 (fun x hx=>by simp at hx;rw[hx];exact HGT.out.1);have HB15:=zh hb15;have HBN5:=zh hbn5;have HTL5:=zh htl5;have HK5:=zh (And.intro hk5 (Array.getElem?_eq_some_iff.1 hk5).1);have HX5:=zh hx5;have HW25:=zh (show W2.heap.size≤w5.heap.size from Nat.le_trans (Nat.le_trans HWS3.out HBC.out.size) hh5.size)
      have hmpb:=fun(n:Nat)=>possible_any gt (ta+addG st) (tb+addA st) (LF - 1) xn xl (w5.drewN n) (show TlyB (w5.drewN n) gt (ta+addG st) (tb+addA st) (LF - 1) from htl5) (by have:=HLKB.out;have:=HADD.out;omega) (by have:=HLKB.out;have:=HADD.out;omega) (by have:=HLKB.out;omega)
      obtain⟨pv,hpv⟩:=zx (possB (ta+addG st) (tb+addA st) (LF - 1) xn xl);rw[←hpv] at hmpb;have HMPB:=zh hmpb;have HPV:=zh hpv;have HHL:=zh hgtl;obtain⟨y2,y3,y4⟩:=hx5;clear q0 q1 htl5 hh5 hgtl hk16l hk5 hbn5 hb15 hmpb hpv;go_upto_region 23 with fail
      cases ok with
      | false =>
       have hst:stepP F (M.map fun y=>y.x) t=none:=by rw[HSTP.out,HOKC.out.1 rfl]
       have hfin:=HPS.out;rw[pars_stop F _ _ HLO.out hst] at hfin;have HFIN:=zh hfin;clear hst hfin
       go_quiet (fail)
       go_wp2_with fail;go_ret3;exact⟨⟨.slice none 0 0,by (rw[HFIN.out];try rfl),by rw[HFIN.out];exact Row.nil _ _ _⟩,HRE.out _ (HB1.out.trans ((Below.drewN' HB15.out _).mono HB1.out.size))⟩
      | true =>
       have hci:=HOKC.out.2 rfl
       have habl:ableB F (withC sm.x ⟨st,drv⟩)=pv:=by rw[able_with,HPV.out,HTAB.out.1,HTAB.out.2,HLF2.out,HSM.out.1,HSM.out.2.1,HSM.out.2.2]
       have hst:=HSTP.out;rw[hci] at hst
       dsimp only at hst
       rw[habl] at hst;have HST:=zh hst;clear hci habl hst
       go_quiet (with_reducible exact Calls.quiet_of (HMPB.out _))
       cases pv with
       | false =>
        have hfin:=HPS.out;rw[pars_stop F _ _ HLO.out HST.out] at hfin;have HFIN:=zh hfin;clear hfin;go_wp2_with fail;go_ret3;exact⟨⟨.slice none 0 0,by (rw[HFIN.out];try rfl),by rw[HFIN.out];exact Row.nil _ _ _⟩,HRE.out _ (HB1.out.trans ((Below.drewN' HB15.out _).mono HB1.out.size))⟩
       | true =>
        have hst:stepP F (M.map fun y=>y.x) t=some ((M.map fun y=>y.x).set LM (withC sm.x ⟨st,drv⟩)):=HST.out;have hmac:=(step_mac HOK.out hN (fun v hv=>by have:=kmq_ok HOK.out hv;omega) HMC.out hst).1;have hpn:=HPS.out;rw[pars_step F _ _ HLO.out hst,←HRB.out.2] at hpn;have HMAC:=zh hmac;have HPN:=zh hpn;obtain⟨w6,hw6⟩:=zx (w5.drewN nq);rw[←hw6]
        have hb56:Below w5.heap.size w5 w6:=by rw[hw6];exact Below.drewN' (Below.refl _ _) nq
        have hbn6:=HBN5.out.below hb56;have hk6:=(hb56.block g16 HK5.out.2).trans HK5.out.1;have hgl5:=(HBN5.out.row.lt g rfl).2;have hx6:w6.cell? ⟨g,LM * 5+4,none⟩=some (.slice As CL cA):=(hb56.cell (p:=⟨g,LM * 5+4,none⟩) hgl5).trans HX5.out.2.2;have hgl6:g<w6.heap.size:=(hbn6.row.lt g rfl).2;have hk6l:=(Array.getElem?_eq_some_iff.1 hk6).1
        have how6:OwnCau w6 W2.heap.size (.slice As CL cA) xc:=by
         have h:=hbn6.own sm (List.mem_of_getElem? HKS.out);rw[HSV.out,←HSM.out.1] at h;exact h
        have hneg:(Value.slice As CL cA).ownBlock≠some g:=fun e=>hbn6.off sm (List.mem_of_getElem? HKS.out) g (by rw[HSV.out];exact e) rfl
        have hne16:(Value.slice As CL cA).ownBlock≠some g16:=fun e=>by have h1:=(HSO3.out.lt g16 e).2;have h2:=HG16.out;omega
        have hnet:(Value.slice As CL cA).ownBlock≠some gt:=fun e=>by have h1:=(HSO3.out.lt gt e).1;have h2:=HGT.out;omega
        have HSI:=zh (fun(w':World) (hb:Below w6.heap.size w6 w')=>(show w'.cell? ⟨g,LM * 5+4,none⟩=some (.slice As CL cA)∧w'.cell? ⟨g16,0,none⟩=some (.int .i64 st)∧w'.cell? ⟨g16,1,none⟩=some (.int .i64 drv) from
         ⟨(hb.cell (p:=⟨g,LM * 5+4,none⟩) hgl6).trans hx6,(cells2 ((hb.block g16 hk6l).trans hk6)).1,(cells2 ((hb.block g16 hk6l).trans hk6)).2⟩))
        have HSJ:=zh (fun(w':World) (hg:w6.grownBy w' (Value.slice As CL cA).ownBlock)=>(show w'.cell? ⟨g,LM * 5+4,none⟩=some (.slice As CL cA)∧w'.cell? ⟨g16,0,none⟩=some (.int .i64 st)∧w'.cell? ⟨g16,1,none⟩=some (.int .i64 drv) from
         ⟨(World.cell?_of_block (w:=w6) (hg.block g hgl6 (fun e=>hneg e.symm))).trans hx6,(cells2 ((hg.block g16 hk6l (fun e=>hne16 e.symm)).trans hk6)).1,(cells2 ((hg.block g16 hk6l (fun e=>hne16 e.symm)).trans hk6)).2⟩))
        have HFZ:=zh (fun(w':World) (hg:w6.grownBy w' (Value.slice As CL cA).ownBlock)=>(show w'.frozen? ⟨g,LM * 5+4,none⟩=false from
         own_fz (n:=M.length) (own_keepB hbn6.row (fun x hx=>by
          have e:g=x:=by injection hx
          subst e;exact hg.block g hgl6 (fun e=>hneg e.symm))) _))
        have ht6:=(hb56.block gt HTL5.out.lt).trans HTL5.out
        have HTLZ:=zh (fun(w':World) (hg:w6.grownBy w' (Value.slice As CL cA).ownBlock) (c:Value)=>(show(w'.setCell ⟨g,LM * 5+4,none⟩ c).heap[gt]?=some (.cells #[.int .i64 (ta+addG st),.int .i64 (tb+addA st),.int .i64 (LF - 1),.bool true] 118 (0,0)) from by
         have h1:=(hg.block gt (Array.getElem?_eq_some_iff.1 ht6).1 (fun e=>hnet e.symm)).trans ht6
         exact((Lib.grownBy_setCell w' g (LM * 5+4) c).block gt (Array.getElem?_eq_some_iff.1 h1).1 (fun e=>by injection e with e;have h2:=(hbn6.row.lt g rfl).1;have h3:=HGT.out;omega)).trans h1))
        have hb16:=HB15.out.trans (hb56.mono HB15.out.size)
        have HBZ:=zh (fun(w':World) (hg:w6.grownBy w' (Value.slice As CL cA).ownBlock) (c:Value)=>(show Below W1.heap.size W1 (w'.setCell ⟨g,LM * 5+4,none⟩ c) from
         (hb16.grown hg hb16.size (fun x hx=>Nat.le_trans HB2.out.size (how6.lt x hx).1)).setCell (p:=⟨g,LM * 5+4,none⟩) (Nat.le_trans HB2.out.size (hbn6.row.lt g rfl).1) _))
        have HBN6:=zh hbn6;have HOW6:=zh how6;have HW26:=zh (Nat.le_trans HW25.out hb56.size)
        have HMAP:=zh (fun(c:Value)=>(show(M.set LM ⟨⟨sm.x.vol,sm.x.stripe,sm.x.lost,sm.x.need,xc++[⟨st,drv⟩]⟩,c⟩).map (fun y=>y.x)=(M.map fun y=>y.x).set LM (withC sm.x ⟨st,drv⟩) from by
         rw[List.map_set,HSM.out.1];rfl))
        clear hst hmac hpn y2 y3 y4 hw6 hb56 hbn6 hk6 hgl5 hx6 hgl6 hk6l how6 hneg hne16 hnet ht6 hb16;go_upto_region 25 with fail;refine region_tail (S:=(fun w'=>w'.cell? ⟨g,LM * 5+4,none⟩=some (.slice As CL cA)∧w'.cell? ⟨g16,0,none⟩=some (.int .i64 st)∧w'.cell? ⟨g16,1,none⟩=some (.int .i64 drv))) [10] (by kernel_rfl) (HSI.out _ (Below.refl w6.heap.size w6).drew) (fun hHeld=>?_);refine tk 0 112 ?_;refine tk 1 113 ?_;refine tk 2 114 ?_;refine tk 3 115 ?_;refine tk 4 116 ?_;refine tk 5 117 ?_;refine readyT (rs:=[6]) (by kernel_rfl) (by simp) ?_;refine AllReadyT.cons rfl (fun K hK=>?_) ?_
        ·go_simp;have hX:=heap_alloc_new w6.drew (.cells #[.int .i64 st,.int .i64 drv] 102);have hbl6:Below w6.heap.size w6 (w6.drew.alloc (.cells #[.int .i64 st,.int .i64 drv] 102)):=(Below.refl w6.heap.size w6).drew.alloc (Nat.le_refl _) _;refine hK.out _ _ ?_ (fun hHeld=>?_)
         ·(first|exact hs8|exact HSI.out _ hbl6)
         clear hK K;(try simp only[Act.put,z1,z2,z3]);refine readyT (rs:=[7]) (by kernel_rfl) (by simp) ?_;refine AllReadyT.cons rfl (fun K hK=>?_) ?_
         ·refine step_acau ⟨st,drv⟩ rfl (.tmp 116) (.tmp 118) rfl W2.heap.size (.slice As CL cA) xc (by rfl) (HOW6.out.below hbl6) _ (by rfl) hX (by have:=HCL.out;omega) (Nat.le_trans HW26.out hbl6.size) ?_;intro v8 w8 how8 hg8 hat8
          change K (Act.put _ (some 119) _) _
          obtain⟨A8,k8,hv8⟩:=how8.form;rw[List.length_append,List.length_singleton,HCL.out.1] at hv8;subst hv8;have hg58:=grown_after hbl6 hg8;have hs8:=HSJ.out w8 hg58;have f8:=HFZ.out w8 hg58;refine hK.out _ _ ?_ (fun hHeld=>?_)
          ·(first|exact hs8|exact HSI.out _ hbl6)
          clear hK K;(try simp only[Act.put,z1,z2,z3]);refine tk 8 120 ?_;refine tk 9 121 ?_;refine readyT (rs:=[10]) (by kernel_rfl) (by simp) ?_;refine AllReadyT.consT rfl rfl (fun K hK=>?_) ?_
          ·go_simp;refine hK.out _ _ ?_;clear hK K;(try simp only[Act.put,z1,z2,z3]);refine doneT (by kernel_rfl) ?_ _;have HG58:=zh hg58;have HOW8:=zh how8
           have HAT8:=zh (show(Value.slice A8 (CL+1) k8).ownBlock=(Value.slice As CL cA).ownBlock∨∃q,(Value.slice A8 (CL+1) k8).ownBlock=some q∧w6.heap.size≤q from by
            rcases hat8 with h | h
            ·exact .inl h
            ·exact .inr ⟨_,h,hbl6.size⟩)
           clear hHeld how8 hg8 hat8 hg58 hbl6 hX;go_wp2_with fail;go_roundg (RB.size+1)
           case measure=>have:=HRB.out;have:=HRL.out;omega
           case rel =>
            have hset:=HBN6.out.setc (cs:=xc++[⟨st,drv⟩]) (cv:=.slice A8 (CL+1) k8) rfl HKS.out (by rw[HSV.out];exact HG58.out) HOW8.out (by rw[HSV.out];exact HAT8.out);have hml:=HMLM.out;exact⟨RB,M.set LM ⟨⟨sm.x.vol,sm.x.stripe,sm.x.lost,sm.x.need,xc++[⟨st,drv⟩]⟩,.slice A8 (CL+1) k8⟩,_,nn+1,rfl,rfl,by go_num,rfl,zh hset,zh ⟨ta+addG st,tb+addA st,true,by rw[HMAP.out,left_set (by rw[List.length_map];omega) (by rw[List.length_map];omega),lack_with,←HLF2.out];exact HTLZ.out w8 HG58.out _,fun _=>by rw[setI_last (by omega) hml.2];exact⟨rfl,by show _=sumG (xc++[⟨st,drv⟩]);rw[sumG_snoc,HTAB.out.1],by show _=sumA (xc++[⟨st,drv⟩]);rw[sumA_snoc,HTAB.out.2]⟩⟩,zh (by rw[HMAP.out];exact HMAC.out),zh (by rw[HMAP.out];exact HPN.out),zh (by have h1:=HBD.out;have h2:=HRB.out;have h3:=HRL.out;rw[List.length_set];omega),zh (HBZ.out w8 HG58.out _),zh (Nat.le_trans HW26.out (Nat.le_trans HG58.out.size (Lib.grownBy_setCell w8 g (LM * 5+4) _).size))⟩
          exact AllReadyT.nil
         exact AllReadyT.nil
        exact AllReadyT.nil
end Go.Proofs.YtcfkllnpkmebpaaGreatDoor
