/- The policy of a volume, and how many fragments of a stripe are intact: the reference, walked. -/
import Derived.BigQuiet
import Derived.Deep.QuietTactic
import Derived.Deep.MidRow
import Derived.Test.YtcfkllnpkmebpaaGreatDoorMp14
import Derived.Test.YtcfkllnpkmebpaaGreatDoorMp09
import Derived.Test.YtcfkllnpkmebpaaGreatDoorMp01
import Derived.Test.YtcfkllnpkmebpaaGreatDoorMp04
import Derived.Test.YtcfkllnpkmebpaaGreatDoorMp10
import Derived.Test.YtcfkllnpkmebpaaGreatDoorMp11
set_option maxRecDepth 100000
set_option maxHeartbeats 12800000
namespace Go.Proofs.YtcfkllnpkmebpaaGreatDoor
open Go.RowKit
set_option linter.unusedVariables false
set_option linter.unusedSimpArgs false
theorem results_cell{P:Program} (fn:Func) (t:TypeId) (a:Nat) (tmps:Array Value) (w:World) (v:Value) (ad:Addr) (hr:fn.results=#[.cell a t]) (hv:tmps.getD a undef=.pointer (some ad)) (hl:(loadVar t ad).run P w=.ok v w):(results fn tmps).run P w=.ok v w:=by
 unfold results;rw[hr,Array.mapM_eq_mapM_toList];simp only[List.mapM_cons,List.mapM_nil,hv,asAddr];simp[hl]
def volP(F:FltM) (v:Nat):Nat:=match F.vols[v]? with | some x=>x.pol.toNat | none=>0
def kOf(F:FltM) (v:Nat):Int:=match F.pols[volP F v]? with | some x=>x.k | none=>1
def mOf(F:FltM) (v:Nat):Int:=match F.pols[volP F v]? with | some x=>x.m | none=>0
def qOf(F:FltM) (v:Nat):Int:=match F.pols[volP F v]? with | some x=>x.q | none=>1
def PolAt(w:World) (F:FltM) (pb pof ob oof:Nat):Prop:=∀v,v<F.vols.length→volP F v<F.pols.length∧∃nm:ByteArray,w.rangeAt ob (oof+v * 2) [.string nm,.int .i64 (volP F v:Int)] ∧
 ∃a0 a4 a5 a6 a7 a8 a9 a10 a11 a12 a13 a14 a15 a16:Value,w.rangeAt pb (pof+volP F v * 17) [a0,.int .i64 (kOf F v),.int .i64 (mOf F v),.int .i64 (qOf F v),a4,a5,a6,a7,a8,a9,a10,a11,a12,a13,a14,a15,a16]∧(#[a0,.int .i64 (kOf F v),.int .i64 (mOf F v),.int .i64 (qOf F v),a4,a5,a6,a7,a8,a9,a10,a11,a12,a13,a14,a15,a16]:Array Value).all (·.oneCell')=true
theorem volP_lt{N:Nat} {F:FltM} (hok:FleetOk N F) {v:Nat} (hv:v<F.vols.length):volP F v<F.pols.length∧(F.vols[v]).pol=(volP F v:Int):=by
 obtain⟨-,-,p,h1,h2⟩:=hok.vols v F.vols[v] (List.getElem?_eq_getElem hv)
 have e:volP F v=p:=by unfold volP;rw[List.getElem?_eq_getElem hv];simp[h1]
 rw[e];exact⟨h2,h1⟩
theorem kmq_ok{N:Nat} {F:FltM} (hok:FleetOk N F) {v:Nat} (hv:v<F.vols.length):(kOf F v=1∨kOf F v=2)∧0≤mOf F v∧mOf F v≤2∧kOf F v≤qOf F v∧qOf F v≤kOf F v+mOf F v:=by
 have hp:=(volP_lt hok hv).1;obtain⟨-,-,h1,h2,h3,h4,h5,-⟩:=hok.pols (volP F v) F.pols[volP F v] (List.getElem?_eq_getElem hp);unfold kOf mOf qOf;rw[List.getElem?_eq_getElem hp];exact⟨h1,h2,h3,h4,h5⟩
theorem polAt{N:Nat} {F:FltM} {w:World} {R:Nat→Prop} {vl vm vd vv vp vo:Value} (hf:FleetS w R vl vm vd vv vp vo F) (hok:FleetOk N F) :
  ∃pb pof ob oof cp co,vp=.slice (some ⟨pb,pof,none⟩) F.pols.length cp∧vo=.slice (some ⟨ob,oof,none⟩) F.vols.length co∧R pb∧R ob∧PolAt w F pb pof ob oof:=by
 obtain⟨Ap,cp,rfl,-,-⟩:=hf.2.2.2.2.1.form;obtain⟨Ao,co,rfl,-,-⟩:=hf.2.2.2.2.2.form;obtain⟨pb,pof,cs0,rfl,hRp,-⟩:=hf.2.2.2.2.1.at_ (k:=0) (by have:=hok.pol1;omega);obtain⟨ob,oof,cs1,rfl,hRo,-⟩:=hf.2.2.2.2.2.at_ (k:=0) (by have:=hok.vol1;omega);refine⟨pb,pof,ob,oof,cp,co,rfl,rfl,hRp,hRo,fun v hv=>?_⟩;obtain⟨hp,hpe⟩:=volP_lt hok hv;refine⟨hp,F.vols[v].name,?_,?_⟩
 ·obtain⟨b,off,cs,e,-,-,hc,hcs⟩:=hf.2.2.2.2.2.at_ (k:=v) hv;injection e with e;injection e with e1 e2;subst e1 e2;unfold VolK at hcs;rw[hpe] at hcs;subst hcs;exact hc
 ·obtain⟨b,off,cs,e,-,-,hc,vm,vr,tn,td,hn,hd,hcs,k1,k2,k3,k4,k5,k6⟩:=hf.2.2.2.2.1.at_ (k:=volP F v) hp;injection e with e;injection e with e1 e2;subst e1 e2;obtain⟨A1,c1,rfl,-,-⟩:=k1.form7;obtain⟨A2,c2,rfl,-,-⟩:=k2.form;obtain⟨A3,N3,c3,rfl⟩:=k3.frm;obtain⟨A4,N4,c4,rfl⟩:=k4.frm;obtain⟨A5,N5,c5,rfl⟩:=k5.frm;obtain⟨A6,N6,c6,rfl⟩:=k6.frm;subst hcs
  have ek:kOf F v=F.pols[volP F v].k:=by unfold kOf;rw[List.getElem?_eq_getElem hp]
  have em:mOf F v=F.pols[volP F v].m:=by unfold mOf;rw[List.getElem?_eq_getElem hp]
  have eq:qOf F v=F.pols[volP F v].q:=by unfold qOf;rw[List.getElem?_eq_getElem hp]
  rw[ek,em,eq];exact⟨_,_,_,_,_,_,_,_,_,_,_,_,_,_,hc,by simp[Value.oneCell']⟩
theorem bel_take(xs:List Int) (n:Int) (j:Nat) (hj:j<xs.length):((xs.take (j+1)).filter (fun x=>decide (x<n))).length=((xs.take j).filter (fun x=>decide (x<n))).length+(if xs[j]<n then 1 else 0):=by
 rw[List.take_succ_eq_append_getElem hj,List.filter_append,List.length_append]
 congr 1
 by_cases h:xs[j]<n <;> simp[h]
theorem rbelow_any(v:Value) (xs:List Int) (n:Int) (R:Nat→Prop) (w:World) (h:IntS w R v xs) :
  Calls Tryz.prog 184 #[v,.int .i64 n] w fun e w'=>e=.returned (.int .i64 (((xs.filter (fun x=>decide (x<n))).length:Nat):Int))∧w=w':=by
 obtain⟨A,c,rfl,-,hm⟩:=h.form7;unfold maxLen at hm;have HS:=zh h
 have hle:=fun j=>List.length_filter_le (fun x=>decide (x<n)) (xs.take j)
 have HLE:=zh hle;obtain⟨L,hL⟩:=zx xs.length;rw[←hL] at HS hm ⊢;have HL:=zh hL
 obtain⟨cn,hcn⟩:∃f:Nat→Nat,f=fun j=>((xs.take j).filter (fun x=>decide (x<n))).length:=⟨_,rfl⟩
 have HT:=zh (fun j (hj:j<xs.length)=>(show cn (j+1)=cn j+(if xs[j]<n then 1 else 0) from by rw[hcn];exact bel_take xs n j hj))
 have h0:cn 0=0:=by rw[hcn];rfl
 have HC:=zh (fun j=>(show cn j≤j from by rw[hcn];exact Nat.le_trans (HLE.out j) (by rw[List.length_take];omega)));have HE:=zh (show cn xs.length=(xs.filter (fun x=>decide (x<n))).length from by rw[hcn];simp);rw[←HE.out];rw[←hL];clear h hle HLE hL hcn;go_enter Tryz.func184,Tryz.ntmps184;go_wp2_with fail;go_loopg [5,6] L (fun z v5 v6 wr=>w=wr∧∃j:Nat,j≤L∧z=L - j∧v5=.int .i64 (cn j:Int)∧v6=.int .i64 (j:Int))
 case atStart=>exact⟨rfl,0,by omega,rfl,by rw[h0];rfl,rfl⟩
 case round =>
  obtain⟨rfl,j,hj,rfl,rfl,rfl⟩:=hrel;by_cases hlt:j<L
  ·have hjl:j<xs.length:=by rw[←HL.out];exact hlt
   obtain⟨b,off,rfl,-,hc,-⟩:=HS.out.at7 (k:=j) hjl;have ht:=HT.out j hjl;have hcj:=HC.out j;obtain⟨x,hx⟩:=zx (xs[j]);rw[←hx] at hc ht;have HT2:=zh ht;by_cases hxn:x<n
   ·have HXN:=zh hxn;clear hx ht hjl h0;go_wp2_with fail;go_roundg (L - (j+1))
    case measure=>omega
    case rel=>exact⟨rfl,j+1,by omega,rfl,by rw[HT2.out,if_pos HXN.out];go_num,by go_num⟩
   ·have HXN:=zh hxn;clear hx ht hjl h0;go_wp2_with fail;go_roundg (L - (j+1))
    case measure=>omega
    case rel=>exact⟨rfl,j+1,by omega,rfl,by rw[HT2.out,if_neg (by have:=HXN.out;omega)];rfl,by go_num⟩
  ·obtain rfl:L=j:=by omega
   go_wp2_with fail;go_ret;exact⟨rfl,rfl⟩
theorem rpolicy_any(ext k m q:Int) (vl vm vd vv a0 a4 a5 a6 a7 a8 a9 a10 a11 a12 a13 a14 a15 a16:Value) (nm:ByteArray) (pb pof ob oof NP NO cp co v p:Nat) (w:World) (hv:v<NO) (hp:p<NP) (hno:NO≤1000) (hnp:NP≤1000)
  (hvol:w.rangeAt ob (oof+v * 2) [.string nm,.int .i64 (p:Int)]) (hpol:w.rangeAt pb (pof+p * 17) [a0,.int .i64 k,.int .i64 m,.int .i64 q,a4,a5,a6,a7,a8,a9,a10,a11,a12,a13,a14,a15,a16]) (hone:(#[a0,.int .i64 k,.int .i64 m,.int .i64 q,a4,a5,a6,a7,a8,a9,a10,a11,a12,a13,a14,a15,a16]:Array Value).all (·.oneCell')=true) :
  Calls Tryz.prog 132 #[.agg #[.int .i64 ext,vl,vm,vd,vv,.slice (some ⟨pb,pof,none⟩) NP cp,.slice (some ⟨ob,oof,none⟩) NO co],.int .i64 (v:Int)] w fun e w'=>e=.returned (.agg #[a0,.int .i64 k,.int .i64 m,.int .i64 q,a4,a5,a6,a7,a8,a9,a10,a11,a12,a13,a14,a15,a16])∧Below w.heap.size w w':=by
 obtain⟨W0,hW0⟩:=zx ((w.alloc (.cells #[.int .i64 ext,vl,vm,vd,vv,.slice (some ⟨pb,pof,none⟩) NP cp,.slice (some ⟨ob,oof,none⟩) NO co] 35)).alloc (.cells #[.string ⟨#[]⟩,.int .i64 0,.int .i64 0,.int .i64 0,.int .i64 0,.int .i64 0,.int .i64 0,.int .i64 0,.int .i64 0,.slice none 0 0,.slice none 0 0,.bool false,.slice none 0 0,.slice none 0 0,.bool false,.slice none 0 0,.slice none 0 0] 85));obtain⟨z,hz⟩:=zx w.heap.size;obtain⟨g,hg⟩:=zx (w.heap.size+1)
 have hb0:Below w.heap.size w W0:=by rw[hW0];exact((Below.refl _ _).alloc (Nat.le_refl _) _).alloc (by simp) _
 have hgk:W0.heap[g]?=some (.cells #[.string ⟨#[]⟩,.int .i64 0,.int .i64 0,.int .i64 0,.int .i64 0,.int .i64 0,.int .i64 0,.int .i64 0,.int .i64 0,.slice none 0 0,.slice none 0 0,.bool false,.slice none 0 0,.slice none 0 0,.bool false,.slice none 0 0,.slice none 0 0] 85 (0,0)):=by
  rw[hW0];exact heap_alloc_at _ _ _ (by rw[hg];simp)
 have hzk:W0.heap[z]?=some (.cells #[.int .i64 ext,vl,vm,vd,vv,.slice (some ⟨pb,pof,none⟩) NP cp,.slice (some ⟨ob,oof,none⟩) NO co] 35 (0,0)):=by
  rw[hW0,hz];exact(Below.heap_alloc _ _ _ (by simp)).trans (heap_alloc_new w _)
 have z5:W0.drew.cell? ⟨z,5,none⟩=some (.slice (some ⟨pb,pof,none⟩) NP cp):=by rw[cell_of_row W0.drew z 5 _ _ _ hzk];rfl
 have z6:W0.drew.cell? ⟨z,6,none⟩=some (.slice (some ⟨ob,oof,none⟩) NO co):=by rw[cell_of_row W0.drew z 6 _ _ _ hzk];rfl
 have hob:ob<w.heap.size:=World.block_lt_of_cell? w _ (hvol 0 _ rfl);have hpb:pb<w.heap.size:=World.block_lt_of_cell? w _ (hpol 0 _ rfl);have hv0:W0.drew.cell? ⟨ob,oof+v * 2+1,none⟩=some (.int .i64 (p:Int)):=(World.cell?_of_block (w:=w) (w':=W0.drew) (hb0.block ob hob)).trans (hvol 1 _ rfl);have hp0:W0.drew.rangeAt pb (pof+p * 17) [a0,.int .i64 k,.int .i64 m,.int .i64 q,a4,a5,a6,a7,a8,a9,a10,a11,a12,a13,a14,a15,a16]:=range_same hpol (hb0.block pb hpb);have HTH:=zh (show W0.drew.there g 0 17 from there_of_block (w:=W0.drew) (cs:=#[.string ⟨#[]⟩,.int .i64 0,.int .i64 0,.int .i64 0,.int .i64 0,.int .i64 0,.int .i64 0,.int .i64 0,.int .i64 0,.slice none 0 0,.slice none 0 0,.bool false,.slice none 0 0,.slice none 0 0,.bool false,.slice none 0 0,.slice none 0 0]) hgk (Nat.le_refl 17));have HS0:=zh (And.intro z5 (And.intro z6 (And.intro hv0 hp0)));have HON:=zh hone;have HW0:=zh hW0;have HG:=zh hg;have HGW:=zh (show w.heap.size≤g from by omega);have HQ:=zh hz;have HB0:=zh hb0
 have i1:(v:Int)<(NO:Int):=by omega
 have i2:(p:Int)<(NP:Int):=by omega
 clear hvol hpol hone hW0 hz hg hb0 hgk hzk z5 z6 hob hpb hv0 hp0 hv hp;go_enter Tryz.func132,Tryz.ntmps132;go_upto_region 1 with fail;rw[←HW0.out,←HG.out,←HQ.out];refine region_tail (S:=(fun w'=>w'.cell? ⟨z,5,none⟩=some (.slice (some ⟨pb,pof,none⟩) NP cp)∧w'.cell? ⟨z,6,none⟩=some (.slice (some ⟨ob,oof,none⟩) NO co)∧w'.cell? ⟨ob,oof+v * 2+1,none⟩=some (.int .i64 (p:Int))∧w'.rangeAt pb (pof+p * 17) [a0,.int .i64 k,.int .i64 m,.int .i64 q,a4,a5,a6,a7,a8,a9,a10,a11,a12,a13,a14,a15,a16])) [10] (by kernel_rfl) HS0.out (fun hHeld=>?_);refine tk 0 5 ?_;refine tk 1 6 ?_;refine tk 2 7 ?_;refine tk 3 8 ?_;refine tk 4 9 ?_;refine tk 5 10 ?_;refine tk 6 11 ?_;refine tk 7 12 ?_;refine tk 8 13 ?_;refine takeT (i:=9) (d:=14) (v:=(.agg #[a0,.int .i64 k,.int .i64 m,.int .i64 q,a4,a5,a6,a7,a8,a9,a10,a11,a12,a13,a14,a15,a16])) rfl rfl (by kernel_rfl) (by kernel_rfl) (by kernel_rfl) (by kernel_rfl) (fun _ _ _ h=>h) (yieldsIf_load_mid (by rfl) 85 (.tmp 13) rfl pb (pof+p * 17) (by rfl) [a0,.int .i64 k,.int .i64 m,.int .i64 q,a4,a5,a6,a7,a8,a9,a10,a11,a12,a13,a14,a15,a16] _ (fun w hw=>hw.2.2.2) Tryz.underlying85 rfl size_pol) (by assumption) ?_;(try simp only[Act.put,z1,z2,z3]);refine readyT (rs:=[10]) (by kernel_rfl) (by simp) ?_;refine AllReadyT.consT rfl rfl (fun K hK=>?_) ?_
 ·rw[if_pos (by rfl)];refine wp_store_mid 85 (.tmp 4) (.tmp 14) rfl g 0 #[a0,.int .i64 k,.int .i64 m,.int .i64 q,a4,a5,a6,a7,a8,a9,a10,a11,a12,a13,a14,a15,a16] (by rfl) (by rfl) HTH.out size_pol HON.out ?_;refine hK.out _ _ ?_;clear hK K;(try simp only[Act.put,z1,z2,z3]);refine doneT (by kernel_rfl) ?_ _;go_wp2_with fail;obtain⟨w5,hw5⟩:=zx (World.setCells W0.drew g 0 [a0,.int .i64 k,.int .i64 m,.int .i64 q,a4,a5,a6,a7,a8,a9,a10,a11,a12,a13,a14,a15,a16]);rw[←hw5]
  have hr5:w5.rangeAt g 0 [a0,.int .i64 k,.int .i64 m,.int .i64 q,a4,a5,a6,a7,a8,a9,a10,a11,a12,a13,a14,a15,a16]:=by rw[hw5];exact World.rangeAt_setCells_same _ _ _ _ HTH.out
  have hb5:Below w.heap.size w w5:=by rw[hw5];exact below_setCellsV HGW.out _ _ _ HB0.out.drew
  clear hw5 hHeld;have hld:=run_loadVar_mid (P:=Tryz.prog) w5 g 0 85 _ _ hr5 Tryz.underlying85 rfl size_pol;exact bodyPost_ret (v:=.agg #[a0,.int .i64 k,.int .i64 m,.int .i64 q,a4,a5,a6,a7,a8,a9,a10,a11,a12,a13,a14,a15,a16]) (results_cell _ 85 4 _ _ _ ⟨g,0,none⟩ Tryz.results132 (by rfl) hld) rfl ⟨rfl,hb5⟩
 exact AllReadyT.nil
def HeldC(W0:World) (y g:Nat) (a b c d e:Value) (w':World):Prop :=
 w'.cell? ⟨y,0,none⟩=some a∧w'.cell? ⟨y,1,none⟩=some b∧w'.cell? ⟨y,2,none⟩=some c∧w'.cell? ⟨g,1,none⟩=some d∧w'.cell? ⟨g,2,none⟩=some e∧Below W0.heap.size W0 w'
theorem HeldC.below{W0 wc w2:World} {y g:Nat} {a b c d e:Value} (h:HeldC W0 y g a b c d e wc) (hb:Below wc.heap.size wc w2) (h1:y<W0.heap.size) (h2:g<W0.heap.size):HeldC W0 y g a b c d e w2:=by
 obtain⟨c0,c1,c2,c3,c4,hB⟩:=h;have hs:=hB.size
 have k:∀i,w2.cell? ⟨y,i,none⟩=wc.cell? ⟨y,i,none⟩:=fun i=>hb.cell (p:=⟨y,i,none⟩) (Nat.lt_of_lt_of_le h1 hs)
 have k':∀i,w2.cell? ⟨g,i,none⟩=wc.cell? ⟨g,i,none⟩:=fun i=>hb.cell (p:=⟨g,i,none⟩) (Nat.lt_of_lt_of_le h2 hs)
 exact⟨(k _).trans c0,(k _).trans c1,(k _).trans c2,(k' _).trans c3,(k' _).trans c4,hB.trans (hb.mono hs)⟩
theorem HeldC.bl{W0 wc:World} {y g:Nat} {a b c d e:Value} (h:HeldC W0 y g a b c d e wc):Below W0.heap.size W0 wc:=h.2.2.2.2.2
theorem rcounts_any(ext k m q:Int) (vl vm vd vv vf vp0 vo0 va0 a0 a4 a5 a6 a7 a8 a9 a10 a11 a12 a13 a14 a15 a16:Value) (r:Re) (l:List Fd) (s:Int) (on:Bool) (nm:ByteArray) (pb pof ob oof NP NO cp co v p:Nat) (w:World) (hv:v<NO) (hp:p<NP) (hno:NO≤1000) (hnp:NP≤1000)
  (hvol:w.rangeAt ob (oof+v * 2) [.string nm,.int .i64 (p:Int)]) (hpol:w.rangeAt pb (pof+p * 17) [a0,.int .i64 k,.int .i64 m,.int .i64 q,a4,a5,a6,a7,a8,a9,a10,a11,a12,a13,a14,a15,a16]) (hone:(#[a0,.int .i64 k,.int .i64 m,.int .i64 q,a4,a5,a6,a7,a8,a9,a10,a11,a12,a13,a14,a15,a16]:Array Value).all (·.oneCell')=true)
  (hk:0≤k∧k≤2) (hm:0≤m∧m≤2) (h:ReS w (Bl w.heap.size) vp0 vo0 va0 r) (hl:SlS 7 FdK w (Bl w.heap.size) vf l) :
  Calls Tryz.prog 131 #[.agg #[.int .i64 ext,vl,vm,vd,vv,.slice (some ⟨pb,pof,none⟩) NP cp,.slice (some ⟨ob,oof,none⟩) NO co],.agg #[vp0,vo0,va0],vf,.int .i64 (v:Int),.int .i64 s,.bool on] w fun e w'=>e=.returned (.int .i64 (((intTo r l (v:Int) s on 8).filter (fun x=>decide (x<k+m))).length:Int))∧Below w.heap.size w w':=by
 have hob:ob<w.heap.size:=World.block_lt_of_cell? w _ (hvol 0 _ rfl);have hpb:pb<w.heap.size:=World.block_lt_of_cell? w _ (hpol 0 _ rfl);obtain⟨W0,hW0⟩:=zx ((w.alloc (.cells #[.int .i64 ext,vl,vm,vd,vv,.slice (some ⟨pb,pof,none⟩) NP cp,.slice (some ⟨ob,oof,none⟩) NO co] 35)).alloc (.cells #[vp0,vo0,va0] 40));obtain⟨z,hz⟩:=zx w.heap.size;obtain⟨y,hy⟩:=zx (w.heap.size+1)
 have hb0:Below w.heap.size w W0:=by rw[hW0];exact((Below.refl _ _).alloc (Nat.le_refl _) _).alloc (by simp) _
 have hyk:W0.heap[y]?=some (.cells #[vp0,vo0,va0] 40 (0,0)):=by
  rw[hW0];exact heap_alloc_at _ _ _ (by rw[hy];simp)
 have hzk:W0.heap[z]?=some (.cells #[.int .i64 ext,vl,vm,vd,vv,.slice (some ⟨pb,pof,none⟩) NP cp,.slice (some ⟨ob,oof,none⟩) NO co] 35 (0,0)):=by
  rw[hW0,hz];exact(Below.heap_alloc _ _ _ (by simp)).trans (heap_alloc_new w _)
 obtain⟨c0,c1,c2,c3,c4,c5,c6⟩:=cells7 hzk;obtain⟨d0,d1,d2,-⟩:=cells3 hyk;have hyl:y<W0.heap.size:=(Array.getElem?_eq_some_iff.1 hyk).1;have HD:=zh (And.intro d0 (And.intro d1 d2));have HYL:=zh hyl;have HPO:=zh (rpolicy_any ext k m q vl vm vd vv a0 a4 a5 a6 a7 a8 a9 a10 a11 a12 a13 a14 a15 a16 nm pb pof ob oof NP NO cp co v p W0 hv hp hno hnp (range_same hvol (hb0.block ob hob)) (range_same hpol (hb0.block pb hpb)) hone);have HRR:=zh (h.below hb0);have HLL:=zh (SlS.below fdK hl hb0);have HW0:=zh hW0;have HZ:=zh hz;have HY:=zh hy;have HB0:=zh hb0;have HON:=zh hone;obtain⟨k1,k2⟩:=hk;obtain⟨m1,m2⟩:=hm;have hkm:IntKind.i64.wrap (k+m)=k+m:=IntWalk.i64_in _ (by omega);clear hvol hpol hone hW0 hz hy hb0 hyk hzk hob hpb hv hp h hl d0 d1 d2 hyl;go_enter Tryz.func131,Tryz.ntmps131;go_wp2_with fail;rw[←HW0.out,←HY.out,←HZ.out];refine HPO.out.mono ?_;rintro e w1 ⟨rfl,hb1⟩;obtain⟨W2,hW2⟩:=zx ((w1.alloc (.cells #[.string ⟨#[]⟩,.int .i64 0,.int .i64 0,.int .i64 0,.int .i64 0,.int .i64 0,.int .i64 0,.int .i64 0,.int .i64 0,.slice none 0 0,.slice none 0 0,.bool false,.slice none 0 0,.slice none 0 0,.bool false,.slice none 0 0,.slice none 0 0] 85)).setCells w1.heap.size 0 [a0,.int .i64 k,.int .i64 m,.int .i64 q,a4,a5,a6,a7,a8,a9,a10,a11,a12,a13,a14,a15,a16]);obtain⟨g,hg⟩:=zx w1.heap.size;have hth:(w1.alloc (.cells #[.string ⟨#[]⟩,.int .i64 0,.int .i64 0,.int .i64 0,.int .i64 0,.int .i64 0,.int .i64 0,.int .i64 0,.int .i64 0,.slice none 0 0,.slice none 0 0,.bool false,.slice none 0 0,.slice none 0 0,.bool false,.slice none 0 0,.slice none 0 0] 85)).there w1.heap.size 0 17:=there_new (cs:=#[.string ⟨#[]⟩,.int .i64 0,.int .i64 0,.int .i64 0,.int .i64 0,.int .i64 0,.int .i64 0,.int .i64 0,.int .i64 0,.slice none 0 0,.slice none 0 0,.bool false,.slice none 0 0,.slice none 0 0,.bool false,.slice none 0 0,.slice none 0 0]) (heap_alloc_new w1 _) (Nat.le_refl 17)
 have hb2:Below w1.heap.size w1 W2:=by rw[hW2];exact below_setCellsV (Nat.le_refl _) _ _ _ ((Below.refl _ _).alloc (Nat.le_refl _) _)
 have hgr:W2.rangeAt g 0 [a0,.int .i64 k,.int .i64 m,.int .i64 q,a4,a5,a6,a7,a8,a9,a10,a11,a12,a13,a14,a15,a16]:=by rw[hW2,hg];exact World.rangeAt_setCells_same _ _ _ _ hth
 have hgl:g<W2.heap.size:=World.block_lt_of_cell? W2 _ (hgr 0 _ rfl);have hb02:Below W0.heap.size W0 W2:=hb1.trans (hb2.mono hb1.size)
 have my:∀i x,W0.cell? ⟨y,i,none⟩=some x→W2.drew.cell? ⟨y,i,none⟩=some x:=fun i x hx=>(hb02.cell (p:=⟨y,i,none⟩) HYL.out).trans hx
 have HS2:=zh (show HeldC W2 y g vp0 vo0 va0 (.int .i64 k) (.int .i64 m) W2.drew from⟨my _ _ HD.out.1,my _ _ HD.out.2.1,my _ _ HD.out.2.2,hgr 1 _ rfl,hgr 2 _ rfl,(Below.refl _ _).drew⟩);have HYG:=zh (show y<W2.heap.size∧g<W2.heap.size from⟨Nat.lt_of_lt_of_le HYL.out hb02.size,hgl⟩);have HIN:=zh (fun w' (hb:Below W2.heap.size W2 w')=>rintact_any vp0 vo0 va0 vf r l (v:Int) s on w' ((HRR.out.below hb02).below hb) (SlS.below fdK (SlS.below fdK HLL.out hb02) hb));have HTH:=zh hth;have HW2:=zh hW2;have HG:=zh hg;have HB2:=zh (HB0.out.trans (hb02.mono HB0.out.size));clear hW2 hg hth hb1 hb2 hgr hgl hb02 my c0 c1 c2 c3 c4 c5 c6;go_upto_region 2 with (refine wpList_store_mid rfl 85 (.tmp 13) (.tmp 16) rfl w1.heap.size 0 #[a0,.int .i64 k,.int .i64 m,.int .i64 q,a4,a5,a6,a7,a8,a9,a10,a11,a12,a13,a14,a15,a16] (by rfl) (by rfl) HTH.out size_pol HON.out ?_;rw[←HW2.out,←HG.out]);refine region_tail (S:=(fun w'=>w'.cell? ⟨y,0,none⟩=some vp0∧w'.cell? ⟨y,1,none⟩=some vo0∧w'.cell? ⟨y,2,none⟩=some va0∧w'.cell? ⟨g,1,none⟩=some (.int .i64 k)∧w'.cell? ⟨g,2,none⟩=some (.int .i64 m)∧Below W2.heap.size W2 w')) [] (by kernel_rfl) HS2.out (fun hHeld=>?_);refine tk 0 17 ?_;refine tk 1 18 ?_;refine tk 2 19 ?_;refine tk 3 20 ?_;refine tk 4 21 ?_;refine tk 6 23 ?_;refine tk 7 24 ?_;refine tk 8 25 ?_;refine tk 9 26 ?_;refine tk 10 27 ?_;refine readyT (rs:=[5]) (by kernel_rfl) (by simp) ?_;refine AllReadyT.cons rfl (fun K hK=>?_) ?_
 ·go_simp;(go_at_call 185;refine(HIN.out _ (HeldC.bl (by assumption))).mono ?_;rintro e w5 ⟨u,rfl,ho5,hb5⟩);go_wp2_with fail;refine hK.out _ _ ?_ (fun hHeld=>?_)
  ·(first|assumption|exact HeldC.below (by assumption) hb5 HYG.out.1 HYG.out.2)
  clear hK K;(try simp only[Act.put,z1,z2,z3]);refine readyT (rs:=[11]) (by kernel_rfl) (by simp) ?_;refine AllReadyT.cons rfl (fun K hK=>?_) ?_
  ·go_simp;(go_at_call 184;refine(rbelow_any u _ _ _ _ (ho5.intS (fun x hx=>by have:=intTo_mem x hx;unfold I64;omega))).mono ?_;rintro e w6 ⟨rfl,rfl⟩);go_wp2_with fail;refine hK.out _ _ ?_ (fun hHeld=>?_)
   ·(first|assumption|exact HeldC.below (by assumption) hb5 HYG.out.1 HYG.out.2)
   clear hK K;(try simp only[Act.put,z1,z2,z3]);refine tk 12 12 ?_;refine doneT (by kernel_rfl) ?_ _;have hbz:=HeldC.bl hHeld;go_wp2_with fail;go_ret;exact⟨rfl,HB2.out.trans (hbz.mono HB2.out.size)⟩
  exact AllReadyT.nil
 exact AllReadyT.nil
def keyC(x:Nat×Nat):List Value:=[.int .i64 (x.1:Int),.int .i64 (x.2:Int)]
def OwnKy(w:World) (base:Nat) (v:Value) (ks:List (Nat×Nat)):Prop:=w.ownsRow base 67 2 v ks.length (ks.flatMap keyC)
theorem info_ky:(Tryz.prog.info? 67).map (fun i=>(i.zero,i.size,i.bytes))=some (some (.agg #[.int .i64 0,.int .i64 0]),2,16):=by kernel_rfl
theorem OwnKy.nil(w:World) (base:Nat):OwnKy w base (.slice none 0 0) []:=World.ownsRow_nil _ _ _ _
theorem OwnKy.below{w w2:World} {base:Nat} {v:Value} {ks:List (Nat×Nat)} (h:OwnKy w base v ks) (hb:Below w.heap.size w w2):OwnKy w2 base v ks:=own_below h hb
theorem OwnKy.base{w:World} {B B':Nat} {v:Value} {ks:List (Nat×Nat)} (h:OwnKy w B v ks) (hB:B'≤B):OwnKy w B' v ks:=own_base h hB
theorem OwnKy.form{w:World} {base:Nat} {v:Value} {ks:List (Nat×Nat)} (h:OwnKy w base v ks):∃A c,v=.slice A ks.length c:=own_form h
theorem OwnKy.lt{w:World} {base:Nat} {v:Value} {ks:List (Nat×Nat)} (h:OwnKy w base v ks):∀b,v.ownBlock=some b→base≤b∧b<w.heap.size:=World.ownsRow.lt h
theorem app_ky{ops:Array Oper} {rest:List Oper} {o:Oper} {a:Act} {Q:Exit→Act→World→Prop} {w:World} (x0 x1:Nat) (s x:Operand) (hgd:o.guard=none) (ho:o.op=.call { callee:=.builtin .append,args:=#[s,x],argTypes:=#[64,64] })
  (base:Nat) (v:Value) (n:Nat) (ks:List (Nat×Nat)) (hlen:ks.length=n) (hs:a.eval s=v) (hown:w.ownsRow base 67 2 v n (ks.flatMap keyC))
  (hx:a.eval x=.slice (some ⟨w.heap.size,0,none⟩) 1 1) (hn:n+1≤16777216) (hbase:base≤w.heap.size)
  (h:∀v' w',OwnKy w' base v' (ks++[(x0,x1)])→w.grownBy w' v.ownBlock→(v'.ownBlock=v.ownBlock∨v'.ownBlock=some (w.heap.size+1))→wpList Tryz.prog ops Q rest (a.put o.dst v') w') :
  wpList Tryz.prog ops Q (o :: rest) a (w.alloc (.cells #[.int .i64 (x0:Int),.int .i64 (x1:Int)] 67)):=by
 obtain⟨i0,hi0,hz0,hz1,hz2⟩:=info_parts info_ky;refine wpList_append1 hgd s x _ ho base i0 _ 2 16 Tryz.underlying64 hi0 hz0 hz1 hz2 rfl (by omega) (by omega) v n (ks.flatMap keyC) hs hown hx rfl (fun u hu=>?_) hn hbase (fun v' w' h1 h2 h3=>h v' w' ?_ h2 h3)
 ·simp at hu;rcases hu with rfl | rfl <;> rfl
 ·unfold OwnKy;rw[List.length_append,List.length_singleton,hlen,List.flatMap_append]
  simpa[keyC] using h1
def KyK(w:World) (R:Nat→Prop) (cs:List Value) (x:Nat×Nat):Prop:=cs=keyC x
theorem flat_ky:∀(ks:List (Nat×Nat)) (k:Nat) (x:Nat×Nat),ks[k]?=some x→∀i c,(keyC x)[i]?=some c→(ks.flatMap keyC)[k * 2+i]?=some c
 | [],k,f,h=>by simp at h
 | x :: r,0,f,h=>by
  simp at h;subst h;intro i c hc;have hi:i<(keyC x).length:=(List.getElem?_eq_some_iff.1 hc).1;rw[List.flatMap_cons,Nat.zero_mul,Nat.zero_add,List.getElem?_append_left hi];exact hc
 | x :: r,k+1,f,h=>by
  intro i c hc;have hl:(keyC x).length=2:=rfl;rw[List.flatMap_cons,List.getElem?_append_right (by rw[hl];omega),hl];have:=flat_ky r k f (by simpa using h) i c hc;rw[←this]
  congr 1
  omega
theorem OwnKy.slS{w:World} {base:Nat} {v:Value} {ks:List (Nat×Nat)} (h:OwnKy w base v ks):SlS 2 KyK w (Fr base w.heap.size) v ks:=by
 have h1:w.ownsRow base 67 2 v ks.length (ks.flatMap keyC):=h
 have hc:=fun g=>h1.cells (g:=g)
 have hlt:=h1.lt;rcases h1.2 with ⟨rfl,h0⟩ | ⟨g,cap,cur,rfl,_,_,h2,h3,_⟩
 ·unfold SlS;rw[h0];exact Row.nil _ _ _
 ·refine⟨_,cap,rfl,h2,Nat.le_trans h2 h3,fun _=>⟨g,0,rfl,hlt g rfl,fun k f hf=>⟨keyC f,rfl,fun i c hi=>?_,rfl⟩⟩⟩
  have e1:∀j,(⟨g,0,none⟩:Addr).add j=⟨g,0+j,none⟩:=fun j=>by unfold Addr.add;split <;> simp_all
  rw[Nat.add_assoc,←e1];exact hc g rfl _ _ (flat_ky ks k f hf i c hi)
theorem two_ky{cs:List Value} {x:Nat×Nat} {w:World} {p o:Nat} (h:∀i c,cs[i]?=some c→w.cell? ⟨p,o+i,none⟩=some c) (e:cs=keyC x) :
  w.cell? ⟨p,o,none⟩=some (.int .i64 (x.1:Int))∧w.cell? ⟨p,o+1,none⟩=some (.int .i64 (x.2:Int)):=by
 subst e;exact⟨h 0 _ rfl,h 1 _ rfl⟩

def cntI(r:Re) (v s:Nat) (on:Bool) (n:Int):Int:=(((intI r (v:Int) (s:Int) on).filter (fun x=>decide (x<n))).length:Int)
def keyP(F:FltM) (r:Re) (cond:Int→Int→Int→Bool) (x:Nat×Nat):Bool :=
 (verOf r.acks (x.1:Int) (x.2:Int)).isSome&&cond (cntI r x.1 x.2 false (kOf F x.1+mOf F x.1)) (cntI r x.1 x.2 true (kOf F x.1+mOf F x.1)) (kOf F x.1)
def keyL(F:FltM) (r:Re) (cond:Int→Int→Int→Bool) (ext v s:Nat):List (Nat×Nat):=(keysTo ext v s).filter (keyP F r cond)
theorem keyL_succ(F:FltM) (r:Re) (cond:Int→Int→Int→Bool) (ext v s:Nat):keyL F r cond ext v (s+1)=keyL F r cond ext v s++(if keyP F r cond (v,s)=true then [(v,s)] else []):=by
 unfold keyL;rw[keysTo_succ,List.filter_append]
 congr 1
 by_cases h:keyP F r cond (v,s)=true <;> simp[h]
theorem keysTo_len(ext v s:Nat):(keysTo ext v s).length=v * ext+s:=by
 have h:∀v,((List.range v).flatMap (fun v=>(List.range ext).map fun s=>(v,s))).length=v * ext:=by
  intro v
  induction v with
  | zero=>simp
  | succ v ih=>rw[List.range_succ,List.flatMap_append,List.length_append,ih];simp[Nat.succ_mul]
 unfold keysTo;rw[List.length_append,h];simp
theorem keyL_len(F:FltM) (r:Re) (cond:Int→Int→Int→Bool) (ext v s:Nat):(keyL F r cond ext v s).length≤v * ext+s:=by
 rw[←keysTo_len];exact List.length_filter_le _ _
theorem drewN_heapV(w:World) (k:Nat):(w.drewN k).heap=w.heap:=by
 induction k generalizing w with
 | zero=>rfl
 | succ k ih=>exact ih _
theorem rtimes_any(va vb:Value) (n m:Nat) (w:World) (ha:LS w (Bl w.heap.size) va (natL n)) (hb:LS w (Bl w.heap.size) vb (natL m)) (hm:0<m) (hnm:n * m<4294967296) :
  Calls Tryz.prog 260 #[va,vb] w fun e w'=>∃u,e=.returned u∧OwnL w' w.heap.size u (natL (n * m))∧Below w.heap.size w w':=by
 have hm32:=hb.lt32;have hn32:=ha.lt32
 have lm:(natL m).length=1:=by rw[natL_pos hm];rfl
 obtain⟨B,d,rfl,-,-⟩:=hb.form;obtain⟨-,-,-,-,hd0,-⟩:=hb.cap (by rw[lm];omega);rw[lm] at hb hd0 ⊢
 have hd1:(1:Int)≤(d:Int):=by omega
 obtain⟨b2,o2,rfl,hR2,hc2⟩:=hb.one hm;have HC2:=zh hc2;have HR2:=zh hR2;have hmk1:=mk_u32s1;have hmk2:=mk_u32s2;clear hb lm hc2 hR2 hd0;rcases Nat.eq_zero_or_pos n with h0 | h0
 ·subst h0;obtain⟨A,c,rfl,-,-⟩:=ha.form;rw[show(natL 0).length=0 from rfl] at ha ⊢;obtain⟨W3,hW3⟩:=zx (w.alloc (.cells #[.int .u32 0] 97));obtain⟨g,hg⟩:=zx w.heap.size
  have hg3:W3.heap[g]?=some (.cells #[.int .u32 0] 97 (0,0)):=by rw[hW3,hg];exact heap_alloc_new _ _
  have hgl:g<W3.heap.size:=(Array.getElem?_eq_some_iff.1 hg3).1;have HB3:=zh (show Below w.heap.size w W3 from by rw[hW3];exact(Below.refl _ _).alloc (Nat.le_refl _) _);have hls:LS W3 (Bl W3.heap.size) (.slice (some ⟨g,0,none⟩) 1 1) [0]:=LS.cell1 W3 g 0 (by omega) hg3 _ hgl;have HT:=zh (trim_any _ _ _ W3 hls (fun _ h=>h) (by simp));rw[show trimL [0]=[] from rfl] at HT;have HW3:=zh hW3;have HGW:=zh hg;clear hg3 hgl hls hW3 hg ha;go_enter Tryz.func260,Tryz.ntmps260;go_upto_region 2 with fail;rw[←HGW.out,←HW3.out];clear hmk1 hmk2;go_wp2_with fail;go_loopg [6] 0 (fun z v6 wr=>v6=.int .i64 0∧W3=wr)
  case atStart=>exact⟨rfl,rfl⟩
  case round =>
   obtain⟨rfl,rfl⟩:=hrel;go_wp2_with fail;refine HT.out.mono ?_;rintro e w4 ⟨u,rfl,hO,hb4⟩;have HO:=zh (hO.base (B':=w.heap.size) HB3.out.size);have HB4:=zh (HB3.out.trans (hb4.mono HB3.out.size));clear hO hb4;go_wp2_with fail;go_ret;exact⟨_,rfl,by rw[Nat.zero_mul];exact HO.out,HB4.out⟩
 ·have ln:(natL n).length=1:=by rw[natL_pos h0];rfl
  obtain⟨A,c,rfl,-,-⟩:=ha.form;obtain⟨-,-,-,-,hc0,-⟩:=ha.cap (by rw[ln];omega);rw[ln] at ha hc0 ⊢
  have hc1:(1:Int)≤(c:Int):=by omega
  obtain⟨b1,o1,rfl,hR1,hk1⟩:=ha.one h0;have HC1:=zh hk1;have HR1:=zh hR1;clear ha ln hc0 hk1 hR1;obtain⟨W3,hW3⟩:=zx (w.alloc (.cells #[.int .u32 0,.int .u32 0] 97));obtain⟨g,hg⟩:=zx w.heap.size
  have hg3:W3.heap[g]?=some (.cells #[.int .u32 0,.int .u32 0] 97 (0,0)):=by rw[hW3,hg];exact heap_alloc_new _ _
  have hgl:g<W3.heap.size:=(Array.getElem?_eq_some_iff.1 hg3).1;have HB3:=zh (show Below w.heap.size w W3 from by rw[hW3];exact(Below.refl _ _).alloc (Nat.le_refl _) _);have HG:=zh (show w.heap.size≤g from by rw[hg];exact Nat.le_refl _);have k1:W3.cell? ⟨b1,o1,none⟩=some (.int .u32 (n:Int)):=(HB3.out.cell (p:=⟨b1,o1,none⟩) HR1.out).trans HC1.out;have k2:W3.cell? ⟨b2,o2,none⟩=some (.int .u32 (m:Int)):=(HB3.out.cell (p:=⟨b2,o2,none⟩) HR2.out).trans HC2.out
  have kg0:W3.cell? ⟨g,0,none⟩=some (.int .u32 0):=by rw[cell_of_row _ _ _ _ _ _ hg3];rfl
  have kg1:W3.cell? ⟨g,1,none⟩=some (.int .u32 0):=by rw[cell_of_row _ _ _ _ _ _ hg3];rfl
  have kf0:W3.frozen? ⟨g,0,none⟩=false:=frozen_of_row _ _ _ _ _ hg3;have kf1:W3.frozen? ⟨g,1,none⟩=false:=frozen_of_row _ _ _ _ _ hg3
  have e1:b1≠g:=by have:=HR1.out;have:=HG.out;unfold Bl at *;omega
  have e2:b2≠g:=by have:=HR2.out;have:=HG.out;unfold Bl at *;omega
  have HG3:=zh hg3;have HW3:=zh hW3;have HGW:=zh hg
  have n0:(0:Int)≤(n:Int):=by omega
  have n1:(n:Int)<4294967296:=by omega
  have m0:(0:Int)≤(m:Int):=by omega
  have m1:(m:Int)<4294967296:=by omega
  have hmul:=mul32 n m hnm;obtain⟨NM,hNM⟩:=zx (n * m);rw[←hNM] at hmul hnm
  have q0:(0:Int)≤(NM:Int):=by omega
  have q1:(NM:Int)<4294967296:=by omega
  have HNM:=zh hNM
  have hdiv:(NM:Int) / 4294967296=0:=by omega
  clear hg3 hW3 hg hNM;go_enter Tryz.func260,Tryz.ntmps260;go_upto_region 2 with fail;rw[←HGW.out,←HW3.out];clear hmk1 hmk2;go_wp2_with fail;go_loopg [6,7,8,9] 1 (fun z v6 v7 v8 v9 wr=>(z=1∧v6=.int .i64 0∧W3=wr)∨(z=0∧v6=.int .i64 1∧Hid (wr.heap[g]?=some (.cells #[.int .u32 (NM:Int),.int .u32 0] 97 (0,0)))∧Hid (Below w.heap.size w wr)))
  case atStart=>exact .inl ⟨rfl,rfl,rfl⟩
  case round =>
   rcases hrel with ⟨rfl,rfl,rfl⟩ | ⟨rfl,rfl,hgc,hbr⟩
   ·go_wp2_with fail;go_loopg [7,8,9] 1 (fun z v7 v8 v9 wr=>(z=1∧v8=.int .i64 0∧v7=.int .u64 0∧W3=wr)∨(z=0∧v8=.int .i64 1∧v7=.int .u64 0∧Hid (wr.heap[g]?=some (.cells #[.int .u32 (NM:Int),.int .u32 0] 97 (0,0)))∧Hid (Below w.heap.size w wr)))
    case atStart=>exact .inl ⟨rfl,rfl,rfl,rfl⟩
    case round =>
     rcases hrel with ⟨rfl,rfl,rfl,rfl⟩ | ⟨rfl,rfl,rfl,hg4,hb4⟩
     ·go_wp2_with fail
      go_quiet (fail)
      obtain⟨W5,hW5⟩:=zx (W3.drewN nq);rw[←hW5]
      have hg5:W5.heap[g]?=some (.cells #[.int .u32 0,.int .u32 0] 97 (0,0)):=by rw[hW5,drewN_heapV];exact HG3.out
      have HB5:=zh (show Below w.heap.size w W5 from by rw[hW5];exact Below.drewN' HB3.out nq);have HG5:=zh hg5
      have kg5:W5.cell? ⟨g,0,none⟩=some (.int .u32 0):=by rw[cell_of_row _ _ _ _ _ _ hg5];rfl
      have kf5:W5.frozen? ⟨g,0,none⟩=false:=frozen_of_row _ _ _ _ _ hg5;clear hW5 hg5 kg0 kg1 kf0 kf1 k1 k2;go_wp2_with fail;go_roundg 0
      case measure=>omega
      case rel=>exact .inr ⟨rfl,rfl,rfl,heap_setCell_same W5 g 0 _ _ _ HG5.out,HB5.out.setCell HG.out _⟩
     ·have kg4:wr.cell? ⟨g,1,none⟩=some (.int .u32 0):=by rw[cell_of_row _ _ _ _ _ _ hg4.out];rfl
      have kf4:wr.frozen? ⟨g,1,none⟩=false:=frozen_of_row _ _ _ _ _ hg4.out;clear kg0 kg1 kf0 kf1 k1 k2;go_wp2_with fail;go_roundg 0
      case measure=>omega
      case rel=>exact .inr ⟨rfl,rfl,heap_setCell_same wr g 1 _ _ _ hg4.out,hb4.out.setCell HG.out _⟩
   ·have hgl:g<wr.heap.size:=(Array.getElem?_eq_some_iff.1 hgc.out).1;have hls:LS wr (Bl wr.heap.size) (.slice (some ⟨g,0,none⟩) 2 2) [NM,0]:=LS.cell2 wr g NM (by omega) hgc.out _ hgl;have HT:=zh (trim_any _ _ _ wr hls (fun _ h=>h) (by simp));rw[trim_two] at HT;have HBR:=zh hbr.out;clear hls hgc hbr hgl k1 k2 kg0 kg1 kf0 kf1;go_wp2_with fail;refine HT.out.mono ?_;rintro e w4 ⟨u,rfl,hO,hb4⟩;have HO:=zh (hO.base (B':=w.heap.size) HBR.out.size);have HB4:=zh (HBR.out.trans (hb4.mono HBR.out.size));clear hO hb4;go_wp2_with fail;go_ret;exact⟨_,rfl,by rw[←HNM.out];exact HO.out,HB4.out⟩
theorem rmul_any(va vb:Value) (n m:Nat) (w:World) (ha:LS w (Bl w.heap.size) va (natL n)) (hb:LS w (Bl w.heap.size) vb (natL m)) (hm:0<m) (hnm:n * m<4294967296) :
  Calls Tryz.prog 250 #[va,vb] w fun e w'=>∃u,e=.returned (.tuple #[u,.int .i64 0])∧OwnL w' w.heap.size u (natL (n * m))∧Below w.heap.size w w':=by
 have HN:=zh ha.lt32;have HM:=zh hb.lt32;have HL1:=zh (rlarge_any va _ _ w ha (fun _ h=>h) (by have:=natL_length n;omega));have HA:=zh ha;have HB:=zh hb;have HM0:=zh hm;have HNM:=zh hnm;clear ha hb hm hnm;go_enter Tryz.func250,Tryz.ntmps250;go_wp2_with fail;refine HL1.out.mono ?_;rintro e w1 ⟨rfl,hb1⟩;have HB1:=zh hb1;have HL2:=zh (rlarge_any vb _ _ w1 (HB.out.below hb1) (fun _ h=>h) (by have:=natL_length m;omega));clear hb1;go_wp2_with fail;refine HL2.out.mono ?_;rintro e w2 ⟨rfl,hb2⟩;have HB2:=zh (HB1.out.trans (hb2.mono HB1.out.size));have HT1:=zh (trim_any va _ _ w2 (HA.out.below HB2.out) (fun _ h=>h) (by have:=natL_length n;omega));clear hb2;go_wp2_with fail;refine HT1.out.mono ?_;rintro e w3 ⟨u1,rfl,ho1,hb3⟩;rw[trim_natL] at ho1;have HO1:=zh ho1;have HB3:=zh (HB2.out.trans (hb3.mono HB2.out.size));have HT2:=zh (trim_any vb _ _ w3 (HB.out.below HB3.out) (fun _ h=>h) (by have:=natL_length m;omega));clear ho1 hb3;go_wp2_with fail;refine HT2.out.mono ?_;rintro e w4 ⟨u2,rfl,ho2,hb4⟩;rw[trim_natL] at ho2;have HB4:=zh (HB3.out.trans (hb4.mono HB3.out.size));have HT:=zh (rtimes_any u1 u2 n m w4 ((HO1.out.below hb4).lsBl (natL_mem HN.out)) (ho2.lsBl (natL_mem HM.out)) HM0.out HNM.out);clear ho2 hb4;go_wp2_with fail;refine HT.out.mono ?_;rintro e w5 ⟨u,rfl,ho,hb5⟩;have HB5:=zh (HB4.out.trans (hb5.mono HB4.out.size));have HO:=zh ho;have HL3:=zh (rlarge_any u _ _ w5 (ho.lsBl (natL_mem HNM.out)) (fun _ h=>h) (by have:=natL_length (n * m);omega));clear ho hb5;go_wp2_with fail;refine HL3.out.mono ?_;rintro e w6 ⟨rfl,hb6⟩;have HO6:=zh ((HO.out.below hb6).base (B':=w.heap.size) HB4.out.size);have HB6:=zh (HB5.out.trans (hb6.mono HB5.out.size));clear hb6;go_wp2_with fail;go_ret2;exact⟨_,rfl,HO6.out,HB6.out⟩
theorem rtm_any(va vb:Value) (n m:Nat) (w:World) (ha:LS w (Bl w.heap.size) va (natL n)) (hb:LS w (Bl w.heap.size) vb (natL m)) (hm:0<m) (hnm:n * m<4294967296) :
  Calls Tryz.prog 226 #[va,vb] w fun e w'=>∃u,e=.returned u∧OwnL w' w.heap.size u (natL (n * m))∧Below w.heap.size w w':=by
 have HM:=zh (rmul_any va vb n m w ha hb hm hnm);clear ha hb hm hnm;go_enter Tryz.func226,Tryz.ntmps226;go_wp2_with fail;refine HM.out.mono ?_;rintro e w1 ⟨u,rfl,ho,hb⟩;have HO:=zh ho;clear ho;go_wp2_with fail;go_ret;exact⟨_,rfl,HO.out,hb⟩
theorem lowF_one{n m:Nat} (h:Nat.gcd n m=1):lowF false n m=⟨false,n,m⟩:=by
 unfold lowF;split
 ·rename_i h0;subst h0;rw[Nat.gcd_zero_left] at h;rw[h]
 ·rw[h,Nat.div_one,Nat.div_one]
theorem rlow1_any(va vb:Value) (n m:Nat) (w:World) (ha:LS w (Bl w.heap.size) va (natL n)) (hb:LS w (Bl w.heap.size) vb (natL m)) (hm:0<m) (hg:Nat.gcd n m=1) :
  Calls Tryz.prog 169 #[.bool false,va,vb] w fun e w'=>∃un um,e=.returned (.agg #[.bool false,un,um])∧LS w' (Fr w.heap.size w'.heap.size) un (natL n)∧LS w' (Fr w.heap.size w'.heap.size) um (natL m)∧Below w.heap.size w w':=by
 refine(rlowest_any false va vb n m w ha hb hm).mono ?_;rintro e w' ⟨v,rfl,⟨un,um,rfl,h1,h2⟩,h3⟩;rw[lowF_one hg] at h1 h2 ⊢;exact⟨un,um,rfl,h1,h2,h3⟩
theorem rvalid_any(neg:Bool) (va vb:Value) (n m:Nat) (w:World) (ha:LS w (Bl w.heap.size) va (natL n)) (hb:LS w (Bl w.heap.size) vb (natL m)) (hm:0<m) :
  Calls Tryz.prog 125 #[.agg #[.bool neg,va,vb]] w fun e w'=>e=.returned (.bool true)∧Below w.heap.size w w':=by
 obtain⟨An,Nn,cn,rfl⟩:=ha.frm;obtain⟨Ad,Nd,cd,rfl⟩:=hb.frm;obtain⟨W0,hW0⟩:=zx (w.alloc (.cells #[.bool neg,.slice An Nn cn,.slice Ad Nd cd] 83));obtain⟨q,hq⟩:=zx w.heap.size
 have hb0:Below w.heap.size w W0:=by rw[hW0];exact(Below.refl _ _).alloc (Nat.le_refl _) _
 have hqk:W0.heap[q]?=some (.cells #[.bool neg,.slice An Nn cn,.slice Ad Nd cd] 83 (0,0)):=by rw[hW0,hq];exact heap_alloc_new _ _
 have hql:q<W0.heap.size:=(Array.getElem?_eq_some_iff.1 hqk).1;have HC:=zh (fun(w':World) (hb:Below W0.heap.size W0 w')=>cells3 ((hb.block q hql).trans hqk));have HA:=zh (fun(w':World) (hb:Below W0.heap.size W0 w')=>trim_any _ _ _ w' ((ha.below hb0).below hb) (fun _ h=>h) (by have:=natL_length n;omega));have HB:=zh (fun(w':World) (hb':Below W0.heap.size W0 w')=>trim_any _ _ _ w' ((hb.below hb0).below hb') (fun _ h=>h) (by have:=natL_length m;omega));rw[trim_natL] at HA HB
 have hL:(natL m).length=1:=by rw[natL_pos hm];rfl
 have HL:=zh hL;have HN:=zh (natL_length n);have HW0:=zh hW0;have HQ:=zh hq;have HB0:=zh hb0;obtain⟨c0,c1,c2,-⟩:=HC.out W0 (Below.refl _ _);clear ha hb hW0 hq hb0 hqk hql hL;go_enter Tryz.func125,Tryz.ntmps125;go_wp2_with fail;rw[←HW0.out,←HQ.out];refine(HB.out W0 (Below.refl _ _)).mono ?_;rintro e w1 ⟨u1,rfl,ho1,hb1⟩
 obtain⟨A1,k1,rfl⟩:∃A c,u1=.slice A 1 c:=by obtain⟨A,c,e⟩:=own_form ho1;exact⟨A,c,by rw[e,HL.out]⟩
 have HB1:=zh hb1;clear c0 c1 c2 ho1 hb1;obtain⟨c0,c1,c2,-⟩:=HC.out w1 HB1.out;go_wp2_with fail;refine(HB.out w1 HB1.out).mono ?_;rintro e w2 ⟨u1,rfl,ho1,hb1⟩
 obtain⟨A2,k2,rfl⟩:∃A c,u1=.slice A 1 c:=by obtain⟨A,c,e⟩:=own_form ho1;exact⟨A,c,by rw[e,HL.out]⟩
 have HB2:=zh (HB1.out.trans (hb1.mono HB1.out.size));clear c0 c1 c2 ho1 hb1;obtain⟨c0,c1,c2,-⟩:=HC.out w2 HB2.out;go_wp2_with fail;refine(HA.out w2 HB2.out).mono ?_;rintro e w3 ⟨u1,rfl,ho1,hb1⟩
 obtain⟨A3,L,k3,hL,rfl⟩:∃A L c,L≤1∧u1=.slice A L c:=by obtain⟨A,c,e⟩:=own_form ho1;exact⟨A,_,c,HN.out,e⟩
 have HB3:=zh (HB2.out.trans (hb1.mono HB2.out.size));have hL2:decide ((L:Int)≤128)=true:=decide_eq_true (by omega)
 have hL3:(L:Int)≤128:=by omega
 clear c0 c1 c2 ho1 hb1;go_wp2_with fail;go_ret;exact⟨rfl,HB0.out.trans (HB3.out.mono HB0.out.size)⟩
theorem rreduce_any(va vb:Value) (n m:Nat) (w:World) (ha:LS w (Bl w.heap.size) va (natL n)) (hb:LS w (Bl w.heap.size) vb (natL m)) (hm:0<m) (hg:Nat.gcd n m=1) :
  Calls Tryz.prog 181 #[.agg #[.bool false,va,vb]] w fun e w'=>∃un um,e=.returned (.tuple #[.agg #[.bool false,un,um],.int .i64 0])∧LS w' (Fr w.heap.size w'.heap.size) un (natL n)∧LS w' (Fr w.heap.size w'.heap.size) um (natL m)∧Below w.heap.size w w':=by
 obtain⟨An,Nn,cn,rfl⟩:=ha.frm;obtain⟨Ad,Nd,cd,rfl⟩:=hb.frm;obtain⟨W0,hW0⟩:=zx ((w.alloc (.cells #[.bool false,.slice An Nn cn,.slice Ad Nd cd] 83)).alloc (.cells #[.bool false,.slice none 0 0,.slice none 0 0] 83));obtain⟨q,hq⟩:=zx w.heap.size;obtain⟨g,hgq⟩:=zx (w.heap.size+1)
 have hb0:Below w.heap.size w W0:=by rw[hW0];exact((Below.refl _ _).alloc (Nat.le_refl _) _).alloc (by simp) _
 have hbk:W0.heap[g]?=some (.cells #[.bool false,.slice none 0 0,.slice none 0 0] 83 (0,0)):=by
  have h0:=heap_alloc_new (w.alloc (.cells #[.bool false,.slice An Nn cn,.slice Ad Nd cd] 83)) (.cells #[.bool false,.slice none 0 0,.slice none 0 0] 83);rw[show(w.alloc (.cells #[.bool false,.slice An Nn cn,.slice Ad Nd cd] 83)).heap.size=g by rw[hgq];simp] at h0;rw[hW0];exact h0
 have hqk:W0.heap[q]?=some (.cells #[.bool false,.slice An Nn cn,.slice Ad Nd cd] 83 (0,0)):=by
  rw[hW0,hq];exact(Below.heap_alloc _ _ _ (by simp)).trans (heap_alloc_new w _)
 have hgl:g<W0.heap.size:=(Array.getElem?_eq_some_iff.1 hbk).1;have hql:q<W0.heap.size:=(Array.getElem?_eq_some_iff.1 hqk).1;obtain⟨c0,c1,c2,-⟩:=cells3 hqk;have HA0:=zh (ha.below hb0);have HBV:=zh (hb.below hb0);have HV:=zh (rvalid_any false _ _ n m W0 HA0.out HBV.out hm);have HW0:=zh hW0;have HGQ:=zh (show q=w.heap.size∧g=w.heap.size+1 from⟨hq,hgq⟩);have HB0:=zh hb0;have HBK:=zh hbk;have HGL:=zh hgl;have HQL:=zh hql;clear ha hb hW0 hb0 hbk hgl hql hqk hgq hq;go_enter Tryz.func181,Tryz.ntmps181;go_wp2_with fail;rw[←HW0.out,←HGQ.out.2,←HGQ.out.1];refine HV.out.mono ?_;rintro e w1 ⟨rfl,hb1⟩;have k0:w1.cell? ⟨q,0,none⟩=some (.bool false):=(hb1.cell (p:=⟨q,0,none⟩) HQL.out).trans c0;have k1:w1.cell? ⟨q,1,none⟩=some (.slice An Nn cn):=(hb1.cell (p:=⟨q,1,none⟩) HQL.out).trans c1;have k2:w1.cell? ⟨q,2,none⟩=some (.slice Ad Nd cd):=(hb1.cell (p:=⟨q,2,none⟩) HQL.out).trans c2;have HL:=zh (rlow1_any _ _ n m w1 (HA0.out.below hb1) (HBV.out.below hb1) hm hg);have HB1:=zh hb1;clear hb1 c0 c1 c2;go_wp2_with fail;refine HL.out.mono ?_;rintro e w2 ⟨un,um,rfl,hun,hum,hb2⟩;obtain⟨A1,N1,c1,rfl⟩:=hun.frm;obtain⟨A2,N2,c2,rfl⟩:=hum.frm;have hb12:=HB1.out.trans (hb2.mono HB1.out.size);have hk:=(hb12.block g HGL.out).trans HBK.out;obtain⟨l0,l1,l2,f0,f1,f2⟩:=cells3 hk;have hbw:=HB0.out.trans (hb12.mono HB0.out.size)
 have hgw:w.heap.size≤g:=by rw[HGQ.out.2];omega
 have hs0:=HB0.out.size;have hs1:=HB1.out.size;have HX:=zh (box3 hk hbw hgw (.bool false) (.slice A1 N1 c1) (.slice A2 N2 c2) hun (fun b hb=>⟨by have:=hb.1;have:=HGL.out;omega,by have:=hb.1;omega,hb.2⟩) hum (fun b hb=>⟨by have:=hb.1;have:=HGL.out;omega,by have:=hb.1;omega,hb.2⟩));clear hun hum hb2 hb12 hk hbw hgw hs0 hs1 k0 k1 k2;go_wp2_with fail;obtain⟨Wf,hWf⟩:=zx (((w2.setCell ⟨g,0,none⟩ (.bool false)).setCell ⟨g,1,none⟩ (.slice A1 N1 c1)).setCell ⟨g,2,none⟩ (.slice A2 N2 c2));obtain⟨x0,x1,x2,hl1,hl2,hbf⟩:=HX.out Wf hWf;rw[←hWf];clear hWf l0 l1 l2 f0 f1 f2;exact bodyPost_ret (v:=.tuple #[.agg #[.bool false,.slice A1 N1 c1,.slice A2 N2 c2],.int .i64 0]) (by simp[results,Tryz.results181,go_sem,x0,x1,x2]) rfl ⟨_,_,rfl,hl1,hl2,hbf⟩
theorem rfrac1_any(n:Nat) (w:World) (hn:n<4294967296) :
  Calls Tryz.prog 117 #[.int .i64 (n:Int),.int .i64 1] w fun e w'=>∃un um,e=.returned (.tuple #[.agg #[.bool false,un,um],.int .i64 0])∧LS w' (Fr w.heap.size w'.heap.size) un (natL n)∧LS w' (Fr w.heap.size w'.heap.size) um (natL 1)∧Below w.heap.size w w':=by
 refine(rfrac_any n 1 w hn (by omega) (by omega)).mono ?_;rintro e w' ⟨v,rfl,⟨un,um,rfl,h1,h2⟩,h3⟩;rw[lowF_one (Nat.gcd_one_right n)] at h1 h2 ⊢;exact⟨un,um,rfl,h1,h2,h3⟩
theorem rint_any(n:Nat) (w:World) (hn:n<4294967296) :
  Calls Tryz.prog 178 #[.int .i64 (n:Int)] w fun e w'=>∃un um,e=.returned (.agg #[.bool false,un,um])∧LS w' (Fr w.heap.size w'.heap.size) un (natL n)∧LS w' (Fr w.heap.size w'.heap.size) um (natL 1)∧Below w.heap.size w w':=by
 obtain⟨W0,hW0⟩:=zx (w.alloc (.cells #[.bool false,.slice none 0 0,.slice none 0 0] 83));obtain⟨g,hg⟩:=zx w.heap.size
 have hb0:Below w.heap.size w W0:=by rw[hW0];exact(Below.refl _ _).alloc (Nat.le_refl _) _
 have hbk:W0.heap[g]?=some (.cells #[.bool false,.slice none 0 0,.slice none 0 0] 83 (0,0)):=by rw[hW0,hg];exact heap_alloc_new _ _
 have hgl:g<W0.heap.size:=(Array.getElem?_eq_some_iff.1 hbk).1;have HW0:=zh hW0;have HG:=zh hg;have HB0:=zh hb0;have HBK:=zh hbk;have HGL:=zh hgl;have HF:=zh (rfrac1_any n W0 hn);clear hW0 hg hb0 hbk hgl hn;go_enter Tryz.func178,Tryz.ntmps178;go_wp2_with fail;rw[←HW0.out,←HG.out];refine HF.out.mono ?_;rintro e w1 ⟨un,um,rfl,h1,h2,hb1⟩;obtain⟨A1,N1,e1,rfl⟩:=h1.frm;obtain⟨A2,N2,e2,rfl⟩:=h2.frm;obtain⟨W2,hW2⟩:=zx (w1.alloc (.cells #[.bool false,.slice A1 N1 e1,.slice A2 N2 e2] 83));obtain⟨p,hp⟩:=zx w1.heap.size
 have hb2:Below w1.heap.size w1 W2:=by rw[hW2];exact(Below.refl _ _).alloc (Nat.le_refl _) _
 have hpk:W2.heap[p]?=some (.cells #[.bool false,.slice A1 N1 e1,.slice A2 N2 e2] 83 (0,0)):=by rw[hW2,hp];exact heap_alloc_new _ _
 obtain⟨c0,c1,c2,-⟩:=cells3 hpk;have hb12:=hb1.trans (hb2.mono hb1.size);have hk:=(hb12.block g HGL.out).trans HBK.out;obtain⟨l0,l1,l2,f0,f1,f2⟩:=cells3 hk;have hbw:=HB0.out.trans (hb12.mono HB0.out.size)
 have hgw:w.heap.size≤g:=by rw[HG.out];omega
 have hs0:=HB0.out.size;have hgl:=HGL.out;have h1':=h1.keep (fun b hb=>hb2.block b hb.2);have h2':=h2.keep (fun b hb=>hb2.block b hb.2);have HX:=zh (box3 hk hbw hgw (.bool false) (.slice A1 N1 e1) (.slice A2 N2 e2) h1' (fun b hb=>⟨by have:=hb.1;omega,by have:=hb.1;omega,Nat.lt_of_lt_of_le hb.2 hb2.size⟩) h2' (fun b hb=>⟨by have:=hb.1;omega,by have:=hb.1;omega,Nat.lt_of_lt_of_le hb.2 hb2.size⟩));have HW2:=zh hW2;have HP:=zh hp;clear h1 h2 h1' h2' hb1 hb2 hb12 hk hbw hgw hs0 hgl hW2 hp hpk;go_upto_region 2 with fail;rw[←HW2.out,←HP.out];go_wp2_with fail;obtain⟨Wf,hWf⟩:=zx (((W2.setCell ⟨g,0,none⟩ (.bool false)).setCell ⟨g,1,none⟩ (.slice A1 N1 e1)).setCell ⟨g,2,none⟩ (.slice A2 N2 e2));obtain⟨x0,x1,x2,hl1,hl2,hbf⟩:=HX.out Wf hWf;rw[←hWf];clear hWf l0 l1 l2 c0 c1 c2;exact bodyPost_ret (v:=.agg #[.bool false,.slice A1 N1 e1,.slice A2 N2 e2]) (by simp[results,Tryz.results178,go_sem,x0,x1,x2]) rfl ⟨_,_,rfl,hl1,hl2,hbf⟩
theorem rsmall_any(va vb:Value) (n m:Nat) (w:World) (ha:LS w (Bl w.heap.size) va (natL n)) (hb:LS w (Bl w.heap.size) vb (natL m)) (hm:0<m) (hg:Nat.gcd n m=1) :
  Calls Tryz.prog 127 #[.agg #[.bool false,va,vb]] w fun e w'=>e=.returned (.bool true)∧Below w.heap.size w w':=by
 obtain⟨An,Nn,cn,rfl⟩:=ha.frm;obtain⟨Ad,Nd,cd,rfl⟩:=hb.frm;obtain⟨W0,hW0⟩:=zx (w.alloc (.cells #[.bool false,.slice An Nn cn,.slice Ad Nd cd] 83));obtain⟨q,hq⟩:=zx w.heap.size
 have hb0:Below w.heap.size w W0:=by rw[hW0];exact(Below.refl _ _).alloc (Nat.le_refl _) _
 have hqk:W0.heap[q]?=some (.cells #[.bool false,.slice An Nn cn,.slice Ad Nd cd] 83 (0,0)):=by rw[hW0,hq];exact heap_alloc_new _ _
 obtain⟨c0,c1,c2,-⟩:=cells3 hqk;have HR:=zh (rreduce_any _ _ n m W0 (ha.below hb0) (hb.below hb0) hm hg);have HN:=zh (natL_length n);have HM:=zh (natL_length m);have HW0:=zh hW0;have HQ:=zh hq;have HB0:=zh hb0;clear ha hb hW0 hq hb0 hqk;go_enter Tryz.func127,Tryz.ntmps127;go_wp2_with fail;rw[←HW0.out,←HQ.out];refine HR.out.mono ?_;rintro e w1 ⟨un,um,rfl,h1,h2,hb1⟩
 obtain⟨A1,N1,e1,hN1,rfl⟩:∃A L c,L≤1∧un=.slice A L c:=by obtain⟨A,c,e,-⟩:=h1.form;exact⟨A,_,c,HN.out,e⟩
 obtain⟨A2,N2,e2,hN2,rfl⟩:∃A L c,L≤1∧um=.slice A L c:=by obtain⟨A,c,e,-⟩:=h2.form;exact⟨A,_,c,HM.out,e⟩
 have HB1:=zh (HB0.out.trans (hb1.mono HB0.out.size));obtain⟨W2,hW2⟩:=zx (w1.alloc (.cells #[.bool false,.slice A1 N1 e1,.slice A2 N2 e2] 83));obtain⟨p,hp⟩:=zx w1.heap.size
 have hpk:W2.heap[p]?=some (.cells #[.bool false,.slice A1 N1 e1,.slice A2 N2 e2] 83 (0,0)):=by rw[hW2,hp];exact heap_alloc_new _ _
 have HB2:=zh (show Below w.heap.size w W2 by rw[hW2];exact HB1.out.alloc HB1.out.size _);have HW2:=zh hW2;have HP:=zh hp;have hL1:decide ((N1:Int)≤1)=true:=decide_eq_true (by omega);have hL2:decide ((N2:Int)≤1)=true:=decide_eq_true (by omega)
 have hL3:(N1:Int)≤1:=by omega
 have hL4:(N2:Int)≤1:=by omega
 clear h1 h2 hb1 c0 c1 c2 hW2 hp hN1 hN2;obtain⟨c0,c1,c2,-⟩:=cells3 hpk;clear hpk;go_upto_region 2 with fail;rw[←HW2.out,←HP.out];go_wp2_with fail;go_ret;exact⟨rfl,HB2.out⟩
theorem rorder_any(xn xd yn yd:Value) (a b c d:Nat) (w:World) (hxn:LS w (Bl w.heap.size) xn (natL a)) (hxd:LS w (Bl w.heap.size) xd (natL b)) (hyn:LS w (Bl w.heap.size) yn (natL c)) (hyd:LS w (Bl w.heap.size) yd (natL d)) (h0b:0<b) (h0d:0<d) (h1:a * d<4294967296) (h2:c * b<4294967296) :
  Calls Tryz.prog 180 #[.agg #[.bool false,xn,xd],.agg #[.bool false,yn,yd]] w fun e w'=>e=.returned (.int .i64 (cmpI (a * d) (c * b)))∧Below w.heap.size w w':=by
 obtain⟨An,Nn,cn,rfl⟩:=hxn.frm;obtain⟨Ad,Nd,cd,rfl⟩:=hxd.frm;obtain⟨Bn,Mn,dn,rfl⟩:=hyn.frm;obtain⟨Bd,Md,dd,rfl⟩:=hyd.frm;obtain⟨W0,hW0⟩:=zx ((w.alloc (.cells #[.bool false,.slice An Nn cn,.slice Ad Nd cd] 83)).alloc (.cells #[.bool false,.slice Bn Mn dn,.slice Bd Md dd] 83));obtain⟨q,hq⟩:=zx w.heap.size;obtain⟨p,hp⟩:=zx (w.heap.size+1)
 have hb0:Below w.heap.size w W0:=by rw[hW0];exact((Below.refl _ _).alloc (Nat.le_refl _) _).alloc (by simp) _
 have hpk:W0.heap[p]?=some (.cells #[.bool false,.slice Bn Mn dn,.slice Bd Md dd] 83 (0,0)):=by
  rw[hW0];exact heap_alloc_at _ _ _ (by rw[hp];simp)
 have hqk:W0.heap[q]?=some (.cells #[.bool false,.slice An Nn cn,.slice Ad Nd cd] 83 (0,0)):=by
  rw[hW0,hq];exact(Below.heap_alloc _ _ _ (by simp)).trans (heap_alloc_new w _)
 have hpl:p<W0.heap.size:=(Array.getElem?_eq_some_iff.1 hpk).1;have hql:q<W0.heap.size:=(Array.getElem?_eq_some_iff.1 hqk).1;obtain⟨c0,c1,c2,-⟩:=cells3 hqk;obtain⟨d0,d1,d2,-⟩:=cells3 hpk;obtain⟨x1,hx1⟩:=zx (Value.slice An Nn cn);obtain⟨x2,hx2⟩:=zx (Value.slice Ad Nd cd);obtain⟨y1,hy1⟩:=zx (Value.slice Bn Mn dn);obtain⟨y2,hy2⟩:=zx (Value.slice Bd Md dd);have H1:=zh (hxn.below hb0);have H2:=zh (hxd.below hb0);have H3:=zh (hyn.below hb0);have H4:=zh (hyd.below hb0);have H5:=zh (show a * d<4294967296∧c * b<4294967296 from⟨h1,h2⟩);have HW0:=zh hW0;have HQ:=zh (show q=w.heap.size∧p=w.heap.size+1 from⟨hq,hp⟩);have HQP:=zh (show q<W0.heap.size∧p<W0.heap.size from⟨hql,hpl⟩);have HB0:=zh hb0;clear hW0 hq hp hb0 hpk hqk hpl hql hxn hxd hyn hyd;go_enter Tryz.func180,Tryz.ntmps180;go_upto_region 1 with fail;rw[←HW0.out,←HQ.out.2,←HQ.out.1];clear HW0 HQ;rw[←hx1] at H1 c1 ⊢;rw[←hx2] at H2 c2 ⊢;rw[←hy1] at H3 d1 ⊢;rw[←hy2] at H4 d2 ⊢;have HT1:=zh (fun W (h:HeldF W0 q p (.bool false) x1 x2 (.bool false) y1 y2 W)=>rtm_any x1 y2 a d W (h.ls H1.out) (h.ls H4.out) h0d h1);have HT2:=zh (fun W (h:HeldF W0 q p (.bool false) x1 x2 (.bool false) y1 y2 W)=>rtm_any y1 x2 c b W (h.ls H3.out) (h.ls H2.out) h0b h2);have HS0:=zh (show HeldF W0 q p (.bool false) x1 x2 (.bool false) y1 y2 W0.drew from⟨c0,c1,c2,d0,d1,d2,(Below.refl _ _).drew⟩);clear hx1 hx2 hy1 hy2 c0 c1 c2 d0 d1 d2 h1 h2;refine region_tail (S:=(fun w'=>w'.cell? ⟨q,0,none⟩=some (.bool false)∧w'.cell? ⟨q,1,none⟩=some x1∧w'.cell? ⟨q,2,none⟩=some x2∧w'.cell? ⟨p,0,none⟩=some (.bool false)∧w'.cell? ⟨p,1,none⟩=some y1∧w'.cell? ⟨p,2,none⟩=some y2∧Below W0.heap.size W0 w')) [] (by kernel_rfl) HS0.out (fun hHeld=>?_);refine tk 0 9 ?_;refine tk 1 10 ?_;refine tk 2 11 ?_;refine tk 3 12 ?_;refine tk 5 14 ?_;refine tk 6 15 ?_;refine tk 7 16 ?_;refine tk 8 17 ?_;refine readyT (rs:=[4]) (by kernel_rfl) (by simp) ?_;refine AllReadyT.cons rfl (fun K hK=>?_) ?_
 ·go_simp;(go_at_call 226;refine(HT1.out _ (by assumption)).mono ?_;rintro e w5 ⟨u5,rfl,hu5,hb5⟩);go_wp2_with fail;refine hK.out _ _ ?_ (fun hHeld=>?_)
  ·(first|exact HeldF.below (by assumption) hb6 HQP.out.1 HQP.out.2|exact HeldF.below (by assumption) hb5 HQP.out.1 HQP.out.2)
  clear hK K;(try simp only[Act.put,z1,z2,z3]);refine readyT (rs:=[9]) (by kernel_rfl) (by simp) ?_;refine AllReadyT.cons rfl (fun K hK=>?_) ?_
  ·go_simp;(go_at_call 226;refine(HT2.out _ (by assumption)).mono ?_;rintro e w6 ⟨u6,rfl,hu6,hb6⟩);go_wp2_with fail;refine hK.out _ _ ?_ (fun hHeld=>?_)
   ·(first|exact HeldF.below (by assumption) hb6 HQP.out.1 HQP.out.2|exact HeldF.below (by assumption) hb5 HQP.out.1 HQP.out.2)
   clear hK K;(try simp only[Act.put,z1,z2,z3]);refine tk 10 5 ?_;refine tk 11 6 ?_;refine doneT (by kernel_rfl) ?_ _;have HBZ:=zh (HeldF.bl (q:=q) (p:=p) (by assumption));obtain⟨d0,d1,d2,e0,e1,e2,-⟩:=hHeld;have HCM:=zh (rcmp_any u5 u6 (a * d) (c * b) _ _ w6 ((hu5.below hb6).lsBl (natL_mem H5.out.1)) (hu6.lsBl (natL_mem H5.out.2)) (fun _ h=>h) (fun _ h=>h));clear hu5 hu6 hb5 hb6;go_wp2_with fail;refine HCM.out.mono ?_;rintro e w7 ⟨rfl,hb7⟩;have HB7:=zh (HBZ.out.trans (hb7.mono HBZ.out.size));clear hb7 d0 d1 d2 e0 e1 e2;go_wp2_with fail;go_ret;exact⟨rfl,HB0.out.trans (HB7.out.mono HB0.out.size)⟩
  exact AllReadyT.nil
 exact AllReadyT.nil
theorem rless_any(xn xd yn yd:Value) (a b c d:Nat) (w:World) (hxn:LS w (Bl w.heap.size) xn (natL a)) (hxd:LS w (Bl w.heap.size) xd (natL b)) (hyn:LS w (Bl w.heap.size) yn (natL c)) (hyd:LS w (Bl w.heap.size) yd (natL d)) (h0b:0<b) (h0d:0<d) (h1:a * d<4294967296) (h2:c * b<4294967296) :
  Calls Tryz.prog 183 #[.agg #[.bool false,xn,xd],.agg #[.bool false,yn,yd]] w fun e w'=>e=.returned (.bool (decide (cmpI (a * d) (c * b)<0)))∧Below w.heap.size w w':=by
 obtain⟨An,Nn,cn,rfl⟩:=hxn.frm;obtain⟨Ad,Nd,cd,rfl⟩:=hxd.frm;obtain⟨Bn,Mn,dn,rfl⟩:=hyn.frm;obtain⟨Bd,Md,dd,rfl⟩:=hyd.frm;obtain⟨W0,hW0⟩:=zx ((w.alloc (.cells #[.bool false,.slice An Nn cn,.slice Ad Nd cd] 83)).alloc (.cells #[.bool false,.slice Bn Mn dn,.slice Bd Md dd] 83));obtain⟨q,hq⟩:=zx w.heap.size;obtain⟨p,hp⟩:=zx (w.heap.size+1)
 have hb0:Below w.heap.size w W0:=by rw[hW0];exact((Below.refl _ _).alloc (Nat.le_refl _) _).alloc (by simp) _
 have hpk:W0.heap[p]?=some (.cells #[.bool false,.slice Bn Mn dn,.slice Bd Md dd] 83 (0,0)):=by
  rw[hW0];exact heap_alloc_at _ _ _ (by rw[hp];simp)
 have hqk:W0.heap[q]?=some (.cells #[.bool false,.slice An Nn cn,.slice Ad Nd cd] 83 (0,0)):=by
  rw[hW0,hq];exact(Below.heap_alloc _ _ _ (by simp)).trans (heap_alloc_new w _)
 have hpl:p<W0.heap.size:=(Array.getElem?_eq_some_iff.1 hpk).1;have hql:q<W0.heap.size:=(Array.getElem?_eq_some_iff.1 hqk).1;obtain⟨c0,c1,c2,-⟩:=cells3 hqk;obtain⟨d0,d1,d2,-⟩:=cells3 hpk;obtain⟨x1,hx1⟩:=zx (Value.slice An Nn cn);obtain⟨x2,hx2⟩:=zx (Value.slice Ad Nd cd);obtain⟨y1,hy1⟩:=zx (Value.slice Bn Mn dn);obtain⟨y2,hy2⟩:=zx (Value.slice Bd Md dd);have H1:=zh (hxn.below hb0);have H2:=zh (hxd.below hb0);have H3:=zh (hyn.below hb0);have H4:=zh (hyd.below hb0);have H5:=zh (show a * d<4294967296∧c * b<4294967296 from⟨h1,h2⟩);have HW0:=zh hW0;have HQ:=zh (show q=w.heap.size∧p=w.heap.size+1 from⟨hq,hp⟩);have HQP:=zh (show q<W0.heap.size∧p<W0.heap.size from⟨hql,hpl⟩);have HB0:=zh hb0;clear hW0 hq hp hb0 hpk hqk hpl hql hxn hxd hyn hyd;have HO:=zh (rorder_any _ _ _ _ a b c d W0 H1.out H2.out H3.out H4.out h0b h0d h1 h2);obtain⟨C,hC⟩:=zx (cmpI (a * d) (c * b));rw[←hC] at HO ⊢;clear hx1 hx2 hy1 hy2 h1 h2 hC;go_enter Tryz.func183,Tryz.ntmps183;go_wp2_with fail;rw[←HW0.out,←HQ.out.2,←HQ.out.1];clear HW0 HQ;refine HO.out.mono ?_;rintro e w2 ⟨rfl,hb2⟩;have HB2:=zh (HB0.out.trans (hb2.mono HB0.out.size));clear hb2 c0 c1 c2 d0 d1 d2;go_wp2_with fail;go_ret;exact⟨rfl,HB2.out⟩
theorem rsame_any(xn xd yn yd:Value) (a b c d:Nat) (w:World) (hxn:LS w (Bl w.heap.size) xn (natL a)) (hxd:LS w (Bl w.heap.size) xd (natL b)) (hyn:LS w (Bl w.heap.size) yn (natL c)) (hyd:LS w (Bl w.heap.size) yd (natL d)) (h0b:0<b) (h0d:0<d) (h1:a * d<4294967296) (h2:c * b<4294967296) :
  Calls Tryz.prog 177 #[.agg #[.bool false,xn,xd],.agg #[.bool false,yn,yd]] w fun e w'=>e=.returned (.bool (decide (cmpI (a * d) (c * b)=0)))∧Below w.heap.size w w':=by
 obtain⟨An,Nn,cn,rfl⟩:=hxn.frm;obtain⟨Ad,Nd,cd,rfl⟩:=hxd.frm;obtain⟨Bn,Mn,dn,rfl⟩:=hyn.frm;obtain⟨Bd,Md,dd,rfl⟩:=hyd.frm;obtain⟨W0,hW0⟩:=zx ((w.alloc (.cells #[.bool false,.slice An Nn cn,.slice Ad Nd cd] 83)).alloc (.cells #[.bool false,.slice Bn Mn dn,.slice Bd Md dd] 83));obtain⟨q,hq⟩:=zx w.heap.size;obtain⟨p,hp⟩:=zx (w.heap.size+1)
 have hb0:Below w.heap.size w W0:=by rw[hW0];exact((Below.refl _ _).alloc (Nat.le_refl _) _).alloc (by simp) _
 have hpk:W0.heap[p]?=some (.cells #[.bool false,.slice Bn Mn dn,.slice Bd Md dd] 83 (0,0)):=by
  rw[hW0];exact heap_alloc_at _ _ _ (by rw[hp];simp)
 have hqk:W0.heap[q]?=some (.cells #[.bool false,.slice An Nn cn,.slice Ad Nd cd] 83 (0,0)):=by
  rw[hW0,hq];exact(Below.heap_alloc _ _ _ (by simp)).trans (heap_alloc_new w _)
 have hpl:p<W0.heap.size:=(Array.getElem?_eq_some_iff.1 hpk).1;have hql:q<W0.heap.size:=(Array.getElem?_eq_some_iff.1 hqk).1;obtain⟨c0,c1,c2,-⟩:=cells3 hqk;obtain⟨d0,d1,d2,-⟩:=cells3 hpk;obtain⟨x1,hx1⟩:=zx (Value.slice An Nn cn);obtain⟨x2,hx2⟩:=zx (Value.slice Ad Nd cd);obtain⟨y1,hy1⟩:=zx (Value.slice Bn Mn dn);obtain⟨y2,hy2⟩:=zx (Value.slice Bd Md dd);have H1:=zh (hxn.below hb0);have H2:=zh (hxd.below hb0);have H3:=zh (hyn.below hb0);have H4:=zh (hyd.below hb0);have H5:=zh (show a * d<4294967296∧c * b<4294967296 from⟨h1,h2⟩);have HW0:=zh hW0;have HQ:=zh (show q=w.heap.size∧p=w.heap.size+1 from⟨hq,hp⟩);have HQP:=zh (show q<W0.heap.size∧p<W0.heap.size from⟨hql,hpl⟩);have HB0:=zh hb0;clear hW0 hq hp hb0 hpk hqk hpl hql hxn hxd hyn hyd;have HO:=zh (rorder_any _ _ _ _ a b c d W0 H1.out H2.out H3.out H4.out h0b h0d h1 h2);obtain⟨C,hC⟩:=zx (cmpI (a * d) (c * b));rw[←hC] at HO ⊢;clear hx1 hx2 hy1 hy2 h1 h2 hC;go_enter Tryz.func177,Tryz.ntmps177;go_wp2_with fail;rw[←HW0.out,←HQ.out.2,←HQ.out.1];clear HW0 HQ;refine HO.out.mono ?_;rintro e w2 ⟨rfl,hb2⟩;have HB2:=zh (HB0.out.trans (hb2.mono HB0.out.size));clear hb2 c0 c1 c2 d0 d1 d2;go_wp2_with fail;go_ret;exact⟨ret_bool (by by_cases h:C=0 <;> simp[h]),HB2.out⟩
end Go.Proofs.YtcfkllnpkmebpaaGreatDoor
