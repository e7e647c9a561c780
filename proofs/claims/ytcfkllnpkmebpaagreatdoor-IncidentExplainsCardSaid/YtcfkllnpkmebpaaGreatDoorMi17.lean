/- The policy of a volume, and how many fragments of a stripe are intact: the reference, walked. -/
import Derived.BigQuiet
import Derived.Deep.QuietTactic
import Derived.Deep.MidRow
import Derived.Test.YtcfkllnpkmebpaaGreatDoorMi13
import Derived.Test.YtcfkllnpkmebpaaGreatDoorMi16
import Derived.Test.YtcfkllnpkmebpaaGreatDoorMi01
import Derived.Test.YtcfkllnpkmebpaaGreatDoorMi05
set_option maxRecDepth 100000
set_option maxHeartbeats 12800000
namespace Go.Proofs.YtcfkllnpkmebpaaGreatDoor
open Go.RowKit
set_option linter.unusedVariables false
set_option linter.unusedSimpArgs false
theorem results_cell{P:Program} (fn:Func) (t:TypeId) (a:Nat) (tmps:Array Value) (w:World) (v:Value) (ad:Addr) (hr:fn.results=#[.cell a t]) (hv:tmps.getD a undef=.pointer (some ad)) (hl:(loadVar t ad).run P w=.ok v w):(results fn tmps).run P w=.ok v w:=by
 unfold results
 rw[hr,Array.mapM_eq_mapM_toList]
 simp only[List.mapM_cons,List.mapM_nil,hv,asAddr]
 simp[hl]
def volP(F:FltM) (v:Nat):Nat:=match F.vols[v]? with | some x=>x.pol.toNat | none=>0
def kOf(F:FltM) (v:Nat):Int:=match F.pols[volP F v]? with | some x=>x.k | none=>1
def mOf(F:FltM) (v:Nat):Int:=match F.pols[volP F v]? with | some x=>x.m | none=>0
def qOf(F:FltM) (v:Nat):Int:=match F.pols[volP F v]? with | some x=>x.q | none=>1
def PolAt(w:World) (F:FltM) (pb pof ob oof:Nat):Prop:=∀v,v<F.vols.length→volP F v<F.pols.length∧∃nm:ByteArray,w.rangeAt ob (oof+v * 2) [.string nm,.int .i64 (volP F v:Int)] ∧
 ∃a0 a4 a5 a6 a7 a8 a9 a10 a11 a12 a13 a14 a15 a16:Value,w.rangeAt pb (pof+volP F v * 17) [a0,.int .i64 (kOf F v),.int .i64 (mOf F v),.int .i64 (qOf F v),a4,a5,a6,a7,a8,a9,a10,a11,a12,a13,a14,a15,a16]∧(#[a0,.int .i64 (kOf F v),.int .i64 (mOf F v),.int .i64 (qOf F v),a4,a5,a6,a7,a8,a9,a10,a11,a12,a13,a14,a15,a16]:Array Value).all (·.oneCell')=true
theorem volP_lt{N:Nat} {F:FltM} (hok:FleetOk N F) {v:Nat} (hv:v<F.vols.length):volP F v<F.pols.length∧(F.vols[v]).pol=(volP F v:Int):=by
 obtain⟨-,-,p,h1,h2⟩:=hok.vols v F.vols[v] (List.getElem?_eq_getElem hv)
 have e:volP F v=p:=by unfold volP;rw[List.getElem?_eq_getElem hv];simp[h1]
 rw[e];exact⟨h2,h1⟩
theorem kmq_ok{N:Nat} {F:FltM} (hok:FleetOk N F) {v:Nat} (hv:v<F.vols.length):(kOf F v=1∨kOf F v=2)∧0≤mOf F v∧mOf F v≤2∧kOf F v≤qOf F v∧qOf F v≤kOf F v+mOf F v:=by
 have hp:=(volP_lt hok hv).1
 obtain⟨-,-,h1,h2,h3,h4,h5,-⟩:=hok.pols (volP F v) F.pols[volP F v] (List.getElem?_eq_getElem hp)
 unfold kOf mOf qOf
 rw[List.getElem?_eq_getElem hp]
 exact⟨h1,h2,h3,h4,h5⟩
theorem polAt{N:Nat} {F:FltM} {w:World} {R:Nat→Prop} {vl vm vd vv vp vo:Value} (hf:FleetS w R vl vm vd vv vp vo F) (hok:FleetOk N F) :
  ∃pb pof ob oof cp co,vp=.slice (some ⟨pb,pof,none⟩) F.pols.length cp∧vo=.slice (some ⟨ob,oof,none⟩) F.vols.length co∧R pb∧R ob∧PolAt w F pb pof ob oof:=by
 obtain⟨Ap,cp,rfl,-,-⟩:=hf.2.2.2.2.1.form
 obtain⟨Ao,co,rfl,-,-⟩:=hf.2.2.2.2.2.form
 obtain⟨pb,pof,cs0,rfl,hRp,-⟩:=hf.2.2.2.2.1.at_ (k:=0) (by have:=hok.pol1;omega)
 obtain⟨ob,oof,cs1,rfl,hRo,-⟩:=hf.2.2.2.2.2.at_ (k:=0) (by have:=hok.vol1;omega)
 refine⟨pb,pof,ob,oof,cp,co,rfl,rfl,hRp,hRo,fun v hv=>?_⟩
 obtain⟨hp,hpe⟩:=volP_lt hok hv
 refine⟨hp,F.vols[v].name,?_,?_⟩
 ·obtain⟨b,off,cs,e,-,-,hc,hcs⟩:=hf.2.2.2.2.2.at_ (k:=v) hv
  injection e with e
  injection e with e1 e2
  subst e1 e2
  unfold VolK at hcs
  rw[hpe] at hcs
  subst hcs
  exact hc
 ·obtain⟨b,off,cs,e,-,-,hc,vm,vr,tn,td,hn,hd,hcs,k1,k2,k3,k4,k5,k6⟩:=hf.2.2.2.2.1.at_ (k:=volP F v) hp
  injection e with e
  injection e with e1 e2
  subst e1 e2
  obtain⟨A1,c1,rfl,-,-⟩:=k1.form7
  obtain⟨A2,c2,rfl,-,-⟩:=k2.form
  obtain⟨A3,N3,c3,rfl⟩:=k3.frm
  obtain⟨A4,N4,c4,rfl⟩:=k4.frm
  obtain⟨A5,N5,c5,rfl⟩:=k5.frm
  obtain⟨A6,N6,c6,rfl⟩:=k6.frm
  subst hcs
  have ek:kOf F v=F.pols[volP F v].k:=by unfold kOf;rw[List.getElem?_eq_getElem hp]
  have em:mOf F v=F.pols[volP F v].m:=by unfold mOf;rw[List.getElem?_eq_getElem hp]
  have eq:qOf F v=F.pols[volP F v].q:=by unfold qOf;rw[List.getElem?_eq_getElem hp]
  rw[ek,em,eq]
  exact⟨_,_,_,_,_,_,_,_,_,_,_,_,_,_,hc,by simp[Value.oneCell']⟩
theorem bel_take(xs:List Int) (n:Int) (j:Nat) (hj:j<xs.length):((xs.take (j+1)).filter (fun x=>decide (x<n))).length=((xs.take j).filter (fun x=>decide (x<n))).length+(if xs[j]<n then 1 else 0):=by
 rw[List.take_succ_eq_append_getElem hj,List.filter_append,List.length_append]
 congr 1
 by_cases h:xs[j]<n <;> simp[h]
theorem rbelow_any(v:Value) (xs:List Int) (n:Int) (R:Nat→Prop) (w:World) (h:IntS w R v xs) :
  Calls Tryz.prog 184 #[v,.int .i64 n] w fun e w'=>e=.returned (.int .i64 (((xs.filter (fun x=>decide (x<n))).length:Nat):Int))∧w=w':=by
 obtain⟨A,c,rfl,-,hm⟩:=h.form7
 unfold maxLen at hm
 have HS:=zh h
 have hle:=fun j=>List.length_filter_le (fun x=>decide (x<n)) (xs.take j)
 have HLE:=zh hle
 obtain⟨L,hL⟩:=zx xs.length
 rw[←hL] at HS hm ⊢
 have HL:=zh hL
 obtain⟨cn,hcn⟩:∃f:Nat→Nat,f=fun j=>((xs.take j).filter (fun x=>decide (x<n))).length:=⟨_,rfl⟩
 have HT:=zh (fun j (hj:j<xs.length)=>(show cn (j+1)=cn j+(if xs[j]<n then 1 else 0) from by rw[hcn];exact bel_take xs n j hj))
 have h0:cn 0=0:=by rw[hcn];rfl
 have HC:=zh (fun j=>(show cn j≤j from by rw[hcn];exact Nat.le_trans (HLE.out j) (by rw[List.length_take];omega)))
 have HE:=zh (show cn xs.length=(xs.filter (fun x=>decide (x<n))).length from by rw[hcn];simp)
 rw[←HE.out]
 rw[←hL]
 clear h hle HLE hL hcn
 go_enter Tryz.func184,Tryz.ntmps184
 go_wp2_with fail
 go_loopg [5,6] L (fun z v5 v6 wr=>w=wr∧∃j:Nat,j≤L∧z=L - j∧v5=.int .i64 (cn j:Int)∧v6=.int .i64 (j:Int))
 case atStart=>exact⟨rfl,0,by omega,rfl,by rw[h0];rfl,rfl⟩
 case round =>
  obtain⟨rfl,j,hj,rfl,rfl,rfl⟩:=hrel
  by_cases hlt:j<L
  ·have hjl:j<xs.length:=by rw[←HL.out];exact hlt
   obtain⟨b,off,rfl,-,hc,-⟩:=HS.out.at7 (k:=j) hjl
   have ht:=HT.out j hjl
   have hcj:=HC.out j
   obtain⟨x,hx⟩:=zx (xs[j])
   rw[←hx] at hc ht
   have HT2:=zh ht
   by_cases hxn:x<n
   ·have HXN:=zh hxn
    clear hx ht hjl h0
    go_wp2_with fail
    go_roundg (L - (j+1))
    case measure=>omega
    case rel=>exact⟨rfl,j+1,by omega,rfl,by rw[HT2.out,if_pos HXN.out];go_num,by go_num⟩
   ·have HXN:=zh hxn
    clear hx ht hjl h0
    go_wp2_with fail
    go_roundg (L - (j+1))
    case measure=>omega
    case rel=>exact⟨rfl,j+1,by omega,rfl,by rw[HT2.out,if_neg (by have:=HXN.out;omega)];rfl,by go_num⟩
  ·obtain rfl:L=j:=by omega
   go_wp2_with fail
   go_ret
   exact⟨rfl,rfl⟩
theorem rpolicy_any(ext k m q:Int) (vl vm vd vv a0 a4 a5 a6 a7 a8 a9 a10 a11 a12 a13 a14 a15 a16:Value) (nm:ByteArray) (pb pof ob oof NP NO cp co v p:Nat) (w:World) (hv:v<NO) (hp:p<NP) (hno:NO≤1000) (hnp:NP≤1000)
  (hvol:w.rangeAt ob (oof+v * 2) [.string nm,.int .i64 (p:Int)]) (hpol:w.rangeAt pb (pof+p * 17) [a0,.int .i64 k,.int .i64 m,.int .i64 q,a4,a5,a6,a7,a8,a9,a10,a11,a12,a13,a14,a15,a16]) (hone:(#[a0,.int .i64 k,.int .i64 m,.int .i64 q,a4,a5,a6,a7,a8,a9,a10,a11,a12,a13,a14,a15,a16]:Array Value).all (·.oneCell')=true) :
  Calls Tryz.prog 132 #[.agg #[.int .i64 ext,vl,vm,vd,vv,.slice (some ⟨pb,pof,none⟩) NP cp,.slice (some ⟨ob,oof,none⟩) NO co],.int .i64 (v:Int)] w fun e w'=>e=.returned (.agg #[a0,.int .i64 k,.int .i64 m,.int .i64 q,a4,a5,a6,a7,a8,a9,a10,a11,a12,a13,a14,a15,a16])∧Below w.heap.size w w':=by
 obtain⟨W0,hW0⟩:=zx ((w.alloc (.cells #[.int .i64 ext,vl,vm,vd,vv,.slice (some ⟨pb,pof,none⟩) NP cp,.slice (some ⟨ob,oof,none⟩) NO co] 35)).alloc (.cells #[.string ⟨#[]⟩,.int .i64 0,.int .i64 0,.int .i64 0,.int .i64 0,.int .i64 0,.int .i64 0,.int .i64 0,.int .i64 0,.slice none 0 0,.slice none 0 0,.bool false,.slice none 0 0,.slice none 0 0,.bool false,.slice none 0 0,.slice none 0 0] 85))
 obtain⟨z,hz⟩:=zx w.heap.size
 obtain⟨g,hg⟩:=zx (w.heap.size+1)
 have hb0:Below w.heap.size w W0:=by rw[hW0];exact((Below.refl _ _).alloc (Nat.le_refl _) _).alloc (by simp) _
 have hgk:W0.heap[g]?=some (.cells #[.string ⟨#[]⟩,.int .i64 0,.int .i64 0,.int .i64 0,.int .i64 0,.int .i64 0,.int .i64 0,.int .i64 0,.int .i64 0,.slice none 0 0,.slice none 0 0,.bool false,.slice none 0 0,.slice none 0 0,.bool false,.slice none 0 0,.slice none 0 0] 85 (0,0)):=by
  rw[hW0];exact heap_alloc_at _ _ _ (by rw[hg];simp)
 have hzk:W0.heap[z]?=some (.cells #[.int .i64 ext,vl,vm,vd,vv,.slice (some ⟨pb,pof,none⟩) NP cp,.slice (some ⟨ob,oof,none⟩) NO co] 35 (0,0)):=by
  rw[hW0,hz];exact(Below.heap_alloc _ _ _ (by simp)).trans (heap_alloc_new w _)
 have z5:W0.drew.cell? ⟨z,5,none⟩=some (.slice (some ⟨pb,pof,none⟩) NP cp):=by rw[cell_of_row W0.drew z 5 _ _ _ hzk];rfl
 have z6:W0.drew.cell? ⟨z,6,none⟩=some (.slice (some ⟨ob,oof,none⟩) NO co):=by rw[cell_of_row W0.drew z 6 _ _ _ hzk];rfl
 have hob:ob<w.heap.size:=World.block_lt_of_cell? w _ (hvol 0 _ rfl)
 have hpb:pb<w.heap.size:=World.block_lt_of_cell? w _ (hpol 0 _ rfl)
 have hv0:W0.drew.cell? ⟨ob,oof+v * 2+1,none⟩=some (.int .i64 (p:Int)):=(World.cell?_of_block (w:=w) (w':=W0.drew) (hb0.block ob hob)).trans (hvol 1 _ rfl)
 have hp0:W0.drew.rangeAt pb (pof+p * 17) [a0,.int .i64 k,.int .i64 m,.int .i64 q,a4,a5,a6,a7,a8,a9,a10,a11,a12,a13,a14,a15,a16]:=range_same hpol (hb0.block pb hpb)
 have HTH:=zh (show W0.drew.there g 0 17 from there_of_block (w:=W0.drew) (cs:=#[.string ⟨#[]⟩,.int .i64 0,.int .i64 0,.int .i64 0,.int .i64 0,.int .i64 0,.int .i64 0,.int .i64 0,.int .i64 0,.slice none 0 0,.slice none 0 0,.bool false,.slice none 0 0,.slice none 0 0,.bool false,.slice none 0 0,.slice none 0 0]) hgk (Nat.le_refl 17))
 have HS0:=zh (And.intro z5 (And.intro z6 (And.intro hv0 hp0)))
 have HON:=zh hone
 have HW0:=zh hW0
 have HG:=zh hg
 have HGW:=zh (show w.heap.size≤g from by omega)
 have HQ:=zh hz
 have HB0:=zh hb0
 have i1:(v:Int)<(NO:Int):=by omega
 have i2:(p:Int)<(NP:Int):=by omega
 clear hvol hpol hone hW0 hz hg hb0 hgk hzk z5 z6 hob hpb hv0 hp0 hv hp
 go_enter Tryz.func132,Tryz.ntmps132
 go_upto_region 1 with fail
 rw[←HW0.out,←HG.out,←HQ.out]
 refine region_tail (S:=(fun w'=>w'.cell? ⟨z,5,none⟩=some (.slice (some ⟨pb,pof,none⟩) NP cp)∧w'.cell? ⟨z,6,none⟩=some (.slice (some ⟨ob,oof,none⟩) NO co)∧w'.cell? ⟨ob,oof+v * 2+1,none⟩=some (.int .i64 (p:Int))∧w'.rangeAt pb (pof+p * 17) [a0,.int .i64 k,.int .i64 m,.int .i64 q,a4,a5,a6,a7,a8,a9,a10,a11,a12,a13,a14,a15,a16])) [10] (by kernel_rfl) HS0.out (fun hHeld=>?_)
 refine tk 0 5 ?_
 refine tk 1 6 ?_
 refine tk 2 7 ?_
 refine tk 3 8 ?_
 refine tk 4 9 ?_
 refine tk 5 10 ?_
 refine tk 6 11 ?_
 refine tk 7 12 ?_
 refine tk 8 13 ?_
 refine takeT (i:=9) (d:=14) (v:=(.agg #[a0,.int .i64 k,.int .i64 m,.int .i64 q,a4,a5,a6,a7,a8,a9,a10,a11,a12,a13,a14,a15,a16])) rfl rfl (by kernel_rfl) (by kernel_rfl) (by kernel_rfl) (by kernel_rfl) (fun _ _ _ h=>h) (yieldsIf_load_mid (by rfl) 85 (.tmp 13) rfl pb (pof+p * 17) (by rfl) [a0,.int .i64 k,.int .i64 m,.int .i64 q,a4,a5,a6,a7,a8,a9,a10,a11,a12,a13,a14,a15,a16] _ (fun w hw=>hw.2.2.2) Tryz.underlying85 rfl size_pol) (by assumption) ?_
 (try simp only[Act.put,z1,z2,z3])
 refine readyT (rs:=[10]) (by kernel_rfl) (by simp) ?_
 refine AllReadyT.consT rfl rfl (fun K hK=>?_) ?_
 ·rw[if_pos (by rfl)]
  refine wp_store_mid 85 (.tmp 4) (.tmp 14) rfl g 0 #[a0,.int .i64 k,.int .i64 m,.int .i64 q,a4,a5,a6,a7,a8,a9,a10,a11,a12,a13,a14,a15,a16] (by rfl) (by rfl) HTH.out size_pol HON.out ?_
  refine hK.out _ _ ?_
  clear hK K
  (try simp only[Act.put,z1,z2,z3])
  refine doneT (by kernel_rfl) ?_ _
  go_wp2_with fail
  obtain⟨w5,hw5⟩:=zx (World.setCells W0.drew g 0 [a0,.int .i64 k,.int .i64 m,.int .i64 q,a4,a5,a6,a7,a8,a9,a10,a11,a12,a13,a14,a15,a16])
  rw[←hw5]
  have hr5:w5.rangeAt g 0 [a0,.int .i64 k,.int .i64 m,.int .i64 q,a4,a5,a6,a7,a8,a9,a10,a11,a12,a13,a14,a15,a16]:=by rw[hw5];exact World.rangeAt_setCells_same _ _ _ _ HTH.out
  have hb5:Below w.heap.size w w5:=by rw[hw5];exact below_setCellsV HGW.out _ _ _ HB0.out.drew
  clear hw5 hHeld
  have hld:=run_loadVar_mid (P:=Tryz.prog) w5 g 0 85 _ _ hr5 Tryz.underlying85 rfl size_pol
  exact bodyPost_ret (v:=.agg #[a0,.int .i64 k,.int .i64 m,.int .i64 q,a4,a5,a6,a7,a8,a9,a10,a11,a12,a13,a14,a15,a16]) (results_cell _ 85 4 _ _ _ ⟨g,0,none⟩ Tryz.results132 (by rfl) hld) rfl ⟨rfl,hb5⟩
 exact AllReadyT.nil
def HeldC(W0:World) (y g:Nat) (a b c d e:Value) (w':World):Prop :=
 w'.cell? ⟨y,0,none⟩=some a∧w'.cell? ⟨y,1,none⟩=some b∧w'.cell? ⟨y,2,none⟩=some c∧w'.cell? ⟨g,1,none⟩=some d∧w'.cell? ⟨g,2,none⟩=some e∧Below W0.heap.size W0 w'
theorem HeldC.below{W0 wc w2:World} {y g:Nat} {a b c d e:Value} (h:HeldC W0 y g a b c d e wc) (hb:Below wc.heap.size wc w2) (h1:y<W0.heap.size) (h2:g<W0.heap.size):HeldC W0 y g a b c d e w2:=by
 obtain⟨c0,c1,c2,c3,c4,hB⟩:=h
 have hs:=hB.size
 have k:∀i,w2.cell? ⟨y,i,none⟩=wc.cell? ⟨y,i,none⟩:=fun i=>hb.cell (p:=⟨y,i,none⟩) (Nat.lt_of_lt_of_le h1 hs)
 have k':∀i,w2.cell? ⟨g,i,none⟩=wc.cell? ⟨g,i,none⟩:=fun i=>hb.cell (p:=⟨g,i,none⟩) (Nat.lt_of_lt_of_le h2 hs)
 exact⟨(k _).trans c0,(k _).trans c1,(k _).trans c2,(k' _).trans c3,(k' _).trans c4,hB.trans (hb.mono hs)⟩
theorem HeldC.bl{W0 wc:World} {y g:Nat} {a b c d e:Value} (h:HeldC W0 y g a b c d e wc):Below W0.heap.size W0 wc:=h.2.2.2.2.2
theorem rcounts_any(ext k m q:Int) (vl vm vd vv vf vp0 vo0 va0 a0 a4 a5 a6 a7 a8 a9 a10 a11 a12 a13 a14 a15 a16:Value) (r:Re) (l:List Fd) (s:Int) (on:Bool) (nm:ByteArray) (pb pof ob oof NP NO cp co v p:Nat) (w:World) (hv:v<NO) (hp:p<NP) (hno:NO≤1000) (hnp:NP≤1000)
  (hvol:w.rangeAt ob (oof+v * 2) [.string nm,.int .i64 (p:Int)]) (hpol:w.rangeAt pb (pof+p * 17) [a0,.int .i64 k,.int .i64 m,.int .i64 q,a4,a5,a6,a7,a8,a9,a10,a11,a12,a13,a14,a15,a16]) (hone:(#[a0,.int .i64 k,.int .i64 m,.int .i64 q,a4,a5,a6,a7,a8,a9,a10,a11,a12,a13,a14,a15,a16]:Array Value).all (·.oneCell')=true)
  (hk:0≤k∧k≤2) (hm:0≤m∧m≤2) (h:ReS w (Bl w.heap.size) vp0 vo0 va0 r) (hl:SlS 7 FdK w (Bl w.heap.size) vf l) :
  Calls Tryz.prog 131 #[.agg #[.int .i64 ext,vl,vm,vd,vv,.slice (some ⟨pb,pof,none⟩) NP cp,.slice (some ⟨ob,oof,none⟩) NO co],.agg #[vp0,vo0,va0],vf,.int .i64 (v:Int),.int .i64 s,.bool on] w fun e w'=>e=.returned (.int .i64 (((intTo r l (v:Int) s on 8).filter (fun x=>decide (x<k+m))).length:Int))∧Below w.heap.size w w':=by
 have hob:ob<w.heap.size:=World.block_lt_of_cell? w _ (hvol 0 _ rfl)
 have hpb:pb<w.heap.size:=World.block_lt_of_cell? w _ (hpol 0 _ rfl)
 obtain⟨W0,hW0⟩:=zx ((w.alloc (.cells #[.int .i64 ext,vl,vm,vd,vv,.slice (some ⟨pb,pof,none⟩) NP cp,.slice (some ⟨ob,oof,none⟩) NO co] 35)).alloc (.cells #[vp0,vo0,va0] 40))
 obtain⟨z,hz⟩:=zx w.heap.size
 obtain⟨y,hy⟩:=zx (w.heap.size+1)
 have hb0:Below w.heap.size w W0:=by rw[hW0];exact((Below.refl _ _).alloc (Nat.le_refl _) _).alloc (by simp) _
 have hyk:W0.heap[y]?=some (.cells #[vp0,vo0,va0] 40 (0,0)):=by
  rw[hW0];exact heap_alloc_at _ _ _ (by rw[hy];simp)
 have hzk:W0.heap[z]?=some (.cells #[.int .i64 ext,vl,vm,vd,vv,.slice (some ⟨pb,pof,none⟩) NP cp,.slice (some ⟨ob,oof,none⟩) NO co] 35 (0,0)):=by
  rw[hW0,hz];exact(Below.heap_alloc _ _ _ (by simp)).trans (heap_alloc_new w _)
 obtain⟨c0,c1,c2,c3,c4,c5,c6⟩:=cells7 hzk
 obtain⟨d0,d1,d2,-⟩:=cells3 hyk
 have hyl:y<W0.heap.size:=(Array.getElem?_eq_some_iff.1 hyk).1
 have HD:=zh (And.intro d0 (And.intro d1 d2))
 have HYL:=zh hyl
 have HPO:=zh (rpolicy_any ext k m q vl vm vd vv a0 a4 a5 a6 a7 a8 a9 a10 a11 a12 a13 a14 a15 a16 nm pb pof ob oof NP NO cp co v p W0 hv hp hno hnp (range_same hvol (hb0.block ob hob)) (range_same hpol (hb0.block pb hpb)) hone)
 have HRR:=zh (h.below hb0)
 have HLL:=zh (SlS.below fdK hl hb0)
 have HW0:=zh hW0
 have HZ:=zh hz
 have HY:=zh hy
 have HB0:=zh hb0
 have HON:=zh hone
 obtain⟨k1,k2⟩:=hk
 obtain⟨m1,m2⟩:=hm
 have hkm:IntKind.i64.wrap (k+m)=k+m:=IntWalk.i64_in _ (by omega)
 clear hvol hpol hone hW0 hz hy hb0 hyk hzk hob hpb hv hp h hl d0 d1 d2 hyl
 go_enter Tryz.func131,Tryz.ntmps131
 go_wp2_with fail
 rw[←HW0.out,←HY.out,←HZ.out]
 refine HPO.out.mono ?_
 rintro e w1 ⟨rfl,hb1⟩
 obtain⟨W2,hW2⟩:=zx ((w1.alloc (.cells #[.string ⟨#[]⟩,.int .i64 0,.int .i64 0,.int .i64 0,.int .i64 0,.int .i64 0,.int .i64 0,.int .i64 0,.int .i64 0,.slice none 0 0,.slice none 0 0,.bool false,.slice none 0 0,.slice none 0 0,.bool false,.slice none 0 0,.slice none 0 0] 85)).setCells w1.heap.size 0 [a0,.int .i64 k,.int .i64 m,.int .i64 q,a4,a5,a6,a7,a8,a9,a10,a11,a12,a13,a14,a15,a16])
 obtain⟨g,hg⟩:=zx w1.heap.size
 have hth:(w1.alloc (.cells #[.string ⟨#[]⟩,.int .i64 0,.int .i64 0,.int .i64 0,.int .i64 0,.int .i64 0,.int .i64 0,.int .i64 0,.int .i64 0,.slice none 0 0,.slice none 0 0,.bool false,.slice none 0 0,.slice none 0 0,.bool false,.slice none 0 0,.slice none 0 0] 85)).there w1.heap.size 0 17:=there_new (cs:=#[.string ⟨#[]⟩,.int .i64 0,.int .i64 0,.int .i64 0,.int .i64 0,.int .i64 0,.int .i64 0,.int .i64 0,.int .i64 0,.slice none 0 0,.slice none 0 0,.bool false,.slice none 0 0,.slice none 0 0,.bool false,.slice none 0 0,.slice none 0 0]) (heap_alloc_new w1 _) (Nat.le_refl 17)
 have hb2:Below w1.heap.size w1 W2:=by rw[hW2];exact below_setCellsV (Nat.le_refl _) _ _ _ ((Below.refl _ _).alloc (Nat.le_refl _) _)
 have hgr:W2.rangeAt g 0 [a0,.int .i64 k,.int .i64 m,.int .i64 q,a4,a5,a6,a7,a8,a9,a10,a11,a12,a13,a14,a15,a16]:=by rw[hW2,hg];exact World.rangeAt_setCells_same _ _ _ _ hth
 have hgl:g<W2.heap.size:=World.block_lt_of_cell? W2 _ (hgr 0 _ rfl)
 have hb02:Below W0.heap.size W0 W2:=hb1.trans (hb2.mono hb1.size)
 have my:∀i x,W0.cell? ⟨y,i,none⟩=some x→W2.drew.cell? ⟨y,i,none⟩=some x:=fun i x hx=>(hb02.cell (p:=⟨y,i,none⟩) HYL.out).trans hx
 have HS2:=zh (show HeldC W2 y g vp0 vo0 va0 (.int .i64 k) (.int .i64 m) W2.drew from⟨my _ _ HD.out.1,my _ _ HD.out.2.1,my _ _ HD.out.2.2,hgr 1 _ rfl,hgr 2 _ rfl,(Below.refl _ _).drew⟩)
 have HYG:=zh (show y<W2.heap.size∧g<W2.heap.size from⟨Nat.lt_of_lt_of_le HYL.out hb02.size,hgl⟩)
 have HIN:=zh (fun w' (hb:Below W2.heap.size W2 w')=>rintact_any vp0 vo0 va0 vf r l (v:Int) s on w' ((HRR.out.below hb02).below hb) (SlS.below fdK (SlS.below fdK HLL.out hb02) hb))
 have HTH:=zh hth
 have HW2:=zh hW2
 have HG:=zh hg
 have HB2:=zh (HB0.out.trans (hb02.mono HB0.out.size))
 clear hW2 hg hth hb1 hb2 hgr hgl hb02 my c0 c1 c2 c3 c4 c5 c6
 go_upto_region 2 with (refine wpList_store_mid rfl 85 (.tmp 13) (.tmp 16) rfl w1.heap.size 0 #[a0,.int .i64 k,.int .i64 m,.int .i64 q,a4,a5,a6,a7,a8,a9,a10,a11,a12,a13,a14,a15,a16] (by rfl) (by rfl) HTH.out size_pol HON.out ?_;rw[←HW2.out,←HG.out])
 refine region_tail (S:=(fun w'=>w'.cell? ⟨y,0,none⟩=some vp0∧w'.cell? ⟨y,1,none⟩=some vo0∧w'.cell? ⟨y,2,none⟩=some va0∧w'.cell? ⟨g,1,none⟩=some (.int .i64 k)∧w'.cell? ⟨g,2,none⟩=some (.int .i64 m)∧Below W2.heap.size W2 w')) [] (by kernel_rfl) HS2.out (fun hHeld=>?_)
 refine tk 0 17 ?_
 refine tk 1 18 ?_
 refine tk 2 19 ?_
 refine tk 3 20 ?_
 refine tk 4 21 ?_
 refine tk 6 23 ?_
 refine tk 7 24 ?_
 refine tk 8 25 ?_
 refine tk 9 26 ?_
 refine tk 10 27 ?_
 refine readyT (rs:=[5]) (by kernel_rfl) (by simp) ?_
 refine AllReadyT.cons rfl (fun K hK=>?_) ?_
 ·go_simp
  (go_at_call 185;refine(HIN.out _ (HeldC.bl (by assumption))).mono ?_;rintro e w5 ⟨u,rfl,ho5,hb5⟩)
  go_wp2_with fail
  refine hK.out _ _ ?_ (fun hHeld=>?_)
  ·(first|assumption|exact HeldC.below (by assumption) hb5 HYG.out.1 HYG.out.2)
  clear hK K
  (try simp only[Act.put,z1,z2,z3])
  refine readyT (rs:=[11]) (by kernel_rfl) (by simp) ?_
  refine AllReadyT.cons rfl (fun K hK=>?_) ?_
  ·go_simp
   (go_at_call 184;refine(rbelow_any u _ _ _ _ (ho5.intS (fun x hx=>by have:=intTo_mem x hx;unfold I64;omega))).mono ?_;rintro e w6 ⟨rfl,rfl⟩)
   go_wp2_with fail
   refine hK.out _ _ ?_ (fun hHeld=>?_)
   ·(first|assumption|exact HeldC.below (by assumption) hb5 HYG.out.1 HYG.out.2)
   clear hK K
   (try simp only[Act.put,z1,z2,z3])
   refine tk 12 12 ?_
   refine doneT (by kernel_rfl) ?_ _
   have hbz:=HeldC.bl hHeld
   go_wp2_with fail
   go_ret
   exact⟨rfl,HB2.out.trans (hbz.mono HB2.out.size)⟩
  exact AllReadyT.nil
 exact AllReadyT.nil
def keyC(x:Nat×Nat):List Value:=[.int .i64 (x.1:Int),.int .i64 (x.2:Int)]
def OwnKy(w:World) (base:Nat) (v:Value) (ks:List (Nat×Nat)):Prop:=w.ownsRow base 67 2 v ks.length (ks.flatMap keyC)
theorem info_ky:(Tryz.prog.info? 67).map (fun i=>(i.zero,i.size,i.bytes))=some (some (.agg #[.int .i64 0,.int .i64 0]),2,16):=by kernel_rfl
theorem OwnKy.nil(w:World) (base:Nat):OwnKy w base (.slice none 0 0) []:=World.ownsRow_nil _ _ _ _
theorem OwnKy.below{w w2:World} {base:Nat} {v:Value} {ks:List (Nat×Nat)} (h:OwnKy w base v ks) (hb:Below w.heap.size w w2):OwnKy w2 base v ks:=own_below h hb
theorem OwnKy.base{w:World} {B B':Nat} {v:Value} {ks:List (Nat×Nat)} (h:OwnKy w B v ks) (hB:B'≤B):OwnKy w B' v ks:=own_base h hB
theorem OwnKy.form{w:World} {base:Nat} {v:Value} {ks:List (Nat×Nat)} (h:OwnKy w base v ks):∃A c,v=.slice A ks.length c:=own_form h
theorem OwnKy.lt{w:World} {base:Nat} {v:Value} {ks:List (Nat×Nat)} (h:OwnKy w base v ks):∀b,v.ownBlock=some b→base≤b∧b<w.heap.size:=World.ownsRow.lt h
theorem app_ky{ops:Array Oper} {rest:List Oper} {o:Oper} {a:Act} {Q:Exit→Act→World→Prop} {w:World} (x0 x1:Nat) (s x:Operand) (hgd:o.guard=none) (ho:o.op=.call { callee:=.builtin .append,args:=#[s,x],argTypes:=#[64,64] })
  (base:Nat) (v:Value) (n:Nat) (ks:List (Nat×Nat)) (hlen:ks.length=n) (hs:a.eval s=v) (hown:w.ownsRow base 67 2 v n (ks.flatMap keyC))
  (hx:a.eval x=.slice (some ⟨w.heap.size,0,none⟩) 1 1) (hn:n+1≤16777216) (hbase:base≤w.heap.size)
  (h:∀v' w',OwnKy w' base v' (ks++[(x0,x1)])→w.grownBy w' v.ownBlock→(v'.ownBlock=v.ownBlock∨v'.ownBlock=some (w.heap.size+1))→wpList Tryz.prog ops Q rest (a.put o.dst v') w') :
  wpList Tryz.prog ops Q (o :: rest) a (w.alloc (.cells #[.int .i64 (x0:Int),.int .i64 (x1:Int)] 67)):=by
 obtain⟨i0,hi0,hz0,hz1,hz2⟩:=info_parts info_ky
 refine wpList_append1 hgd s x _ ho base i0 _ 2 16 Tryz.underlying64 hi0 hz0 hz1 hz2 rfl (by omega) (by omega) v n (ks.flatMap keyC) hs hown hx rfl (fun u hu=>?_) hn hbase (fun v' w' h1 h2 h3=>h v' w' ?_ h2 h3)
 ·simp at hu
  rcases hu with rfl | rfl <;> rfl
 ·unfold OwnKy
  rw[List.length_append,List.length_singleton,hlen,List.flatMap_append]
  simpa[keyC] using h1
def KyK(w:World) (R:Nat→Prop) (cs:List Value) (x:Nat×Nat):Prop:=cs=keyC x
theorem flat_ky:∀(ks:List (Nat×Nat)) (k:Nat) (x:Nat×Nat),ks[k]?=some x→∀i c,(keyC x)[i]?=some c→(ks.flatMap keyC)[k * 2+i]?=some c
 | [],k,f,h=>by simp at h
 | x :: r,0,f,h=>by
  simp at h;subst h
  intro i c hc
  have hi:i<(keyC x).length:=(List.getElem?_eq_some_iff.1 hc).1
  rw[List.flatMap_cons,Nat.zero_mul,Nat.zero_add,List.getElem?_append_left hi];exact hc
 | x :: r,k+1,f,h=>by
  intro i c hc
  have hl:(keyC x).length=2:=rfl
  rw[List.flatMap_cons,List.getElem?_append_right (by rw[hl];omega),hl]
  have:=flat_ky r k f (by simpa using h) i c hc
  rw[←this]
  congr 1
  omega
theorem OwnKy.slS{w:World} {base:Nat} {v:Value} {ks:List (Nat×Nat)} (h:OwnKy w base v ks):SlS 2 KyK w (Fr base w.heap.size) v ks:=by
 have h1:w.ownsRow base 67 2 v ks.length (ks.flatMap keyC):=h
 have hc:=fun g=>h1.cells (g:=g)
 have hlt:=h1.lt
 rcases h1.2 with ⟨rfl,h0⟩ | ⟨g,cap,cur,rfl,_,_,h2,h3,_⟩
 ·unfold SlS;rw[h0];exact Row.nil _ _ _
 ·refine⟨_,cap,rfl,h2,Nat.le_trans h2 h3,fun _=>⟨g,0,rfl,hlt g rfl,fun k f hf=>⟨keyC f,rfl,fun i c hi=>?_,rfl⟩⟩⟩
  have e1:∀j,(⟨g,0,none⟩:Addr).add j=⟨g,0+j,none⟩:=fun j=>by unfold Addr.add;split <;> simp_all
  rw[Nat.add_assoc,←e1]
  exact hc g rfl _ _ (flat_ky ks k f hf i c hi)
theorem two_ky{cs:List Value} {x:Nat×Nat} {w:World} {p o:Nat} (h:∀i c,cs[i]?=some c→w.cell? ⟨p,o+i,none⟩=some c) (e:cs=keyC x) :
  w.cell? ⟨p,o,none⟩=some (.int .i64 (x.1:Int))∧w.cell? ⟨p,o+1,none⟩=some (.int .i64 (x.2:Int)):=by
 subst e
 exact⟨h 0 _ rfl,h 1 _ rfl⟩

end Go.Proofs.YtcfkllnpkmebpaaGreatDoor
