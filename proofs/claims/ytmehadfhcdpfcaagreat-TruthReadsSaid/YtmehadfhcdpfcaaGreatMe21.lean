/- The policy of a volume, and how many fragments of a stripe are intact: the reference, walked. -/
import Derived.BigQuiet
import Derived.Deep.QuietTactic
import Derived.Deep.MidRow
import Derived.Test.YtmehadfhcdpfcaaGreatMe20
import Derived.Test.YtmehadfhcdpfcaaGreatMe15
import Derived.Test.YtmehadfhcdpfcaaGreatMe01
import Derived.Test.YtmehadfhcdpfcaaGreatMe16
import Derived.Test.YtmehadfhcdpfcaaGreatMe04
set_option maxRecDepth 100000
set_option maxHeartbeats 12800000
namespace Go.Proofs.YtmehadfhcdpfcaaGreat
open Go.RowKit
set_option linter.unusedVariables false
set_option linter.unusedSimpArgs false
theorem results_cell{P:Program} (fn:Func) (t:TypeId) (a:Nat) (tmps:Array Value) (w:World) (v:Value) (ad:Addr) (hr:fn.results=#[.cell a t]) (hv:tmps.getD a undef=.pointer (some ad)) (hl:(loadVar t ad).run P w=.ok v w):(results fn tmps).run P w=.ok v w:=by
 unfold results
 rw[hr,Array.mapM_eq_mapM_toList]
 simp only[List.mapM_cons,List.mapM_nil,hv,asAddr]
 simp[hl]
def volP(F:FltM) (v:Nat):Nat:=match F.vols[v]? with | some x=>x.pol.toNat | none=>0
def kOf(F:FltM) (v:Nat):Int:=match F.pols[volP F v]? with | some x=>x.k | none=>1
def mOf(F:FltM) (v:Nat):Int:=match F.pols[volP F v]? with | some x=>x.m | none=>0
def qOf(F:FltM) (v:Nat):Int:=match F.pols[volP F v]? with | some x=>x.q | none=>1
def PolAt(w:World) (F:FltM) (pb pof ob oof:Nat):Prop:=∀v,v<F.vols.length→volP F v<F.pols.length∧∃nm:ByteArray,w.rangeAt ob (oof+v * 2) [.string nm,.int .i64 (volP F v:Int)] ∧
 ∃a0 a4 a5 a6 a7 a8 a9 a10 a11 a12 a13 a14 a15 a16:Value,w.rangeAt pb (pof+volP F v * 17) [a0,.int .i64 (kOf F v),.int .i64 (mOf F v),.int .i64 (qOf F v),a4,a5,a6,a7,a8,a9,a10,a11,a12,a13,a14,a15,a16]∧(#[a0,.int .i64 (kOf F v),.int .i64 (mOf F v),.int .i64 (qOf F v),a4,a5,a6,a7,a8,a9,a10,a11,a12,a13,a14,a15,a16]:Array Value).all (·.oneCell')=true
theorem PolAt.same{w w':World} {F:FltM} {pb pof ob oof:Nat} (h:PolAt w F pb pof ob oof) (e1:w'.heap[pb]?=w.heap[pb]?) (e2:w'.heap[ob]?=w.heap[ob]?):PolAt w' F pb pof ob oof:=fun v hv=>by
 obtain⟨h1,nm,h2,a0,a4,a5,a6,a7,a8,a9,a10,a11,a12,a13,a14,a15,a16,h3,h4⟩:=h v hv
 exact⟨h1,nm,range_same h2 e2,a0,a4,a5,a6,a7,a8,a9,a10,a11,a12,a13,a14,a15,a16,range_same h3 e1,h4⟩
theorem volP_lt{N:Nat} {F:FltM} (hok:FleetOk N F) {v:Nat} (hv:v<F.vols.length):volP F v<F.pols.length∧(F.vols[v]).pol=(volP F v:Int):=by
 obtain⟨-,-,p,h1,h2⟩:=hok.vols v F.vols[v] (List.getElem?_eq_getElem hv)
 have e:volP F v=p:=by unfold volP;rw[List.getElem?_eq_getElem hv];simp[h1]
 rw[e];exact⟨h2,h1⟩
theorem kmq_ok{N:Nat} {F:FltM} (hok:FleetOk N F) {v:Nat} (hv:v<F.vols.length):(kOf F v=1∨kOf F v=2)∧0≤mOf F v∧mOf F v≤2∧kOf F v≤qOf F v∧qOf F v≤kOf F v+mOf F v:=by
 have hp:=(volP_lt hok hv).1
 obtain⟨-,-,h1,h2,h3,h4,h5,-⟩:=hok.pols (volP F v) F.pols[volP F v] (List.getElem?_eq_getElem hp)
 unfold kOf mOf qOf
 rw[List.getElem?_eq_getElem hp]
 exact⟨h1,h2,h3,h4,h5⟩
theorem polAt{N:Nat} {F:FltM} {w:World} {R:Nat→Prop} {vl vm vd vv vp vo:Value} (hf:FleetS w R vl vm vd vv vp vo F) (hok:FleetOk N F) :
  ∃pb pof ob oof cp co,vp=.slice (some ⟨pb,pof,none⟩) F.pols.length cp∧vo=.slice (some ⟨ob,oof,none⟩) F.vols.length co∧R pb∧R ob∧PolAt w F pb pof ob oof:=by
 obtain⟨Ap,cp,rfl,-,-⟩:=hf.2.2.2.2.1.form
 obtain⟨Ao,co,rfl,-,-⟩:=hf.2.2.2.2.2.form
 obtain⟨pb,pof,cs0,rfl,hRp,-⟩:=hf.2.2.2.2.1.at_ (k:=0) (by have:=hok.pol1;omega)
 obtain⟨ob,oof,cs1,rfl,hRo,-⟩:=hf.2.2.2.2.2.at_ (k:=0) (by have:=hok.vol1;omega)
 refine⟨pb,pof,ob,oof,cp,co,rfl,rfl,hRp,hRo,fun v hv=>?_⟩
 obtain⟨hp,hpe⟩:=volP_lt hok hv
 refine⟨hp,F.vols[v].name,?_,?_⟩
 ·obtain⟨b,off,cs,e,-,-,hc,hcs⟩:=hf.2.2.2.2.2.at_ (k:=v) hv
  injection e with e
  injection e with e1 e2
  subst e1 e2
  unfold VolK at hcs
  rw[hpe] at hcs
  subst hcs
  exact hc
 ·obtain⟨b,off,cs,e,-,-,hc,vm,vr,tn,td,hn,hd,hcs,k1,k2,k3,k4,k5,k6⟩:=hf.2.2.2.2.1.at_ (k:=volP F v) hp
  injection e with e
  injection e with e1 e2
  subst e1 e2
  obtain⟨A1,c1,rfl,-,-⟩:=k1.form7
  obtain⟨A2,c2,rfl,-,-⟩:=k2.form
  obtain⟨A3,N3,c3,rfl⟩:=k3.frm
  obtain⟨A4,N4,c4,rfl⟩:=k4.frm
  obtain⟨A5,N5,c5,rfl⟩:=k5.frm
  obtain⟨A6,N6,c6,rfl⟩:=k6.frm
  subst hcs
  have ek:kOf F v=F.pols[volP F v].k:=by unfold kOf;rw[List.getElem?_eq_getElem hp]
  have em:mOf F v=F.pols[volP F v].m:=by unfold mOf;rw[List.getElem?_eq_getElem hp]
  have eq:qOf F v=F.pols[volP F v].q:=by unfold qOf;rw[List.getElem?_eq_getElem hp]
  rw[ek,em,eq]
  exact⟨_,_,_,_,_,_,_,_,_,_,_,_,_,_,hc,by simp[Value.oneCell']⟩
theorem bel_take(xs:List Int) (n:Int) (j:Nat) (hj:j<xs.length):((xs.take (j+1)).filter (fun x=>decide (x<n))).length=((xs.take j).filter (fun x=>decide (x<n))).length+(if xs[j]<n then 1 else 0):=by
 rw[List.take_succ_eq_append_getElem hj,List.filter_append,List.length_append]
 congr 1
 by_cases h:xs[j]<n <;> simp[h]
theorem rbelow_any(v:Value) (xs:List Int) (n:Int) (R:Nat→Prop) (w:World) (h:IntS w R v xs) :
  Calls Tryz.prog 49 #[v,.int .i64 n] w fun e w'=>e=.returned (.int .i64 (((xs.filter (fun x=>decide (x<n))).length:Nat):Int))∧w=w':=by
 obtain⟨A,c,rfl,-,hm⟩:=h.form7
 unfold maxLen at hm
 have HS:=zh h
 have hle:=fun j=>List.length_filter_le (fun x=>decide (x<n)) (xs.take j)
 have HLE:=zh hle
 obtain⟨L,hL⟩:=zx xs.length
 rw[←hL] at HS hm ⊢
 have HL:=zh hL
 obtain⟨cn,hcn⟩:∃f:Nat→Nat,f=fun j=>((xs.take j).filter (fun x=>decide (x<n))).length:=⟨_,rfl⟩
 have HT:=zh (fun j (hj:j<xs.length)=>(show cn (j+1)=cn j+(if xs[j]<n then 1 else 0) from by rw[hcn];exact bel_take xs n j hj))
 have h0:cn 0=0:=by rw[hcn];rfl
 have HC:=zh (fun j=>(show cn j≤j from by rw[hcn];exact Nat.le_trans (HLE.out j) (by rw[List.length_take];omega)))
 have HE:=zh (show cn xs.length=(xs.filter (fun x=>decide (x<n))).length from by rw[hcn];simp)
 rw[←HE.out]
 rw[←hL]
 clear h hle HLE hL hcn
 go_enter Tryz.func49,Tryz.ntmps49
 go_wp2_with fail
 go_loopg [5,6] L (fun z v5 v6 wr=>w=wr∧∃j:Nat,j≤L∧z=L - j∧v5=.int .i64 (cn j:Int)∧v6=.int .i64 (j:Int))
 case atStart=>exact⟨rfl,0,by omega,rfl,by rw[h0];rfl,rfl⟩
 case round =>
  obtain⟨rfl,j,hj,rfl,rfl,rfl⟩:=hrel
  by_cases hlt:j<L
  ·have hjl:j<xs.length:=by rw[←HL.out];exact hlt
   obtain⟨b,off,rfl,-,hc,-⟩:=HS.out.at7 (k:=j) hjl
   have ht:=HT.out j hjl
   have hcj:=HC.out j
   obtain⟨x,hx⟩:=zx (xs[j])
   rw[←hx] at hc ht
   have HT2:=zh ht
   by_cases hxn:x<n
   ·have HXN:=zh hxn
    clear hx ht hjl h0
    go_wp2_with fail
    go_roundg (L - (j+1))
    case measure=>omega
    case rel=>exact⟨rfl,j+1,by omega,rfl,by rw[HT2.out,if_pos HXN.out];go_num,by go_num⟩
   ·have HXN:=zh hxn
    clear hx ht hjl h0
    go_wp2_with fail
    go_roundg (L - (j+1))
    case measure=>omega
    case rel=>exact⟨rfl,j+1,by omega,rfl,by rw[HT2.out,if_neg (by have:=HXN.out;omega)];rfl,by go_num⟩
  ·obtain rfl:L=j:=by omega
   go_wp2_with fail
   go_ret
   exact⟨rfl,rfl⟩
theorem rpolicy_any(ext k m q:Int) (vl vm vd vv a0 a4 a5 a6 a7 a8 a9 a10 a11 a12 a13 a14 a15 a16:Value) (nm:ByteArray) (pb pof ob oof NP NO cp co v p:Nat) (w:World) (hv:v<NO) (hp:p<NP) (hno:NO≤1000) (hnp:NP≤1000)
  (hvol:w.rangeAt ob (oof+v * 2) [.string nm,.int .i64 (p:Int)]) (hpol:w.rangeAt pb (pof+p * 17) [a0,.int .i64 k,.int .i64 m,.int .i64 q,a4,a5,a6,a7,a8,a9,a10,a11,a12,a13,a14,a15,a16]) (hone:(#[a0,.int .i64 k,.int .i64 m,.int .i64 q,a4,a5,a6,a7,a8,a9,a10,a11,a12,a13,a14,a15,a16]:Array Value).all (·.oneCell')=true) :
  Calls Tryz.prog 48 #[.agg #[.int .i64 ext,vl,vm,vd,vv,.slice (some ⟨pb,pof,none⟩) NP cp,.slice (some ⟨ob,oof,none⟩) NO co],.int .i64 (v:Int)] w fun e w'=>e=.returned (.agg #[a0,.int .i64 k,.int .i64 m,.int .i64 q,a4,a5,a6,a7,a8,a9,a10,a11,a12,a13,a14,a15,a16])∧Below w.heap.size w w':=by
 obtain⟨W0,hW0⟩:=zx ((w.alloc (.cells #[.int .i64 ext,vl,vm,vd,vv,.slice (some ⟨pb,pof,none⟩) NP cp,.slice (some ⟨ob,oof,none⟩) NO co] 37)).alloc (.cells #[.string ⟨#[]⟩,.int .i64 0,.int .i64 0,.int .i64 0,.int .i64 0,.int .i64 0,.int .i64 0,.int .i64 0,.int .i64 0,.slice none 0 0,.slice none 0 0,.bool false,.slice none 0 0,.slice none 0 0,.bool false,.slice none 0 0,.slice none 0 0] 63))
 obtain⟨z,hz⟩:=zx w.heap.size
 obtain⟨g,hg⟩:=zx (w.heap.size+1)
 have hb0:Below w.heap.size w W0:=by rw[hW0];exact((Below.refl _ _).alloc (Nat.le_refl _) _).alloc (by simp) _
 have hgk:W0.heap[g]?=some (.cells #[.string ⟨#[]⟩,.int .i64 0,.int .i64 0,.int .i64 0,.int .i64 0,.int .i64 0,.int .i64 0,.int .i64 0,.int .i64 0,.slice none 0 0,.slice none 0 0,.bool false,.slice none 0 0,.slice none 0 0,.bool false,.slice none 0 0,.slice none 0 0] 63 (0,0)):=by
  rw[hW0];exact heap_alloc_at _ _ _ (by rw[hg];simp)
 have hzk:W0.heap[z]?=some (.cells #[.int .i64 ext,vl,vm,vd,vv,.slice (some ⟨pb,pof,none⟩) NP cp,.slice (some ⟨ob,oof,none⟩) NO co] 37 (0,0)):=by
  rw[hW0,hz];exact(Below.heap_alloc _ _ _ (by simp)).trans (heap_alloc_new w _)
 have z5:W0.drew.cell? ⟨z,5,none⟩=some (.slice (some ⟨pb,pof,none⟩) NP cp):=by rw[cell_of_row W0.drew z 5 _ _ _ hzk];rfl
 have z6:W0.drew.cell? ⟨z,6,none⟩=some (.slice (some ⟨ob,oof,none⟩) NO co):=by rw[cell_of_row W0.drew z 6 _ _ _ hzk];rfl
 have hob:ob<w.heap.size:=World.block_lt_of_cell? w _ (hvol 0 _ rfl)
 have hpb:pb<w.heap.size:=World.block_lt_of_cell? w _ (hpol 0 _ rfl)
 have hv0:W0.drew.cell? ⟨ob,oof+v * 2+1,none⟩=some (.int .i64 (p:Int)):=(World.cell?_of_block (w:=w) (w':=W0.drew) (hb0.block ob hob)).trans (hvol 1 _ rfl)
 have hp0:W0.drew.rangeAt pb (pof+p * 17) [a0,.int .i64 k,.int .i64 m,.int .i64 q,a4,a5,a6,a7,a8,a9,a10,a11,a12,a13,a14,a15,a16]:=range_same hpol (hb0.block pb hpb)
 have HTH:=zh (show W0.drew.there g 0 17 from there_of_block (w:=W0.drew) (cs:=#[.string ⟨#[]⟩,.int .i64 0,.int .i64 0,.int .i64 0,.int .i64 0,.int .i64 0,.int .i64 0,.int .i64 0,.int .i64 0,.slice none 0 0,.slice none 0 0,.bool false,.slice none 0 0,.slice none 0 0,.bool false,.slice none 0 0,.slice none 0 0]) hgk (Nat.le_refl 17))
 have HS0:=zh (And.intro z5 (And.intro z6 (And.intro hv0 hp0)))
 have HON:=zh hone
 have HW0:=zh hW0
 have HG:=zh hg
 have HGW:=zh (show w.heap.size≤g from by omega)
 have HQ:=zh hz
 have HB0:=zh hb0
 have i1:(v:Int)<(NO:Int):=by omega
 have i2:(p:Int)<(NP:Int):=by omega
 clear hvol hpol hone hW0 hz hg hb0 hgk hzk z5 z6 hob hpb hv0 hp0 hv hp
 go_enter Tryz.func48,Tryz.ntmps48
 go_upto_region 1 with fail
 rw[←HW0.out,←HG.out,←HQ.out]
 refine region_tail (S:=(fun w'=>w'.cell? ⟨z,5,none⟩=some (.slice (some ⟨pb,pof,none⟩) NP cp)∧w'.cell? ⟨z,6,none⟩=some (.slice (some ⟨ob,oof,none⟩) NO co)∧w'.cell? ⟨ob,oof+v * 2+1,none⟩=some (.int .i64 (p:Int))∧w'.rangeAt pb (pof+p * 17) [a0,.int .i64 k,.int .i64 m,.int .i64 q,a4,a5,a6,a7,a8,a9,a10,a11,a12,a13,a14,a15,a16])) [10] (by kernel_rfl) HS0.out (fun hHeld=>?_)
 refine tk 0 5 ?_
 refine tk 1 6 ?_
 refine tk 2 7 ?_
 refine tk 3 8 ?_
 refine tk 4 9 ?_
 refine tk 5 10 ?_
 refine tk 6 11 ?_
 refine tk 7 12 ?_
 refine tk 8 13 ?_
 refine takeT (i:=9) (d:=14) (v:=(.agg #[a0,.int .i64 k,.int .i64 m,.int .i64 q,a4,a5,a6,a7,a8,a9,a10,a11,a12,a13,a14,a15,a16])) rfl rfl (by kernel_rfl) (by kernel_rfl) (by kernel_rfl) (by kernel_rfl) (fun _ _ _ h=>h) (yieldsIf_load_mid (by rfl) 63 (.tmp 13) rfl pb (pof+p * 17) (by rfl) [a0,.int .i64 k,.int .i64 m,.int .i64 q,a4,a5,a6,a7,a8,a9,a10,a11,a12,a13,a14,a15,a16] _ (fun w hw=>hw.2.2.2) Tryz.underlying63 rfl size_pol) (by assumption) ?_
 (try simp only[Act.put,z1,z2,z3])
 refine readyT (rs:=[10]) (by kernel_rfl) (by simp) ?_
 refine AllReadyT.consT rfl rfl (fun K hK=>?_) ?_
 ·rw[if_pos (by rfl)]
  refine wp_store_mid 63 (.tmp 4) (.tmp 14) rfl g 0 #[a0,.int .i64 k,.int .i64 m,.int .i64 q,a4,a5,a6,a7,a8,a9,a10,a11,a12,a13,a14,a15,a16] (by rfl) (by rfl) HTH.out size_pol HON.out ?_
  refine hK.out _ _ ?_
  clear hK K
  (try simp only[Act.put,z1,z2,z3])
  refine doneT (by kernel_rfl) ?_ _
  go_wp2_with fail
  obtain⟨w5,hw5⟩:=zx (World.setCells W0.drew g 0 [a0,.int .i64 k,.int .i64 m,.int .i64 q,a4,a5,a6,a7,a8,a9,a10,a11,a12,a13,a14,a15,a16])
  rw[←hw5]
  have hr5:w5.rangeAt g 0 [a0,.int .i64 k,.int .i64 m,.int .i64 q,a4,a5,a6,a7,a8,a9,a10,a11,a12,a13,a14,a15,a16]:=by rw[hw5];exact World.rangeAt_setCells_same _ _ _ _ HTH.out
  have hb5:Below w.heap.size w w5:=by rw[hw5];exact below_setCellsV HGW.out _ _ _ HB0.out.drew
  clear hw5 hHeld
  have hld:=run_loadVar_mid (P:=Tryz.prog) w5 g 0 63 _ _ hr5 Tryz.underlying63 rfl size_pol
  exact bodyPost_ret (v:=.agg #[a0,.int .i64 k,.int .i64 m,.int .i64 q,a4,a5,a6,a7,a8,a9,a10,a11,a12,a13,a14,a15,a16]) (results_cell _ 63 4 _ _ _ ⟨g,0,none⟩ Tryz.results48 (by rfl) hld) rfl ⟨rfl,hb5⟩
 exact AllReadyT.nil
def HeldC(W0:World) (y g:Nat) (a b c d e:Value) (w':World):Prop :=
 w'.cell? ⟨y,0,none⟩=some a∧w'.cell? ⟨y,1,none⟩=some b∧w'.cell? ⟨y,2,none⟩=some c∧w'.cell? ⟨g,1,none⟩=some d∧w'.cell? ⟨g,2,none⟩=some e∧Below W0.heap.size W0 w'
theorem HeldC.below{W0 wc w2:World} {y g:Nat} {a b c d e:Value} (h:HeldC W0 y g a b c d e wc) (hb:Below wc.heap.size wc w2) (h1:y<W0.heap.size) (h2:g<W0.heap.size):HeldC W0 y g a b c d e w2:=by
 obtain⟨c0,c1,c2,c3,c4,hB⟩:=h
 have hs:=hB.size
 have k:∀i,w2.cell? ⟨y,i,none⟩=wc.cell? ⟨y,i,none⟩:=fun i=>hb.cell (p:=⟨y,i,none⟩) (Nat.lt_of_lt_of_le h1 hs)
 have k':∀i,w2.cell? ⟨g,i,none⟩=wc.cell? ⟨g,i,none⟩:=fun i=>hb.cell (p:=⟨g,i,none⟩) (Nat.lt_of_lt_of_le h2 hs)
 exact⟨(k _).trans c0,(k _).trans c1,(k _).trans c2,(k' _).trans c3,(k' _).trans c4,hB.trans (hb.mono hs)⟩
theorem HeldC.bl{W0 wc:World} {y g:Nat} {a b c d e:Value} (h:HeldC W0 y g a b c d e wc):Below W0.heap.size W0 wc:=h.2.2.2.2.2
def keyC(x:Nat×Nat):List Value:=[.int .i64 (x.1:Int),.int .i64 (x.2:Int)]
def OwnKy(w:World) (base:Nat) (v:Value) (ks:List (Nat×Nat)):Prop:=w.ownsRow base 74 2 v ks.length (ks.flatMap keyC)
theorem OwnKy.nil(w:World) (base:Nat):OwnKy w base (.slice none 0 0) []:=World.ownsRow_nil _ _ _ _
theorem OwnKy.below{w w2:World} {base:Nat} {v:Value} {ks:List (Nat×Nat)} (h:OwnKy w base v ks) (hb:Below w.heap.size w w2):OwnKy w2 base v ks:=own_below h hb
theorem OwnKy.base{w:World} {B B':Nat} {v:Value} {ks:List (Nat×Nat)} (h:OwnKy w B v ks) (hB:B'≤B):OwnKy w B' v ks:=own_base h hB
theorem OwnKy.form{w:World} {base:Nat} {v:Value} {ks:List (Nat×Nat)} (h:OwnKy w base v ks):∃A c,v=.slice A ks.length c:=own_form h
theorem OwnKy.lt{w:World} {base:Nat} {v:Value} {ks:List (Nat×Nat)} (h:OwnKy w base v ks):∀b,v.ownBlock=some b→base≤b∧b<w.heap.size:=World.ownsRow.lt h
def KyK(w:World) (R:Nat→Prop) (cs:List Value) (x:Nat×Nat):Prop:=cs=keyC x
theorem flat_ky:∀(ks:List (Nat×Nat)) (k:Nat) (x:Nat×Nat),ks[k]?=some x→∀i c,(keyC x)[i]?=some c→(ks.flatMap keyC)[k * 2+i]?=some c
 | [],k,f,h=>by simp at h
 | x :: r,0,f,h=>by
  simp at h;subst h
  intro i c hc
  have hi:i<(keyC x).length:=(List.getElem?_eq_some_iff.1 hc).1
  rw[List.flatMap_cons,Nat.zero_mul,Nat.zero_add,List.getElem?_append_left hi];exact hc
 | x :: r,k+1,f,h=>by
  intro i c hc
  have hl:(keyC x).length=2:=rfl
  rw[List.flatMap_cons,List.getElem?_append_right (by rw[hl];omega),hl]
  have:=flat_ky r k f (by simpa using h) i c hc
  rw[←this]
  congr 1
  omega
theorem OwnKy.slS{w:World} {base:Nat} {v:Value} {ks:List (Nat×Nat)} (h:OwnKy w base v ks):SlS 2 KyK w (Fr base w.heap.size) v ks:=by
 have h1:w.ownsRow base 74 2 v ks.length (ks.flatMap keyC):=h
 have hc:=fun g=>h1.cells (g:=g)
 have hlt:=h1.lt
 rcases h1.2 with ⟨rfl,h0⟩ | ⟨g,cap,cur,rfl,_,_,h2,h3,_⟩
 ·unfold SlS;rw[h0];exact Row.nil _ _ _
 ·refine⟨_,cap,rfl,h2,Nat.le_trans h2 h3,fun _=>⟨g,0,rfl,hlt g rfl,fun k f hf=>⟨keyC f,rfl,fun i c hi=>?_,rfl⟩⟩⟩
  have e1:∀j,(⟨g,0,none⟩:Addr).add j=⟨g,0+j,none⟩:=fun j=>by unfold Addr.add;split <;> simp_all
  rw[Nat.add_assoc,←e1]
  exact hc g rfl _ _ (flat_ky ks k f hf i c hi)
theorem out_filter(r:Re) (up:Bool) (l:List Fd) (n:Int):∀j,j≤8→outTo r up l n j=(outTo r up l 8 j).filter (fun x=>decide (x<n))
 | 0,_=>rfl
 | j+1,h=>by
  rw[outTo_succ,outTo_succ,List.filter_append,out_filter r up l n j (by omega)]
  congr 1
  by_cases h1:hasB r up l j=true
  ·by_cases h2:(j:Int)<n
   ·rw[if_pos ⟨h1,h2⟩,if_pos ⟨h1,by omega⟩];simp[h2]
   ·rw[if_neg (fun h=>h2 h.2),if_pos ⟨h1,by omega⟩];simp[h2]
  ·rw[if_neg (fun h=>h1 h.1),if_neg (fun h=>h1 h.1)];rfl
def frT(r:Re) (v s:Nat) (up:Bool) (n:Nat):List Int:=outTo r up (stripeP (pieces r) (v:Int) (s:Int)) (n:Int) 8
def pickF(r:Re) (l:List Fd) (up:Bool) (i:Int):Frg:=⟨i,((l.find? (srcC r up i)).map (·.p.data)).getD []⟩
def hvT(r:Re) (v s:Nat) (up:Bool) (k n:Nat):List Frg:=((frT r v s up n).take k).map (pickF r (stripeP (pieces r) (v:Int) (s:Int)) up)
def conE(r:Re) (v s:Nat) (up:Bool) (k n:Nat):Int:=if(frT r v s up n).length<k then 121 else decE (k:Int) ((n:Int) - (k:Int)) (hvT r v s up k n)
def conS(r:Re) (v s:Nat) (up:Bool) (k n:Nat):List UInt8:=if(frT r v s up n).length<k then [] else if decE (k:Int) ((n:Int) - (k:Int)) (hvT r v s up k n)=0 then((wordT k n (decD k (hvT r v s up k n)) (rowLen (hvT r v s up k n))).take k).flatten else []
def HeldX(gi lb o:Nat) (a b:Value) (w':World):Prop:=w'.cell? ⟨gi,0,none⟩=some a∧w'.cell? ⟨lb,o,none⟩=some b
theorem HeldX.same{wc w2:World} {gi lb o:Nat} {a b:Value} (h:HeldX gi lb o a b wc) (e1:w2.heap[gi]?=wc.heap[gi]?) (e2:w2.heap[lb]?=wc.heap[lb]?):HeldX gi lb o a b w2 :=
 ⟨(World.cell?_of_block (w:=wc) e1).trans h.1,(World.cell?_of_block (w:=wc) e2).trans h.2⟩
theorem conv_piece(y:ByteArray) (w:World) (hy:y.size≤maxLen):∃(cap:Nat) (w':World),(convert 9 88 (.string y)).run Tryz.prog w=.ok (.slice (some ⟨w.heap.size,0,none⟩) y.size cap) w'∧Below w.heap.size w w'∧w'.heap.size=w.heap.size+1∧ByS w' (Fr w.heap.size (w.heap.size+1)) (.slice (some ⟨w.heap.size,0,none⟩) y.size cap) y.data.toList:=by
 have h:=run_bytes_of_string (P:=Tryz.prog) w 9 88 5 y Tryz.underlying9 Tryz.underlying88 Tryz.underlying5
 refine⟨_,_,h,(Below.refl _ _).drew.alloc (Nat.le_refl _) _,by show(Array.push w.heap _).size=w.heap.size+1;exact Array.size_push _,?_⟩
 have hg:=grownCap_ge w y.size 0 5
 refine⟨_,_,rfl,hg,hy,fun _=>⟨w.heap.size,0,rfl,⟨Nat.le_refl _,Nat.lt_succ_self _⟩,fun k x hk=>?_⟩⟩
 rw[Nat.zero_add]
 have hk2:=(List.getElem?_eq_some_iff.1 hk)
 have hb:=heap_alloc_new w.drew (.cells (bytesRow y (grownCap w y.size 0 5)) 5 ((bytesRow y (grownCap w y.size 0 5)).size,(bytesRow y (grownCap w y.size 0 5)).size+1))
 rw[show(⟨w.heap.size,k,none⟩:Addr)=⟨w.drew.heap.size,k,none⟩ from rfl,cell_of_row _ _ _ _ _ _ hb]
 unfold bytesRow
 rw[Array.getElem?_append_left (by simp;exact hk2.1),Array.getElem?_map]
 have h3:y.data[k]?=some x:=by rw[←Array.getElem?_toList];exact hk
 rw[h3];rfl
theorem isStripe_any(ext:Int) (vl vm vd vv vp:Value) (A:Option Addr) (NO co v s:Nat) (w:World) (hv:v<NO) (hs:(s:Int)<ext) :
  Calls Tryz.prog 39 #[.agg #[.int .i64 ext,vl,vm,vd,vv,vp,.slice A NO co],.int .i64 (v:Int),.int .i64 (s:Int)] w fun e w'=>e=.returned (.bool true)∧Below w.heap.size w w':=by
 have f1:decide ((0:Int)≤(v:Int))=true:=decide_eq_true (by omega)
 have f2:decide ((0:Int)≤(s:Int))=true:=decide_eq_true (by omega)
 have i1:(v:Int)<(NO:Int):=by omega
 go_enter Tryz.func39,Tryz.ntmps39
 go_wp2_with fail
 go_ret
 exact⟨rfl,(Below.refl _ _).alloc (Nat.le_refl _) _⟩
theorem idxC_ok(r:Re) (up:Bool) (l:List Fd) (n:Int) (x:Int) (hx:x∈outTo r up l n 8):∃(t:Nat) (h:t<l.length),idxC r up x l=(t:Int)∧l.find? (srcC r up x)=some l[t]:=by
 unfold outTo at hx
 obtain⟨i,-,hi⟩:=List.mem_filterMap.1 hx
 by_cases hc:hasB r up l i=true∧(i:Int)<n
 ·rw[if_pos hc] at hi
  injection hi with hi
  subst hi
  have ha:l.any (srcC r up (i:Int))=true:=hc.1
  have hne:(l.findIdx? (srcC r up (i:Int)))≠none:=fun e=>by
   rw[List.findIdx?_eq_none_iff] at e
   obtain⟨y,hy,hp⟩:=List.any_eq_true.1 ha
   rw[e y hy] at hp;cases hp
  obtain⟨t,ht⟩:=Option.ne_none_iff_exists'.1 hne
  obtain⟨h1,h2,h3⟩:=List.findIdx?_eq_some_iff_getElem.1 ht
  refine⟨t,h1,by unfold idxC;rw[ht],?_⟩
  rw[List.find?_eq_some_iff_getElem]
  exact⟨h2,t,h1,rfl,fun u hu=>by have:=h3 u hu;simpa using this⟩
 ·rw[if_neg hc] at hi;cases hi
theorem hvT_le(r:Re) (v s:Nat) (up:Bool) (k n:Nat) (h16:∀x∈stripeP (pieces r) (v:Int) (s:Int),x.p.data.length=16):∀h∈hvT r v s up k n,h.data.length≤16:=fun h hh=>by
 obtain⟨i,-,rfl⟩:=List.mem_map.1 hh
 unfold pickF
 cases hf:(stripeP (pieces r) (v:Int) (s:Int)).find? (srcC r up i) with
 | none=>simp
 | some x=>simp[h16 x (List.mem_of_find?_eq_some hf)]
theorem hvT_row(r:Re) (v s:Nat) (up:Bool) (k n:Nat) (h16:∀x∈stripeP (pieces r) (v:Int) (s:Int),x.p.data.length=16) (hk:1≤k) (hl:k≤(frT r v s up n).length):rowLen (hvT r v s up k n)=16:=by
 unfold rowLen hvT datas
 rw[List.map_map]
 cases hfr:frT r v s up n with
 | nil=>rw[hfr] at hl;simp at hl;omega
 | cons i t =>
  obtain⟨k',rfl⟩:∃k',k=k'+1:=⟨k - 1,by omega⟩
  rw[List.take_succ_cons,List.map_cons]
  show(pickF r _ up i).data.length=16
  have hm:i∈outTo r up (stripeP (pieces r) (v:Int) (s:Int)) (n:Int) 8:=by
   have:i∈frT r v s up n:=by rw[hfr];simp
   exact this
  obtain⟨t',ht',-,hf⟩:=idxC_ok r up _ _ i hm
  unfold pickF
  rw[hf]
  exact h16 _ (List.getElem_mem ht')
theorem contents_any(N:Nat) (hN:N≤12) (vl vm vd vv vp vo vp0 vo0 va0:Value) (F:FltM) (r:Re) (v s EX KN KM:Nat) (up:Bool) (w:World) (hf:FleetS w (Bl w.heap.size) vl vm vd vv vp vo F) (hok:FleetOk N F) (h:ReS w (Bl w.heap.size) vp0 vo0 va0 r) (hp:r.plat.length≤1000) (hl:∀l∈r.plat,l.length≤1000) (hac:r.acks.length≤1000000)
  (hv:v<F.vols.length) (hEX:F.ext=(EX:Int)) (hs:s<EX) (hKN:kOf F v=(KN:Int)) (hKM:kOf F v+mOf F v=(KM:Int)) :
  Calls Tryz.prog 25 #[.agg #[.int .i64 F.ext,vl,vm,vd,vv,vp,vo],.agg #[vp0,vo0,va0],.int .i64 (v:Int),.int .i64 (s:Int),.bool up] w fun e w'=>e=.returned (.tuple #[.string ⟨(conS r v s up KN KM).toArray⟩,.int .i64 (conE r v s up KN KM)])∧Below w.heap.size w w':=by
 obtain⟨pb,pof,ob,oof,cp,co,rfl,rfl,hRp,hRo,hPA⟩:=polAt hf hok
 have HVA:=zh (fun(w':World) (hb:Below w.heap.size w w')=>fvalidate_any N hN vl vm vd vv _ _ F w' (hf.below hb) hok)
 have HIX:=zh (fun w1 h1=>index_any vp0 vo0 va0 r w1 h1 hp hl hac)
 have HRE:=zh (fun(w':World) (hb:Below w.heap.size w w')=>h.below hb)
 have HPL:=zh (piecesTo_all r r.plat.length)
 have HPD:=zh (pieces_drive r (by omega))
 obtain⟨hpl,nm,hvol,a0,a4,a5,a6,a7,a8,a9,a10,a11,a12,a13,a14,a15,a16,hpol,hone⟩:=hPA v hv
 obtain⟨kk,m1,m2,-,-⟩:=kmq_ok hok hv
 obtain⟨MM,hMM⟩:=zx (mOf F v)
 obtain⟨QQ,hQ⟩:=zx (qOf F v)
 obtain⟨p0,hpp⟩:=zx (volP F v)
 rw[hKN,←hMM,←hQ] at hpol hone
 rw[←hpp] at hvol hpl hpol
 rw[hKN,←hMM] at hKM
 rw[←hMM] at m1 m2
 rw[hKN] at kk
 have HKM:=zh (show(KN=1∨KN=2)∧0≤MM∧MM≤2∧(KN:Int)+MM=(KM:Int)∧KM≤4 from⟨by omega,m1,m2,hKM,by omega⟩)
 have hex:EX≤2:=by have:=hok.ext;omega
 have hno:=hok.volN
 have hnp:=hok.polN
 have HIS:=zh (fun(w':World)=>isStripe_any (EX:Int) vl vm vd vv (.slice (some ⟨pb,pof,none⟩) F.pols.length cp) (some ⟨ob,oof,none⟩) F.vols.length co v s w' hv (by omega))
 rw[hEX] at HVA ⊢
 have HI64:=zh (show I64 (v:Int)∧I64 (s:Int) from⟨by unfold I64;omega,by unfold I64;omega⟩)
 obtain⟨NO,hNO⟩:=zx F.vols.length
 obtain⟨NP,hNP⟩:=zx F.pols.length
 rw[←hNO] at hno hv HVA HIS ⊢
 rw[←hNP] at hnp hpl HVA HIS ⊢
 obtain⟨W0,hW0⟩:=zx (((w.alloc (.cells #[.int .i64 (EX:Int),vl,vm,vd,vv,.slice (some ⟨pb,pof,none⟩) NP cp,.slice (some ⟨ob,oof,none⟩) NO co] 37)).alloc (.cells #[vp0,vo0,va0] 27)).alloc (.cells #[.bool up] 4))
 obtain⟨z,hz⟩:=zx w.heap.size
 obtain⟨y,hy⟩:=zx (w.heap.size+1)
 obtain⟨gu,hgu⟩:=zx (w.heap.size+1+1)
 have hb0:Below w.heap.size w W0:=by rw[hW0];exact(((Below.refl _ _).alloc (Nat.le_refl _) _).alloc (by simp) _).alloc (by simp;omega) _
 have hgk:W0.heap[gu]?=some (.cells #[.bool up] 4 (0,0)):=by rw[hW0];exact heap_alloc_at _ _ _ (by rw[hgu];simp)
 have hyk:W0.heap[y]?=some (.cells #[vp0,vo0,va0] 27 (0,0)):=by
  rw[hW0];exact(Below.heap_alloc _ _ _ (by rw[hy];simp)).trans (heap_alloc_at _ _ _ (by rw[hy];simp))
 have hzk:W0.heap[z]?=some (.cells #[.int .i64 (EX:Int),vl,vm,vd,vv,.slice (some ⟨pb,pof,none⟩) NP cp,.slice (some ⟨ob,oof,none⟩) NO co] 37 (0,0)):=by
  rw[hW0,hz];exact(Below.heap_alloc _ _ _ (by simp;omega)).trans ((Below.heap_alloc _ _ _ (by simp)).trans (heap_alloc_new w _))
 have hyl:y<W0.heap.size:=(Array.getElem?_eq_some_iff.1 hyk).1
 have hzl:z<W0.heap.size:=(Array.getElem?_eq_some_iff.1 hzk).1
 have hgl:gu<W0.heap.size:=(Array.getElem?_eq_some_iff.1 hgk).1
 have HC:=zh (fun(w':World) (hb:Below W0.heap.size W0 w')=>And.intro (cells7 ((hb.block z hzl).trans hzk)) (And.intro (cells3 ((hb.block y hyl).trans hyk)) (show w'.cell? ⟨gu,0,none⟩=some (.bool up) from by rw[cell_of_row _ _ _ _ _ _ ((hb.block gu hgl).trans hgk)];rfl)))
 have HW0:=zh hW0
 have HZ:=zh hz
 have HY:=zh hy
 have HGU:=zh hgu
 have HB0:=zh hb0
 have HVOL:=zh (fun(w':World) (hb:Below W0.heap.size W0 w')=>(show w'.cell? ⟨ob,oof+v * 2+1,none⟩=some (.int .i64 (p0:Int)) from range_same hvol ((hb0.trans (hb.mono hb0.size)).block ob hRo) 1 _ rfl))
 have HPOL:=zh (fun(w':World) (hb:Below W0.heap.size W0 w')=>(show w'.rangeAt pb (pof+p0 * 17) [a0,.int .i64 (KN:Int),.int .i64 MM,.int .i64 QQ,a4,a5,a6,a7,a8,a9,a10,a11,a12,a13,a14,a15,a16] from range_same hpol ((hb0.trans (hb.mono hb0.size)).block pb hRp)))
 have HON:=zh hone
 have i1:(v:Int)<(NO:Int):=by omega
 have i2:(p0:Int)<(NP:Int):=by omega
 have i3:(KN:Int)≤2:=by omega
 have i4:(1:Int)≤(KN:Int):=by omega
 have i5:(KM:Int)≤4:=by have:=HKM.out;omega
 have hkw:IntKind.i64.wrap ((KN:Int)+MM)=(KM:Int):=by rw[HKM.out.2.2.2.1];exact IntWalk.i64_in _ (by omega)
 have hkm:(KN:Int)+MM=(KM:Int):=HKM.out.2.2.2.1
 have hkw2:IntKind.i64.wrap (KM:Int)=(KM:Int):=IntWalk.i64_in _ (by omega)
 have HMM:=zh (show MM=(KM:Int) - (KN:Int) from by omega)
 obtain⟨⟨c0,c1,c2,c3,c4,c5,c6⟩,-⟩:=HC.out W0 (Below.refl _ _)
 clear hf hok h hPA hRp hRo hvol hpol hone hW0 hz hy hgu hb0 hgk hyk hzk hyl hzl hgl hNO hNP hEX hKN hMM hQ hpp hpl kk m1 m2 hKM
 go_enter Tryz.func25,Tryz.ntmps25
 go_wp2_with fail
 rw[←HW0.out,←HGU.out,←HY.out,←HZ.out]
 refine(HVA.out _ HB0.out).mono ?_
 rintro e w0 ⟨rfl,hb00⟩
 have HB00:=zh hb00
 clear c0 c1 c2 c3 c4 c5 c6 hb00
 obtain⟨⟨c0,c1,c2,c3,c4,c5,c6⟩,-⟩:=HC.out w0 HB00.out
 go_wp2_with fail
 refine(HIS.out _).mono ?_
 rintro e w1 ⟨rfl,hb1⟩
 have HB1:=zh (HB00.out.trans (hb1.mono HB00.out.size))
 have HTH:=zh (show((w1.alloc (.cells #[.string ⟨#[]⟩,.int .i64 0,.int .i64 0,.int .i64 0,.int .i64 0,.int .i64 0,.int .i64 0,.int .i64 0,.int .i64 0,.slice none 0 0,.slice none 0 0,.bool false,.slice none 0 0,.slice none 0 0,.bool false,.slice none 0 0,.slice none 0 0] 63)).drew).there w1.heap.size 0 17 from there_of_block (w:=(w1.alloc (.cells #[.string ⟨#[]⟩,.int .i64 0,.int .i64 0,.int .i64 0,.int .i64 0,.int .i64 0,.int .i64 0,.int .i64 0,.int .i64 0,.slice none 0 0,.slice none 0 0,.bool false,.slice none 0 0,.slice none 0 0,.bool false,.slice none 0 0,.slice none 0 0] 63)).drew) (cs:=#[.string ⟨#[]⟩,.int .i64 0,.int .i64 0,.int .i64 0,.int .i64 0,.int .i64 0,.int .i64 0,.int .i64 0,.int .i64 0,.slice none 0 0,.slice none 0 0,.bool false,.slice none 0 0,.slice none 0 0,.bool false,.slice none 0 0,.slice none 0 0]) (heap_alloc_new w1 _) (Nat.le_refl 17))
 have HSK:=zh (fun(w':World) (hb:Below w1.heap.size w1 w')=>(show w'.cell? ⟨z,5,none⟩=some (.slice (some ⟨pb,pof,none⟩) NP cp)∧w'.cell? ⟨z,6,none⟩=some (.slice (some ⟨ob,oof,none⟩) NO co)∧w'.cell? ⟨ob,oof+v * 2+1,none⟩=some (.int .i64 (p0:Int))∧w'.rangeAt pb (pof+p0 * 17) [a0,.int .i64 (KN:Int),.int .i64 MM,.int .i64 QQ,a4,a5,a6,a7,a8,a9,a10,a11,a12,a13,a14,a15,a16] from by
  have hb0':=HB1.out.trans (hb.mono HB1.out.size)
  obtain⟨⟨-,-,-,-,-,x5,x6⟩,-⟩:=HC.out w' hb0'
  exact⟨x5,x6,HVOL.out w' hb0',HPOL.out w' hb0'⟩))
 clear c0 c1 c2 c3 c4 c5 c6 hb1
 go_upto_region 3 with fail
 refine region_tail (S:=(fun w'=>w'.cell? ⟨z,5,none⟩=some (.slice (some ⟨pb,pof,none⟩) NP cp)∧w'.cell? ⟨z,6,none⟩=some (.slice (some ⟨ob,oof,none⟩) NO co)∧w'.cell? ⟨ob,oof+v * 2+1,none⟩=some (.int .i64 (p0:Int))∧w'.rangeAt pb (pof+p0 * 17) [a0,.int .i64 (KN:Int),.int .i64 MM,.int .i64 QQ,a4,a5,a6,a7,a8,a9,a10,a11,a12,a13,a14,a15,a16])) [11] (by kernel_rfl) (HSK.out _ (Below.refl _ _).drew) (fun hHeld=>?_)
 refine tk 0 34 ?_
 refine tk 1 35 ?_
 refine tk 2 36 ?_
 refine tk 3 37 ?_
 refine tk 4 38 ?_
 refine tk 5 39 ?_
 refine tk 6 40 ?_
 refine tk 7 41 ?_
 refine tk 8 42 ?_
 refine takeT (i:=9) (d:=43) (v:=(.agg #[a0,.int .i64 (KN:Int),.int .i64 MM,.int .i64 QQ,a4,a5,a6,a7,a8,a9,a10,a11,a12,a13,a14,a15,a16])) rfl rfl (by kernel_rfl) (by kernel_rfl) (by kernel_rfl) (by kernel_rfl) (fun _ _ _ h=>h) (yieldsIf_load_mid (by rfl) 63 (.tmp 42) rfl pb (pof+p0 * 17) (by rfl) [a0,.int .i64 (KN:Int),.int .i64 MM,.int .i64 QQ,a4,a5,a6,a7,a8,a9,a10,a11,a12,a13,a14,a15,a16] _ (fun w hw=>hw.2.2.2) Tryz.underlying63 rfl size_pol) (by assumption) ?_
 (try simp only[Act.put,z1,z2,z3])
 refine readyT (rs:=[10]) (by kernel_rfl) (by simp) ?_
 refine AllReadyT.cons rfl (fun K hK=>?_) ?_
 ·go_simp
  refine hK.out _ _ ?_ (fun hHeld=>?_)
  ·exact HSK.out _ ((Below.refl _ _).drew.alloc (Nat.le_refl _) _)
  clear hK K
  (try simp only[Act.put,z1,z2,z3])
  refine readyT (rs:=[11]) (by kernel_rfl) (by simp) ?_
  refine AllReadyT.consT rfl rfl (fun K hK=>?_) ?_
  ·rw[if_pos (by rfl)]
   refine wp_store_mid 63 (.tmp 12) (.tmp 43) rfl w1.heap.size 0 #[a0,.int .i64 (KN:Int),.int .i64 MM,.int .i64 QQ,a4,a5,a6,a7,a8,a9,a10,a11,a12,a13,a14,a15,a16] (by rfl) (by rfl) HTH.out size_pol HON.out ?_
   refine hK.out _ _ ?_
   clear hK K
   (try simp only[Act.put,z1,z2,z3])
   refine doneT (by kernel_rfl) ?_ _
   clear hHeld
   obtain⟨W6,hW6⟩:=zx (World.setCells ((w1.alloc (.cells #[.string ⟨#[]⟩,.int .i64 0,.int .i64 0,.int .i64 0,.int .i64 0,.int .i64 0,.int .i64 0,.int .i64 0,.int .i64 0,.slice none 0 0,.slice none 0 0,.bool false,.slice none 0 0,.slice none 0 0,.bool false,.slice none 0 0,.slice none 0 0] 63)).drew) w1.heap.size 0 [a0,.int .i64 (KN:Int),.int .i64 MM,.int .i64 QQ,a4,a5,a6,a7,a8,a9,a10,a11,a12,a13,a14,a15,a16])
   obtain⟨gp,hgp⟩:=zx w1.heap.size
   have hb6:Below w1.heap.size w1 W6:=by rw[hW6];exact below_setCellsV (Nat.le_refl _) _ _ _ ((Below.refl _ _).alloc (Nat.le_refl _) _).drew
   have hgr:W6.rangeAt gp 0 [a0,.int .i64 (KN:Int),.int .i64 MM,.int .i64 QQ,a4,a5,a6,a7,a8,a9,a10,a11,a12,a13,a14,a15,a16]:=by rw[hW6,hgp];exact World.rangeAt_setCells_same _ _ _ _ HTH.out
   have HGP:=zh (fun(w':World) (hb:Below W6.heap.size W6 w')=>(show w'.cell? ⟨gp,1,none⟩=some (.int .i64 (KN:Int))∧w'.cell? ⟨gp,2,none⟩=some (.int .i64 MM) from
    have hl:=World.block_lt_of_cell? W6 _ (hgr 0 _ rfl)
    ⟨range_same hgr (hb.block gp hl) 1 _ rfl,range_same hgr (hb.block gp hl) 2 _ rfl⟩))
   have HB6:=zh (HB1.out.trans (hb6.mono HB1.out.size))
   have HW6:=zh hW6
   have HGG:=zh hgp
   clear hW6 hgp hb6 hgr HTH HSK
   obtain⟨-,⟨y0,y1,y2,-⟩,-⟩:=HC.out W6 HB6.out
   go_upto_region 4 with fail
   rw[←HW6.out,←HGG.out]
   have hre:=HRE.out W6 (HB0.out.trans (HB6.out.mono HB0.out.size))
   go_wp2_with fail
   refine(HIX.out _ hre).mono ?_
   rintro e w2 ⟨bm,nm2,fm,rfl,hbb,hM,hG,hb2⟩
   have hlk:=hM.look key_two Tryz.underlying97 (zero_fds w2) HI64.out.1 HI64.out.2
   have hown:=hG.at_ (fun x hx=>(HPL.out x hx).2) HI64.out.1 HI64.out.2
   obtain⟨l,hl⟩:=zx (stripeP (pieces r) (v:Int) (s:Int))
   rw[←hl] at hown
   obtain⟨LU,hLU⟩:=zx l.length
   obtain⟨Au,cu,hfm⟩:=own_form hown
   rw[hfm] at hown hlk
   rw[←hLU] at hown hlk
   unfold kv at hlk
   have HSL2:=zh (OwnFd.slBl (show OwnFd w2 (bm+1) 116 (.slice Au LU cu) l from by rw[hLU];rw[hLU] at hown;exact hown) (fun x hx=>by rw[hl] at hx;exact HPD.out x (List.mem_filter.1 hx).1))
   have hfr:∀x∈l,0≤x.p.frag∧x.p.frag<8:=fun x hx=>by
    rw[hl] at hx
    have h1:=validP_iff.1 (HPL.out x (List.mem_filter.1 hx).1).1
    exact⟨h1.2.2.1,h1.2.2.2.1⟩
   have HB2:=zh (HB6.out.trans (hb2.mono HB6.out.size))
   have HB62:=zh hb2
   have HRE2:=zh (HRE.out w2 (HB0.out.trans (HB2.out.mono HB0.out.size)))
   have HI1:=zh (intact_any vp0 vo0 va0 (.slice Au LU cu) r l (KM:Int) up w2 HRE2.out HSL2.out hfr (by have:=HKM.out;unfold I64;omega))
   have HLL:=zh hl
   have HL16:=zh (show ∀x∈l,x.p.data.length=16 from fun x hx=>by rw[hl] at hx;exact(validP_iff.1 (HPL.out x (List.mem_filter.1 hx).1).1).2.2.2.2.2.2.2.2.2.2)
   have HLU:=zh hLU
   clear hbb hM hG hb2 hown hfm hfr hl hLU y0 y1 y2 hre
   obtain⟨-,⟨y0,y1,y2,-⟩,b0⟩:=HC.out w2 HB2.out
   obtain⟨p1,p2⟩:=HGP.out w2 HB62.out
   go_wp2_with fail
   clear hlk
   refine HI1.out.mono ?_
   rintro e w3 ⟨uf,rfl,hof,hb3⟩
   obtain⟨FR,hFR⟩:=zx (outTo r up l (KM:Int) 8)
   rw[←hFR] at hof
   obtain⟨NF,hNF⟩:=zx FR.length
   obtain⟨Af,cf,huf⟩:=hof.form
   rw[←hNF] at huf
   subst huf
   have HB3:=zh (HB2.out.trans (hb3.mono HB2.out.size))
   have HB63:=zh (HB62.out.trans (hb3.mono HB62.out.size))
   have HSL3:=zh (SlS.below fdK HSL2.out hb3)
   have HFI:=zh (hof.intS (fun x hx=>by rw[hFR] at hx;have:=outTo_mem x hx;unfold I64;omega))
   have HFR:=zh (show FR=frT r v s up KM from by rw[hFR,HLL.out];rfl)
   have HNF:=zh hNF
   have hnf8:NF≤8:=by rw[hNF,hFR];exact outTo_length
   clear hof hb3 hFR hNF y0 y1 y2 b0 p1 p2 HI1
   obtain⟨p1,p2⟩:=HGP.out w3 HB63.out
   by_cases hsh:NF<KN
   ·-- S{
    go_wp2_with fail
    go_ret2
    refine⟨?_,HB0.out.trans (HB3.out.mono HB0.out.size)⟩
    have h1:FR.length<KN:=by rw[←HNF.out];exact hsh
    unfold conS conE
    rw[←HFR.out,if_pos h1,if_pos h1]
    rfl
   ·-- T{
    have HSH:=zh (show KN≤NF from by omega)
    have hcapn:KN≤cf:=by
     obtain⟨Ax,cx,hvx,hcx,-⟩:=HFI.out.form7
     injection hvx with hv1 hv2 hv3
     have h1:=HSH.out
     have h2:=HNF.out
     omega
    have hcap:(KN:Int)≤(cf:Int):=by omega
    obtain⟨HV,hHV⟩:=zx (hvT r v s up KN KM)
    have hhl:HV.length=KN:=by
     rw[hHV];unfold hvT
     rw[List.length_map,List.length_take,←HFR.out,←HNF.out];have:=HSH.out;omega
    have HHL:=zh hhl
    have HD16:=zh (show ∀h∈HV,h.data.length≤65536 from fun h hh=>by rw[hHV] at hh;exact Nat.le_trans (hvT_le r v s up KN KM (by rw[←HLL.out];exact HL16.out) h hh) (by decide))
    have HROW:=zh (show rowLen HV=16 from by
     rw[hHV];exact hvT_row r v s up KN KM (by rw[←HLL.out];exact HL16.out) (by omega) (by rw[←HFR.out,←HNF.out];exact HSH.out))
    have HHV:=zh (fun j (hj:j<KN)=>(show HV[j]?=(FR[j]?).map (pickF r l up) from by
     rw[hHV];unfold hvT
     rw[List.getElem?_map,List.getElem?_take,if_pos hj,←HFR.out,←HLL.out]))
    have HCS:=zh (show(conS r v s up KN KM=if decE (KN:Int) MM HV=0 then((wordT KN KM (decD KN HV) (rowLen HV)).take KN).flatten else [])∧conE r v s up KN KM=decE (KN:Int) MM HV from by
     have h1:¬(frT r v s up KM).length<KN:=by rw[←HFR.out,←HNF.out];have:=HSH.out;omega
     unfold conS conE
     rw[if_neg h1,if_neg h1,←hHV,←HMM.out]
     exact⟨rfl,rfl⟩)
    obtain⟨i0,hi0,hz0,hz1,hz2⟩:=info_parts info_frag
    have hmf:∀(fn:Fn) (first cap:Array Value) (w:World),(Instr.makeFunc fn first cap).run Tryz.prog w=.ok (.func fn first cap) w:=fun _ _ _ _=>rfl
    clear hHV hhl
    go_wp2_with fail
    clear p1 p2
    go_loopg [15,69] KN (fun z v15 v69 wr=>∃j:Nat,j≤KN∧z=KN - j∧v69=.int .i64 (j:Int)∧Hid (OwnFg wr w3.heap.size v15 (HV.take j))∧Hid (Below w3.heap.size w3 wr))
    case atStart=>exact⟨0,by omega,rfl,rfl,OwnFg.nil _ _,Below.refl _ _⟩
    case round =>
     obtain⟨j,hj,rfl,rfl,HO,HBR⟩:=hrel
     have HR0:=zh (HB3.out.trans (HBR.out.mono HB3.out.size))
     by_cases hlj:j<KN
     ·-- L1{
      have hjl:j<FR.length:=by have:=HSH.out;have:=HNF.out;omega
      obtain⟨b,off,hAf,hR,hc,hx64⟩:=HFI.out.at7 (k:=j) hjl
      subst hAf
      have l0:=(HBR.out.cell (p:=⟨b,off+j,none⟩) hR.2).trans hc
      obtain⟨x,hx⟩:=zx (FR[j])
      rw[←hx] at l0 hx64
      obtain⟨t,ht,hidx,hfind⟩:=idxC_ok r up l (KM:Int) x (by
       have hm:x∈FR:=by rw[hx];exact List.getElem_mem hjl
       rw[HFR.out] at hm
       rw[HLL.out]
       exact hm)
      obtain⟨W4,hW4⟩:=zx (wr.alloc (.cells #[.int .i64 x] 3))
      obtain⟨gi,hgi⟩:=zx wr.heap.size
      have hb4:Below wr.heap.size wr W4:=by rw[hW4];exact(Below.refl _ _).alloc (Nat.le_refl _) _
      have hgk:W4.heap[gi]?=some (.cells #[.int .i64 x] 3 (0,0)):=by rw[hW4,hgi];exact heap_alloc_new _ _
      have ki:W4.cell? ⟨gi,0,none⟩=some (.int .i64 x):=by rw[cell_of_row _ _ _ _ _ _ hgk];rfl
      have h04:=HR0.out.trans (hb4.mono HR0.out.size)
      obtain⟨-,⟨y0,y1,y2,-⟩,b0⟩:=HC.out W4 h04
      have hsl4:=SlS.below fdK HSL3.out (HBR.out.trans (hb4.mono HBR.out.size))
      have HIF:=zh (indexf_any (.slice Au LU cu) l x up gi gu y vp0 vo0 va0 r W4 hsl4 ki b0 y0 y1 y2 (HRE.out W4 (HB0.out.trans (h04.mono HB0.out.size))))
      rw[hidx] at HIF
      have hd16:l[t].p.data.length=16:=by
       exact HL16.out _ (List.getElem_mem ht)
      obtain⟨lb,lo,csl,hAu,hlR,-,hcl,hfk,-⟩:=HSL3.out.at_ (k:=t) ht
      subst hAu
      obtain⟨-,-,-,-,-,-,q6⟩:=seven hcl hfk
      obtain⟨px,hpx⟩:=zx (l[t].p.data)
      rw[←hpx] at q6 hd16
      have HFD:=zh (show l.find? (srcC r up x)=some l[t]∧px=l[t].p.data from⟨hfind,hpx⟩)
      have HXJ:=zh (show FR[j]?=some x from by rw[hx];exact List.getElem?_eq_getElem hjl)
      obtain⟨sy,hsy⟩:∃y:ByteArray,y=⟨px.toArray⟩:=⟨_,rfl⟩
      rw[←hsy] at q6
      have HSY:=zh hsy
      have HD16:=zh hd16
      have HTL:=zh (show t<LU from by rw[HLU.out];exact ht)
      have hti:(t:Int)<(LU:Int):=by have:=HTL.out;omega
      have HK4:=zh (And.intro hgk (Array.getElem?_eq_some_iff.1 hgk).1)
      have HB4:=zh (HBR.out.trans (hb4.mono HBR.out.size))
      have HRW4:=zh hb4
      have HQ6:=zh (fun(w':World) (hb:Below w3.heap.size w3 w')=>(show w'.cell? ⟨lb,lo+t * 7+6,none⟩=some (.string sy) from(hb.cell (p:=⟨lb,lo+t * 7+6,none⟩) hlR).trans q6))
      have HW4:=zh hW4
      have HGI:=zh hgi
      have HX64:=zh hx64
      obtain⟨n0,hn0⟩:=zx ((HV.take j).length)
      have hn0j:n0=j:=by rw[hn0,List.length_take,HHL.out];omega
      obtain⟨A0,c0',hv0⟩:=HO.out.form
      rw[←hn0,hn0j] at hv0
      subst hv0
      have HTJ:=zh (show(HV.take j).length=j from by rw[←hn0];exact hn0j)
      have HL3:=zh (show lb<w3.heap.size from hlR)
      have HOB2:=zh (fun b (e:(Value.slice A0 j c0').ownBlock=some b)=>(show w3.heap.size≤b from by obtain⟨⟨cs,ho,-⟩,-⟩:=HO.out;exact(ho.lt b e).1))
      have HOB:=zh (fun b (e:(Value.slice A0 j c0').ownBlock=some b)=>(show b<wr.heap.size from by obtain⟨⟨cs,ho,-⟩,-⟩:=HO.out;exact(ho.lt b e).2))
      clear hc hR hx hidx hfind hW4 hgi hb4 hgk h04 y0 y1 y2 b0 hsl4 hd16 hcl hfk q6 hpx hsy hlR hjl hn0 hn0j ki hx64
      go_upto_region 12 with fail
      rw[←HW4.out,←HGI.out]
      clear l0
      go_wp2_with fail
      refine HIF.out.mono ?_
      rintro e w5 ⟨rfl,hb5⟩
      have HB5:=zh (HB4.out.trans (hb5.mono HB4.out.size))
      have HRW5:=zh (HRW4.out.trans (hb5.mono HRW4.out.size))
      have HK5:=zh (show w5.cell? ⟨gi,0,none⟩=some (.int .i64 x)∧gi<w5.heap.size from⟨by rw[cell_of_row _ _ _ _ _ _ ((hb5.block gi HK4.out.2).trans HK4.out.1)];rfl,Nat.lt_of_lt_of_le HK4.out.2 hb5.size⟩)
      have HLB:=zh (World.block_lt_of_cell? w5 _ (HQ6.out w5 HB5.out))
      have HS13:=zh (show HeldX gi lb (lo+t * 7+6) (.int .i64 x) (.string sy) w5.drew from⟨HK5.out.1,HQ6.out w5 HB5.out⟩)
      clear hb5
      go_upto_region 13 with fail
      refine region_tail (S:=(fun w'=>w'.cell? ⟨gi,0,none⟩=some (.int .i64 x)∧w'.cell? ⟨lb,lo+t * 7+6,none⟩=some (.string sy))) [] (by kernel_rfl) HS13.out (fun hHeld=>?_)
      refine tk 0 76 ?_
      refine tk 1 77 ?_
      refine tk 2 78 ?_
      refine tk 3 79 ?_
      refine tk 4 80 ?_
      refine tk 5 81 ?_
      refine tk 6 82 ?_
      refine tk 7 83 ?_
      refine readyT (rs:=[8]) (by kernel_rfl) (by simp) ?_
      refine AllReadyT.cons rfl (fun K hK=>?_) ?_
      ·go_simp
       obtain⟨cap,w9,hcv,hb9,hs9,hby⟩:=conv_piece sy w5.drew (by rw[HSY.out];show px.toArray.size≤maxLen;rw[List.size_toArray,HD16.out];decide)
       rw[show w5.drew.heap.size=w5.heap.size from rfl] at hcv hb9 hs9 hby
       rw[hcv]
       simp only[Result.andThen]
       rw[Oper.upon_value]
       have hb9w:=HB5.out.trans ((show Below w5.heap.size w5 w9 from⟨hb9.os,hb9.tape,hb9.output,hb9.size,hb9.block⟩).mono HB5.out.size)
       have hO9:=HO.out.below ((HRW5.out.trans ((show Below w5.heap.size w5 w9 from⟨hb9.os,hb9.tape,hb9.output,hb9.size,hb9.block⟩).mono HRW5.out.size)))
       obtain⟨⟨cs,ho9,hc9⟩,hk9⟩:=hO9
       rw[HTJ.out] at ho9
       have HS9:=zh hs9
       have hkp8:HeldX gi lb (lo+t * 7+6) (.int .i64 x) (.string sy) w9:=HeldX.same (HS13.out) (hb9.block gi HK5.out.2) (hb9.block lb HLB.out)
       clear hs9
       refine hK.out _ _ ?_ (fun hHeld=>?_)
       ·(first|assumption|exact hkp8|exact hkp10|exact hkp11)
       clear hK K
       (try simp only[Act.put,z1,z2,z3])
       refine tk 9 85 ?_
       refine readyT (rs:=[10]) (by kernel_rfl) (by simp) ?_
       refine AllReadyT.cons rfl (fun K hK=>?_) ?_
       ·go_simp
        have hkp10:HeldX gi lb (lo+t * 7+6) (.int .i64 x) (.string sy) (w9.alloc (.cells #[.int .i64 x,.slice (some ⟨w5.heap.size,0,none⟩) sy.size cap] 124)):=HeldX.same hkp8 (Below.heap_alloc w9 _ gi (Nat.lt_of_lt_of_le HK5.out.2 hb9.size)) (Below.heap_alloc w9 _ lb (Nat.lt_of_lt_of_le HLB.out hb9.size))
        refine hK.out _ _ ?_ (fun hHeld=>?_)
        ·(first|assumption|exact hkp8|exact hkp10|exact hkp11)
        clear hK K
        (try simp only[Act.put,z1,z2,z3])
        refine readyT (rs:=[11]) (by kernel_rfl) (by simp) ?_
        refine AllReadyT.cons rfl (fun K hK=>?_) ?_
        ·refine step_append_lies _ (by rfl) _ _ _ (by rfl) w3.heap.size 124 i0 _ 2 32 Tryz.underlying119 hi0 hz0 hz1 hz2 rfl (by decide) (.slice A0 j c0') j cs (by rfl) (World.ownsRow.alloc ho9 _) ⟨w9.heap.size,0,none⟩ 1 1 [.int .i64 x,.slice (some ⟨w5.heap.size,0,none⟩) sy.size cap] (by rfl) (by rfl) (World.news_of_block (cs:=#[.int .i64 x,.slice (some ⟨w5.heap.size,0,none⟩) sy.size cap]) (t:=124) (fr:=(0,0)) (heap_alloc_new w9 _)) (by simp[Value.oneCell']) (by omega) (by unfold maxLen;omega) (by omega) (Nat.le_trans hb9w.size (by simp)) (w9.heap.size+1) (by simp) ?_
         intro gg cap2 wA hown5 hg5 hat5 hlt5
         have hkp11:HeldX gi lb (lo+t * 7+6) (.int .i64 x) (.string sy) wA:=HeldX.same hkp10 (hg5.block gi (Nat.lt_of_lt_of_le HK5.out.2 (Nat.le_trans hb9.size (by simp))) (fun e=>by have h1:=HOB.out gi e.symm;have h2:=HGI.out;omega)) (hg5.block lb (Nat.lt_of_lt_of_le HLB.out (Nat.le_trans hb9.size (by simp))) (fun e=>by have h1:=HOB2.out lb e.symm;have h2:=HL3.out;omega))
         refine hK.out _ _ ?_ (fun hHeld=>?_)
         ·(first|assumption|exact hkp8|exact hkp10|exact hkp11)
         clear hK K
         (try simp only[Act.put,z1,z2,z3])
         refine tk 12 15 ?_
         refine doneT (by kernel_rfl) ?_ _
         have HHB:=zh (And.intro hb9w (And.intro HS9.out hby))
         have HCC:=zh (And.intro ho9 (And.intro hc9 hk9))
         have HAA:=zh (And.intro hown5 (And.intro hg5 hat5))
         clear hHeld hb9 hcv hb9w hby ho9 hc9 hk9 hown5 hg5 hat5 hlt5
         go_wp2_with fail
         go_roundg (KN - (j+1))
         case measure=>omega
         case rel =>
          obtain⟨hb9w,hs9,hby⟩:=HHB.out
          obtain⟨ho9,hc9,hk9⟩:=HCC.out
          obtain⟨hown5,hg5,hat5⟩:=HAA.out
          have hg9:w9.grownBy wA (Value.slice A0 j c0').ownBlock:=⟨hg5.os,hg5.tape,hg5.output,Nat.le_trans (by simp) hg5.size,fun b hb hn=>(hg5.block b (by simp;omega) hn).trans (Below.heap_alloc w9 _ b hb)⟩
          refine⟨j+1,by omega,rfl,by go_num,?_,hb9w.grown hg9 hb9w.size (fun b e=>(ho9.lt b e).1)⟩
          have hhj:HV[j]?=some ⟨x,px⟩:=by
           rw[HHV.out j hlj,HXJ.out]
           unfold pickF
           rw[Option.map_some,HFD.out.1,HFD.out.2];rfl
          rw[take_more hhj]
          have hlt13:=ho9.lt
          refine OwnFg.push (h:=⟨x,px⟩) hk9 hc9 (by rw[HTJ.out];exact ho9) HX64.out ?_ (by rw[HTJ.out];exact hown5) hg9 ?_
          ·have hy:sy.data.toList=px:=by rw[HSY.out]
           rw[hy] at hby
           refine hby.mono (fun b hb=>⟨by rw[hs9];exact hb.2,fun e=>?_⟩)
           have h1:=HOB.out b e
           have h2:=HRW5.out.size
           have h3:=hb.1
           omega
          ·rcases hat5 with e | e
           ·exact .inl e.symm
           ·exact .inr (by rw[e];rfl)
        exact AllReadyT.nil
       exact AllReadyT.nil
      exact AllReadyT.nil
     ·-- R1{
      obtain rfl:KN=j:=by omega
      obtain⟨p1,p2⟩:=HGP.out wr (HB63.out.trans (HBR.out.mono HB63.out.size))
      have hfrag:=HO.out.fragS
      rw[List.take_of_length_le (by rw[HHL.out];exact Nat.le_refl _)] at hfrag
      obtain⟨DE,hDE⟩:=zx (decE (KN:Int) MM HV)
      obtain⟨RT,hRT⟩:=zx ((wordT KN KM (decD KN HV) (rowLen HV)).take KN)
      have HDC:=zh (fun vh (hh:FragS wr (Bl wr.heap.size) vh HV)=>(show Calls Tryz.prog 56 #[.int .i64 (KN:Int),.int .i64 MM,vh] wr (fun e w'=>∃v,e=.returned (.tuple #[v,.int .i64 DE])∧(DE=0→MatS w' (Bl w'.heap.size) v RT)∧(DE≠0→v=.slice none 0 0)∧Below wr.heap.size wr w') from by
       have hd:=decode_any (KN:Int) MM vh HV wr (by unfold I64;omega) (by have:=HKM.out;unfold I64;omega) hh (by rw[HHL.out];omega) HD16.out
       rw[←hDE,show((KN:Int)).toNat=KN from by omega,show((KN:Int)+MM).toNat=KM from by rw[hkm];omega,←hRT] at hd
       exact hd))
      have HFG:=zh hfrag
      have HRT:=zh (show RT.length=KN∧(∀x∈RT,x.length=16) from by
       rw[hRT]
       refine⟨by rw[List.length_take,wordT_length];have:=HKM.out;omega,fun x hx=>?_⟩
       have h1:=wordT_wide KN KM (decD KN HV) (rowLen HV) x (List.mem_of_mem_take hx)
       rw[h1];exact HROW.out)
      have HCS2:=zh (show(conS r v s up KN KM=if DE=0 then RT.flatten else [])∧conE r v s up KN KM=DE from by rw[hDE,hRT];exact HCS.out)
      clear hfrag hDE hRT
      go_wp2_with fail
      refine(HDC.out _ HFG.out).mono ?_
      rintro e w5 ⟨vr,rfl,hmat,hnil,hb5⟩
      have HB5:=zh (HB3.out.trans ((HBR.out.trans (hb5.mono HBR.out.size)).mono HB3.out.size))
      clear p1 p2
      by_cases hde:DE=0
      ·-- D{
       have HMT:=zh (hmat hde)
       obtain⟨Av,cv',hvr,-,-⟩:=(hmat hde).form
       rw[HRT.out.1] at hvr
       subst hvr
       have HDE:=zh hde
       subst hde
       clear hmat hnil hb5
       obtain⟨W7,hW7⟩:=zx (w5.alloc (.cells #[.pointer none,.slice none 0 0] 128))
       obtain⟨gb,hgb⟩:=zx w5.heap.size
       have hb7:Below w5.heap.size w5 W7:=by rw[hW7];exact(Below.refl _ _).alloc (Nat.le_refl _) _
       have hgk:W7.heap[gb]?=some (.cells #[.pointer none,.slice none 0 0] 128 (0,0)):=by rw[hW7,hgb];exact heap_alloc_new _ _
       have HBL:=zh (show Lib.IsBuilder 128 5 gb gb (bys []) W7 from .inl ⟨Nat.le_refl _,_,hgk,World.ownsRow_nil _ _ _ _,by intro e;cases e⟩)
       have HW7:=zh hW7
       have HGB:=zh hgb
       have HB7:=zh hb7
       clear hW7 hgb hb7 hgk
       go_upto_region 19 with fail
       rw[←HW7.out,←HGB.out]
       go_wp2_with fail
       go_loopg [103] KN (fun z v103 wr=>∃j:Nat,j≤KN∧z=KN - j∧v103=.int .i64 (j:Int)∧Hid (Lib.IsBuilder 128 5 gb gb (bys (RT.take j).flatten) wr)∧Hid (Below w5.heap.size w5 wr))
       case atStart=>exact⟨0,by omega,rfl,rfl,HBL.out,HB7.out⟩
       case round =>
        obtain⟨j,hj,rfl,rfl,HIB,HBW⟩:=hrel
        by_cases hlj:j<KN
        ·-- L2{
         have hjl:j<RT.length:=by rw[HRT.out.1];exact hlj
         obtain⟨b2,off2,va,hAv,hR2,hc2,hva⟩:=HMT.out.at_ (k:=j) hjl
         subst hAv
         have l0:=(HBW.out.cell (p:=⟨b2,off2+j,none⟩) hR2).trans hc2
         obtain⟨row,hrow⟩:=zx (RT[j])
         rw[←hrow] at hva
         have hr16:row.length=16:=by rw[hrow];exact HRT.out.2 _ (List.getElem_mem hjl)
         obtain⟨A',c',e',h1',h2',h3'⟩:=hva
         obtain⟨b3,off3,e3,hR3,hc3⟩:=h3' (by omega)
         rw[hr16] at e' h1'
         subst e3
         subst e'
         have htk:(RT.take (j+1)).flatten=(RT.take j).flatten++row:=by
          rw[List.take_succ_eq_append_getElem hjl,List.flatten_append,←hrow];simp
         have HTK:=zh htk
         have hfl:(RT.take j).flatten.length=j * 16:=by
          have h:=wide_sum (RT.take j) 16 (fun x hx=>HRT.out.2 x (List.mem_of_mem_take hx))
          rw[List.length_flatten,h,List.length_take,HRT.out.1];congr 1;omega
         have hbl:(bys (RT.take j).flatten).length=j * 16:=by unfold bys;rw[List.length_map,hfl]
         have HWR:=zh (bwrite_any gb gb (bys (RT.take j).flatten) ⟨b3,off3,none⟩ 16 c' (bys row) wr HIB.out (by simp[bys,hr16]) (fun t u hu=>by
          rw[Addr.add_mid]
          have ht:∃x,row[t]?=some x∧u=.int .u8 (x.toNat:Int):=by
           unfold bys at hu
           rw[List.getElem?_map] at hu
           obtain⟨x,hx,e⟩:=Option.map_eq_some_iff.1 hu
           exact⟨x,hx,e.symm⟩
          obtain⟨x,hx,rfl⟩:=ht
          exact(HBW.out.cell (p:=⟨b3,off3+t,none⟩) hR3).trans (hc3 t x hx)) (by rw[HGB.out];exact hR3) (fun u hu=>by unfold bys at hu;obtain⟨x,-,rfl⟩:=List.mem_map.1 hu;rfl) (by rw[hbl];omega) (by rw[HGB.out];exact HBW.out.size))
         clear hR2 hc2 hrow hr16 h1' h2' h3' hR3 hc3 htk hfl hbl hjl
         go_wp2_with fail
         refine HWR.out.mono ?_
         rintro e w9 ⟨rfl,hbl9,hb9⟩
         have HBL9:=zh hbl9
         have HB9:=zh (show Below w5.heap.size w5 w9 from HBW.out.trans (by have h:=hb9;rw[HGB.out] at h;exact h))
         clear hbl9 hb9 l0
         go_wp2_with fail
         go_roundg (KN - (j+1))
         case measure=>omega
         case rel=>exact⟨j+1,by omega,rfl,by go_num,by rw[HTK.out,bys_append];exact .inr HBL9.out,HB9.out⟩
        ·obtain rfl:KN=j:=by omega
         have hib:=HIB.out
         rw[List.take_of_length_le (by rw[HRT.out.1];exact Nat.le_refl _)] at hib
         have HST:=zh (bstring_any gb gb RT.flatten wr hib (by rw[HGB.out];exact HBW.out.size))
         clear hib
         go_wp2_with fail
         refine HST.out.mono ?_
         rintro e w9 ⟨rfl,hb9⟩
         have HB9:=zh (show Below w5.heap.size w5 w9 from HBW.out.trans (by have h:=hb9;rw[HGB.out] at h;exact h))
         clear hb9
         go_wp2_with fail
         go_ret2
         refine⟨?_,HB0.out.trans ((HB5.out.trans (HB9.out.mono HB5.out.size)).mono HB0.out.size)⟩
         first|(rw[HCS2.out.1,HCS2.out.2,if_pos rfl];rfl)|(rw[HCS2.out.1,HCS2.out.2];rfl)
      ·-- E{
       have HDE:=zh hde
       clear hmat hnil hb5
       go_wp2_with fail
       go_ret2
       refine⟨?_,HB0.out.trans (HB5.out.mono HB0.out.size)⟩
       first|(rw[HCS2.out.1,HCS2.out.2,if_neg HDE.out];rfl)|(rw[HCS2.out.1,HCS2.out.2];rfl)
  exact AllReadyT.nil
 exact AllReadyT.nil
theorem drewN_heapV(w:World) (k:Nat):(w.drewN k).heap=w.heap:=by
 induction k generalizing w with
 | zero=>rfl
 | succ k ih=>exact ih _
theorem rtimes_any(va vb:Value) (n m:Nat) (w:World) (ha:LS w (Bl w.heap.size) va (natL n)) (hb:LS w (Bl w.heap.size) vb (natL m)) (hm:0<m) (hnm:n * m<4294967296) :
  Calls Tryz.prog 190 #[va,vb] w fun e w'=>∃u,e=.returned u∧OwnL w' w.heap.size u (natL (n * m))∧Below w.heap.size w w':=by
 have hm32:=hb.lt32
 have hn32:=ha.lt32
 have lm:(natL m).length=1:=by rw[natL_pos hm];rfl
 obtain⟨B,d,rfl,-,-⟩:=hb.form
 obtain⟨-,-,-,-,hd0,-⟩:=hb.cap (by rw[lm];omega)
 rw[lm] at hb hd0 ⊢
 have hd1:(1:Int)≤(d:Int):=by omega
 obtain⟨b2,o2,rfl,hR2,hc2⟩:=hb.one hm
 have HC2:=zh hc2
 have HR2:=zh hR2
 have hmk1:=mk_u32s1
 have hmk2:=mk_u32s2
 clear hb lm hc2 hR2 hd0
 rcases Nat.eq_zero_or_pos n with h0 | h0
 ·subst h0
  obtain⟨A,c,rfl,-,-⟩:=ha.form
  rw[show(natL 0).length=0 from rfl] at ha ⊢
  obtain⟨W3,hW3⟩:=zx (w.alloc (.cells #[.int .u32 0] 92))
  obtain⟨g,hg⟩:=zx w.heap.size
  have hg3:W3.heap[g]?=some (.cells #[.int .u32 0] 92 (0,0)):=by rw[hW3,hg];exact heap_alloc_new _ _
  have hgl:g<W3.heap.size:=(Array.getElem?_eq_some_iff.1 hg3).1
  have HB3:=zh (show Below w.heap.size w W3 from by rw[hW3];exact(Below.refl _ _).alloc (Nat.le_refl _) _)
  have hls:LS W3 (Bl W3.heap.size) (.slice (some ⟨g,0,none⟩) 1 1) [0]:=LS.cell1 W3 g 0 (by omega) hg3 _ hgl
  have HT:=zh (trim_any _ _ _ W3 hls (fun _ h=>h) (by simp))
  rw[show trimL [0]=[] from rfl] at HT
  have HW3:=zh hW3
  have HGW:=zh hg
  clear hg3 hgl hls hW3 hg ha
  go_enter Tryz.func190,Tryz.ntmps190
  go_upto_region 2 with fail
  rw[←HGW.out,←HW3.out]
  clear hmk1 hmk2
  go_wp2_with fail
  go_loopg [6] 0 (fun z v6 wr=>v6=.int .i64 0∧W3=wr)
  case atStart=>exact⟨rfl,rfl⟩
  case round =>
   obtain⟨rfl,rfl⟩:=hrel
   go_wp2_with fail
   refine HT.out.mono ?_
   rintro e w4 ⟨u,rfl,hO,hb4⟩
   have HO:=zh (hO.base (B':=w.heap.size) HB3.out.size)
   have HB4:=zh (HB3.out.trans (hb4.mono HB3.out.size))
   clear hO hb4
   go_wp2_with fail
   go_ret
   exact⟨_,rfl,by rw[Nat.zero_mul];exact HO.out,HB4.out⟩
 ·have ln:(natL n).length=1:=by rw[natL_pos h0];rfl
  obtain⟨A,c,rfl,-,-⟩:=ha.form
  obtain⟨-,-,-,-,hc0,-⟩:=ha.cap (by rw[ln];omega)
  rw[ln] at ha hc0 ⊢
  have hc1:(1:Int)≤(c:Int):=by omega
  obtain⟨b1,o1,rfl,hR1,hk1⟩:=ha.one h0
  have HC1:=zh hk1
  have HR1:=zh hR1
  clear ha ln hc0 hk1 hR1
  obtain⟨W3,hW3⟩:=zx (w.alloc (.cells #[.int .u32 0,.int .u32 0] 92))
  obtain⟨g,hg⟩:=zx w.heap.size
  have hg3:W3.heap[g]?=some (.cells #[.int .u32 0,.int .u32 0] 92 (0,0)):=by rw[hW3,hg];exact heap_alloc_new _ _
  have hgl:g<W3.heap.size:=(Array.getElem?_eq_some_iff.1 hg3).1
  have HB3:=zh (show Below w.heap.size w W3 from by rw[hW3];exact(Below.refl _ _).alloc (Nat.le_refl _) _)
  have HG:=zh (show w.heap.size≤g from by rw[hg];exact Nat.le_refl _)
  have k1:W3.cell? ⟨b1,o1,none⟩=some (.int .u32 (n:Int)):=(HB3.out.cell (p:=⟨b1,o1,none⟩) HR1.out).trans HC1.out
  have k2:W3.cell? ⟨b2,o2,none⟩=some (.int .u32 (m:Int)):=(HB3.out.cell (p:=⟨b2,o2,none⟩) HR2.out).trans HC2.out
  have kg0:W3.cell? ⟨g,0,none⟩=some (.int .u32 0):=by rw[cell_of_row _ _ _ _ _ _ hg3];rfl
  have kg1:W3.cell? ⟨g,1,none⟩=some (.int .u32 0):=by rw[cell_of_row _ _ _ _ _ _ hg3];rfl
  have kf0:W3.frozen? ⟨g,0,none⟩=false:=frozen_of_row _ _ _ _ _ hg3
  have kf1:W3.frozen? ⟨g,1,none⟩=false:=frozen_of_row _ _ _ _ _ hg3
  have e1:b1≠g:=by have:=HR1.out;have:=HG.out;unfold Bl at *;omega
  have e2:b2≠g:=by have:=HR2.out;have:=HG.out;unfold Bl at *;omega
  have HG3:=zh hg3
  have HW3:=zh hW3
  have HGW:=zh hg
  have n0:(0:Int)≤(n:Int):=by omega
  have n1:(n:Int)<4294967296:=by omega
  have m0:(0:Int)≤(m:Int):=by omega
  have m1:(m:Int)<4294967296:=by omega
  have hmul:=mul32 n m hnm
  obtain⟨NM,hNM⟩:=zx (n * m)
  rw[←hNM] at hmul hnm
  have q0:(0:Int)≤(NM:Int):=by omega
  have q1:(NM:Int)<4294967296:=by omega
  have HNM:=zh hNM
  have hdiv:(NM:Int) / 4294967296=0:=by omega
  clear hg3 hW3 hg hNM
  go_enter Tryz.func190,Tryz.ntmps190
  go_upto_region 2 with fail
  rw[←HGW.out,←HW3.out]
  clear hmk1 hmk2
  go_wp2_with fail
  go_loopg [6,7,8,9] 1 (fun z v6 v7 v8 v9 wr=>(z=1∧v6=.int .i64 0∧W3=wr)∨(z=0∧v6=.int .i64 1∧Hid (wr.heap[g]?=some (.cells #[.int .u32 (NM:Int),.int .u32 0] 92 (0,0)))∧Hid (Below w.heap.size w wr)))
  case atStart=>exact .inl ⟨rfl,rfl,rfl⟩
  case round =>
   rcases hrel with ⟨rfl,rfl,rfl⟩ | ⟨rfl,rfl,hgc,hbr⟩
   ·go_wp2_with fail
    go_loopg [7,8,9] 1 (fun z v7 v8 v9 wr=>(z=1∧v8=.int .i64 0∧v7=.int .u64 0∧W3=wr)∨(z=0∧v8=.int .i64 1∧v7=.int .u64 0∧Hid (wr.heap[g]?=some (.cells #[.int .u32 (NM:Int),.int .u32 0] 92 (0,0)))∧Hid (Below w.heap.size w wr)))
    case atStart=>exact .inl ⟨rfl,rfl,rfl,rfl⟩
    case round =>
     rcases hrel with ⟨rfl,rfl,rfl,rfl⟩ | ⟨rfl,rfl,rfl,hg4,hb4⟩
     ·go_wp2_with fail
      go_quiet (fail)
      obtain⟨W5,hW5⟩:=zx (W3.drewN nq)
      rw[←hW5]
      have hg5:W5.heap[g]?=some (.cells #[.int .u32 0,.int .u32 0] 92 (0,0)):=by rw[hW5,drewN_heapV];exact HG3.out
      have HB5:=zh (show Below w.heap.size w W5 from by rw[hW5];exact Below.drewN' HB3.out nq)
      have HG5:=zh hg5
      have kg5:W5.cell? ⟨g,0,none⟩=some (.int .u32 0):=by rw[cell_of_row _ _ _ _ _ _ hg5];rfl
      have kf5:W5.frozen? ⟨g,0,none⟩=false:=frozen_of_row _ _ _ _ _ hg5
      clear hW5 hg5 kg0 kg1 kf0 kf1 k1 k2
      go_wp2_with fail
      go_roundg 0
      case measure=>omega
      case rel=>exact .inr ⟨rfl,rfl,rfl,heap_setCell_same W5 g 0 _ _ _ HG5.out,HB5.out.setCell HG.out _⟩
     ·have kg4:wr.cell? ⟨g,1,none⟩=some (.int .u32 0):=by rw[cell_of_row _ _ _ _ _ _ hg4.out];rfl
      have kf4:wr.frozen? ⟨g,1,none⟩=false:=frozen_of_row _ _ _ _ _ hg4.out
      clear kg0 kg1 kf0 kf1 k1 k2
      go_wp2_with fail
      go_roundg 0
      case measure=>omega
      case rel=>exact .inr ⟨rfl,rfl,heap_setCell_same wr g 1 _ _ _ hg4.out,hb4.out.setCell HG.out _⟩
   ·have hgl:g<wr.heap.size:=(Array.getElem?_eq_some_iff.1 hgc.out).1
    have hls:LS wr (Bl wr.heap.size) (.slice (some ⟨g,0,none⟩) 2 2) [NM,0]:=LS.cell2 wr g NM (by omega) hgc.out _ hgl
    have HT:=zh (trim_any _ _ _ wr hls (fun _ h=>h) (by simp))
    rw[trim_two] at HT
    have HBR:=zh hbr.out
    clear hls hgc hbr hgl k1 k2 kg0 kg1 kf0 kf1
    go_wp2_with fail
    refine HT.out.mono ?_
    rintro e w4 ⟨u,rfl,hO,hb4⟩
    have HO:=zh (hO.base (B':=w.heap.size) HBR.out.size)
    have HB4:=zh (HBR.out.trans (hb4.mono HBR.out.size))
    clear hO hb4
    go_wp2_with fail
    go_ret
    exact⟨_,rfl,by rw[←HNM.out];exact HO.out,HB4.out⟩
end Go.Proofs.YtmehadfhcdpfcaaGreat
