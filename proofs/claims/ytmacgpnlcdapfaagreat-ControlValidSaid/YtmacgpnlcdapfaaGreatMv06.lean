/- Small fractions of the program: Valid, lowest, Reduce, Make, walked. -/
import Derived.Test.YtmacgpnlcdapfaaGreatMv05
import Derived.Test.YtmacgpnlcdapfaaGreatMv01
import Derived.Test.YtmacgpnlcdapfaaGreatMv02
set_option linter.unusedSectionVars false
set_option maxRecDepth 100000
set_option maxHeartbeats 12800000
namespace Go.Proofs.YtmacgpnlcdapfaaGreat
open Go.RowKit
set_option linter.unusedVariables false
set_option linter.unusedSimpArgs false
theorem nbits_b(v:Value) (n:Nat) (R:Nat→Prop) (w:World) (h:LS w R v (natL n)) :
  Calls Tryz.prog 116 #[v] w fun e w'=>e=.returned (.int .i64 (bl n:Int))∧Below w.heap.size w w':=(nbits_any v n R w h).mono fun e w' ⟨h1,k,h2⟩=>⟨h1,by rw[h2];exact Below.drewN' (Below.refl _ _) k⟩
theorem ncmp_b(va vb:Value) (n m:Nat) (R R':Nat→Prop) (w:World) (ha:LS w R va (natL n)) (hb:LS w R' vb (natL m)) :
  Calls Tryz.prog 122 #[va,vb] w fun e w'=>e=.returned (.int .i64 (cmpI n m))∧Below w.heap.size w w':=(ncmp_any va vb n m R R' w ha hb).mono fun e w' ⟨h1,k,h2⟩=>⟨h1,by rw[h2];exact Below.drewN' (Below.refl _ _) k⟩
theorem box3{w wf:World} {g:Nat} {a b c:Value} {T:TypeId} (hk:wf.heap[g]?=some (.cells #[a,b,c] T (0,0))) (hb:Below w.heap.size w wf) (hg:w.heap.size≤g) (v0 v1 v2:Value) {l1 l2:List Nat} {R1 R2:Nat→Prop}
  (h1:LS wf R1 v1 l1) (hr1:∀b,R1 b→b≠g∧w.heap.size≤b∧b<wf.heap.size) (h2:LS wf R2 v2 l2) (hr2:∀b,R2 b→b≠g∧w.heap.size≤b∧b<wf.heap.size) :
  ∀Wf,Wf=((wf.setCell ⟨g,0,none⟩ v0).setCell ⟨g,1,none⟩ v1).setCell ⟨g,2,none⟩ v2→Wf.cell? ⟨g,0,none⟩=some v0∧Wf.cell? ⟨g,1,none⟩=some v1∧Wf.cell? ⟨g,2,none⟩=some v2 ∧
   LS Wf (Fr w.heap.size Wf.heap.size) v1 l1∧LS Wf (Fr w.heap.size Wf.heap.size) v2 l2∧Below w.heap.size w Wf:=by
 rintro Wf rfl
 have hfin:=store3 (x:=v0) (y:=v1) (z:=v2) hk
 obtain⟨x0,x1,x2,-,-,-⟩:=cells3 hfin
 have hsz:wf.heap.size=(((wf.setCell ⟨g,0,none⟩ v0).setCell ⟨g,1,none⟩ v1).setCell ⟨g,2,none⟩ v2).heap.size:=by simp
 refine⟨x0,x1,x2,?_,?_,below_set3 hb hg _ _ _⟩
 ·rw[←hsz]
  exact(h1.keep (kept_set3 wf g v0 v1 v2 R1 (fun b hb=>(hr1 b hb).1))).mono (fun b hb=>(hr1 b hb).2)
 ·rw[←hsz]
  exact(h2.keep (kept_set3 wf g v0 v1 v2 R2 (fun b hb=>(hr2 b hb).1))).mono (fun b hb=>(hr2 b hb).2)
theorem LS.frm{w:World} {R:Nat→Prop} {v:Value} {l:List Nat} (h:LS w R v l):∃A n c,v=.slice A n c:=by
 obtain⟨A,c,e,-⟩:=h.form
 exact⟨A,_,c,e⟩
theorem LS.bel{w w':World} {B:Nat} {v:Value} {l:List Nat} (h:LS w (Fr B w.heap.size) v l) (hb:Below w.heap.size w w'):LS w' (Fr B w'.heap.size) v l:=(h.keep (fun b hb'=>hb.block b hb'.2)).mono (Fr.wider (Nat.le_refl _) hb.size)
theorem fvalid_any(neg:Bool) (vn vd:Value) (n d:Nat) (w:World) (hn:LS w (Bl w.heap.size) vn (natL n)) (hd:LS w (Bl w.heap.size) vd (natL d)) (h0:0<d) :
  Calls Tryz.prog 121 #[.agg #[.bool neg,vn,vd]] w fun e w'=>e=.returned (.bool true)∧Below w.heap.size w w':=by
 obtain⟨An,Nn,cn,rfl⟩:=hn.frm
 obtain⟨Ad,Nd,cd,rfl⟩:=hd.frm
 obtain⟨W0,hW0⟩:=zx (w.alloc (.cells #[.bool neg,.slice An Nn cn,.slice Ad Nd cd] 55))
 obtain⟨q,hq⟩:=zx w.heap.size
 have hb0:Below w.heap.size w W0:=by rw[hW0];exact(Below.refl _ _).alloc (Nat.le_refl _) _
 have hbk:W0.heap[q]?=some (.cells #[.bool neg,.slice An Nn cn,.slice Ad Nd cd] 55 (0,0)):=by rw[hW0,hq];exact heap_alloc_new _ _
 obtain⟨c0,c1,c2,-⟩:=cells3 hbk
 have hql:q<W0.heap.size:=(Array.getElem?_eq_some_iff.1 hbk).1
 have HBD:=zh (nbits_b _ d _ W0 (hd.below hb0))
 have HN0:=zh (hn.below hb0)
 have n32:=bl_32 hn.lt32
 have d32:=bl_32 hd.lt32
 have dp:=bl_pos.2 h0
 have HW0:=zh hW0
 have HQ:=zh hq
 have HB0:=zh hb0
 have HQL:=zh hql
 obtain⟨BD,hBD⟩:=zx (bl d)
 obtain⟨BN,hBN⟩:=zx (bl n)
 rw[←hBD] at HBD d32 dp
 rw[←hBN] at n32
 have HBN:=zh hBN
 clear hn hd hW0 hq hb0 hbk hql hBD hBN
 go_enter Tryz.func121,Tryz.ntmps121
 go_wp2_with fail
 rw[←HW0.out,←HQ.out]
 refine HBD.out.mono ?_
 rintro e w1 ⟨rfl,hb1⟩
 have k1:w1.cell? ⟨q,1,none⟩=some (.slice An Nn cn):=(hb1.cell (p:=⟨q,1,none⟩) HQL.out).trans c1
 have HN1:=zh (nbits_b _ n _ w1 (HN0.out.below hb1))
 rw[←HBN.out] at HN1
 have HB1:=zh (HB0.out.trans (hb1.mono HB0.out.size))
 have q0:(0:Int)<(BD:Int):=by omega
 have q1:(BD:Int)≤4096:=by omega
 have q2:(BN:Int)≤4096:=by omega
 clear c0 c1 c2 hb1
 go_wp2_with fail
 refine HN1.out.mono ?_
 rintro e w2 ⟨rfl,hb2⟩
 have HB2:=zh (HB1.out.trans (hb2.mono HB1.out.size))
 clear hb2 k1
 go_wp2_with fail
 go_ret
 exact⟨ret_bool (by simp[q1,q2]),HB2.out⟩
theorem fabove_any(neg:Bool) (vn vd:Value) (n d:Nat) (w:World) (hn:LS w (Bl w.heap.size) vn (natL n)) (hd:LS w (Bl w.heap.size) vd (natL d)) :
  Calls Tryz.prog 60 #[.agg #[.bool neg,vn,vd]] w fun e w'=>e=.returned (.bool (decide (0<n)))∧Below w.heap.size w w':=by
 obtain⟨An,Nn,cn,rfl⟩:=hn.frm
 obtain⟨Ad,Nd,cd,rfl⟩:=hd.frm
 obtain⟨W0,hW0⟩:=zx (w.alloc (.cells #[.bool neg,.slice An Nn cn,.slice Ad Nd cd] 55))
 have hb0:Below w.heap.size w W0:=by rw[hW0];exact(Below.refl _ _).alloc (Nat.le_refl _) _
 have HBD:=zh (nbits_b _ n _ W0 (hn.below hb0))
 have HW0:=zh hW0
 have HB0:=zh hb0
 clear hn hd hW0 hb0
 go_enter Tryz.func60,Tryz.ntmps60
 go_wp2_with fail
 rw[←HW0.out]
 refine HBD.out.mono ?_
 rintro e w1 ⟨rfl,hb1⟩
 have HB1:=zh (HB0.out.trans (hb1.mono HB0.out.size))
 clear hb1
 go_wp2_with fail
 go_ret
 exact⟨ret_bool (decide_eq_decide.2 bl_pos),HB1.out⟩
theorem flowest_any(va vb:Value) (n m:Nat) (w:World) (ha:LS w (Bl w.heap.size) va (natL n)) (hb:LS w (Bl w.heap.size) vb (natL m)) (hm:0<m) (hg:Nat.gcd n m=1) :
  Calls Tryz.prog 119 #[.bool false,va,vb] w fun e w'=>∃un um,e=.returned (.tuple #[.agg #[.bool false,un,um],.int .i64 0])∧LS w' (Fr w.heap.size w'.heap.size) un (natL n)∧LS w' (Fr w.heap.size w'.heap.size) um (natL m)∧Below w.heap.size w w':=by
 obtain⟨W0,hW0⟩:=zx (w.alloc (.cells #[.bool false,.slice none 0 0,.slice none 0 0] 55))
 obtain⟨g,hgq⟩:=zx w.heap.size
 have hb0:Below w.heap.size w W0:=by rw[hW0];exact(Below.refl _ _).alloc (Nat.le_refl _) _
 have hbk:W0.heap[g]?=some (.cells #[.bool false,.slice none 0 0,.slice none 0 0] 55 (0,0)):=by rw[hW0,hgq];exact heap_alloc_new _ _
 have hgl:g<W0.heap.size:=(Array.getElem?_eq_some_iff.1 hbk).1
 have HG:=zh (ngcd_any va vb n m W0 (ha.below hb0) (hb.below hb0))
 rw[hg] at HG
 have n32:=ha.lt32
 have m32:=hb.lt32
 have bn:=bl_32 n32
 have bm:=bl_32 m32
 have HA0:=zh (ha.below hb0)
 have HBV:=zh (hb.below hb0)
 have HW0:=zh hW0
 have HGQ:=zh hgq
 have HB0:=zh hb0
 have HBK:=zh hbk
 have HGL:=zh hgl
 have HN32:=zh n32
 have HM32:=zh m32
 clear ha hb hW0 hgq hb0 hbk hgl hg n32 m32
 go_enter Tryz.func119,Tryz.ntmps119
 go_wp2_with fail
 rw[←HW0.out,←HGQ.out]
 refine HG.out.mono ?_
 rintro e w1 ⟨vg,rfl,hvg,hb1⟩
 have HBB:=zh (nbits_b _ 1 _ w1 hvg)
 rw[bl_one] at HBB
 obtain⟨Ag,Ng,cg,rfl⟩:=hvg.frm
 have HA1:=zh (HA0.out.below hb1)
 have HV1:=zh (HBV.out.below hb1)
 have HB1:=zh hb1
 clear hvg hb1
 go_wp2_with fail
 refine HBB.out.mono ?_
 rintro e w2 ⟨rfl,hb2⟩
 have HA2:=zh (HA1.out.below hb2)
 have HV2:=zh (HV1.out.below hb2)
 have HB2:=zh (HB1.out.trans (hb2.mono HB1.out.size))
 clear hb2
 have q0:¬((1:Int)<((1:Nat):Int)):=by omega
 go_wp2_with fail
 refine(nbits_b _ n _ w2 HA2.out).mono ?_
 rintro e w3 ⟨rfl,hb3⟩
 have HA3:=zh (HA2.out.below hb3)
 have HV3:=zh (HV2.out.below hb3)
 have HB3:=zh (HB2.out.trans (hb3.mono HB2.out.size))
 clear hb3
 have q1:¬((4096:Int)<(bl n:Int)):=by omega
 go_wp2_with fail
 refine(nbits_b _ m _ w3 HV3.out).mono ?_
 rintro e w4 ⟨rfl,hb4⟩
 have HA4:=zh (HA3.out.below hb4)
 have HV4:=zh (HV3.out.below hb4)
 have HB4:=zh (HB3.out.trans (hb4.mono HB3.out.size))
 clear hb4
 have q2:¬((4096:Int)<(bl m:Int)):=by omega
 obtain⟨bN,hbN⟩:=zx (bl n)
 obtain⟨bM,hbM⟩:=zx (bl m)
 rw[←hbN] at q1 bn ⊢
 rw[←hbM] at q2 bm ⊢
 clear hbN hbM
 go_wp2_with fail
 refine(ntrim_any va _ _ _ HA4.out (fun b h=>h) (by have:=natL_length n;omega)).mono ?_
 rintro e w5 ⟨un,rfl,hun,hb5⟩
 rw[trim_natL] at hun
 have HU5:=zh ((hun.ls (natL_mem HN32.out)).mono (Fr.wider HB4.out.size (Nat.le_refl _)))
 have HV5:=zh (HV4.out.below hb5)
 have HB5:=zh (HB4.out.trans (hb5.mono HB4.out.size))
 obtain⟨An,Nn,cn,rfl⟩:∃A n c,un=.slice A n c:=HU5.out.frm
 clear hun hb5
 go_wp2_with fail
 refine(ntrim_any vb _ _ _ HV5.out (fun b h=>h) (by have:=natL_length m;omega)).mono ?_
 rintro e w6 ⟨um,rfl,hum,hb6⟩
 rw[trim_natL] at hum
 have HM6:=zh ((hum.ls (natL_mem HM32.out)).mono (Fr.wider HB5.out.size (Nat.le_refl _)))
 have HU6:=zh (HU5.out.bel hb6)
 have HB6:=zh (HB5.out.trans (hb6.mono HB5.out.size))
 obtain⟨Am,Nm,cm,rfl⟩:∃A n c,um=.slice A n c:=HM6.out.frm
 clear hum hb6
 have hk:=(HB6.out.block g HGL.out).trans HBK.out
 obtain⟨k0,k1,k2,f0,f1,f2⟩:=cells3 hk
 have hbw:=HB0.out.trans (HB6.out.mono HB0.out.size)
 have hgw:w.heap.size≤g:=by rw[HGQ.out];exact Nat.le_refl _
 have hs0:=HB0.out.size
 have HX:=zh (box3 hk hbw hgw (.bool false) (.slice An Nn cn) (.slice Am Nm cm) HU6.out (fun b hb=>⟨by have:=hb.1;have:=HGL.out;omega,by have:=hb.1;omega,hb.2⟩) HM6.out (fun b hb=>⟨by have:=hb.1;have:=HGL.out;omega,by have:=hb.1;omega,hb.2⟩))
 clear hk hbw hgw hs0
 go_wp2_with fail
 obtain⟨Wf,hWf⟩:=zx (((w6.setCell ⟨g,0,none⟩ (.bool false)).setCell ⟨g,1,none⟩ (.slice An Nn cn)).setCell ⟨g,2,none⟩ (.slice Am Nm cm))
 obtain⟨x0,x1,x2,hl1,hl2,hbf⟩:=HX.out Wf hWf
 rw[←hWf]
 clear hWf k0 k1 k2 f0 f1 f2
 exact bodyPost_ret (v:=.tuple #[.agg #[.bool false,.slice An Nn cn,.slice Am Nm cm],.int .i64 0]) (by simp[results,Tryz.results119,go_sem,x0,x1,x2]) rfl ⟨_,_,rfl,hl1,hl2,hbf⟩
theorem freduce_any(va vb:Value) (n m:Nat) (w:World) (ha:LS w (Bl w.heap.size) va (natL n)) (hb:LS w (Bl w.heap.size) vb (natL m)) (hm:0<m) (hg:Nat.gcd n m=1) :
  Calls Tryz.prog 115 #[.agg #[.bool false,va,vb]] w fun e w'=>∃un um,e=.returned (.tuple #[.agg #[.bool false,un,um],.int .i64 0])∧LS w' (Fr w.heap.size w'.heap.size) un (natL n)∧LS w' (Fr w.heap.size w'.heap.size) um (natL m)∧Below w.heap.size w w':=by
 obtain⟨An,Nn,cn,rfl⟩:=ha.frm
 obtain⟨Ad,Nd,cd,rfl⟩:=hb.frm
 obtain⟨W0,hW0⟩:=zx ((w.alloc (.cells #[.bool false,.slice An Nn cn,.slice Ad Nd cd] 55)).alloc (.cells #[.bool false,.slice none 0 0,.slice none 0 0] 55))
 obtain⟨q,hq⟩:=zx w.heap.size
 obtain⟨g,hgq⟩:=zx (w.heap.size+1)
 have hb0:Below w.heap.size w W0:=by rw[hW0];exact((Below.refl _ _).alloc (Nat.le_refl _) _).alloc (by simp) _
 have hbk:W0.heap[g]?=some (.cells #[.bool false,.slice none 0 0,.slice none 0 0] 55 (0,0)):=by
  have h0:=heap_alloc_new (w.alloc (.cells #[.bool false,.slice An Nn cn,.slice Ad Nd cd] 55)) (.cells #[.bool false,.slice none 0 0,.slice none 0 0] 55)
  rw[show(w.alloc (.cells #[.bool false,.slice An Nn cn,.slice Ad Nd cd] 55)).heap.size=g by rw[hgq];simp] at h0
  rw[hW0];exact h0
 have hqk:W0.heap[q]?=some (.cells #[.bool false,.slice An Nn cn,.slice Ad Nd cd] 55 (0,0)):=by
  rw[hW0,hq];exact(Below.heap_alloc _ _ _ (by simp)).trans (heap_alloc_new w _)
 have hgl:g<W0.heap.size:=(Array.getElem?_eq_some_iff.1 hbk).1
 have hql:q<W0.heap.size:=(Array.getElem?_eq_some_iff.1 hqk).1
 obtain⟨c0,c1,c2,-⟩:=cells3 hqk
 have HA0:=zh (ha.below hb0)
 have HBV:=zh (hb.below hb0)
 have HV:=zh (fvalid_any false _ _ n m W0 HA0.out HBV.out hm)
 have HW0:=zh hW0
 have HGQ:=zh (show q=w.heap.size∧g=w.heap.size+1 from⟨hq,hgq⟩)
 have HB0:=zh hb0
 have HBK:=zh hbk
 have HGL:=zh hgl
 have HQL:=zh hql
 clear ha hb hW0 hb0 hbk hgl hql hqk hgq hq
 go_enter Tryz.func115,Tryz.ntmps115
 go_wp2_with fail
 rw[←HW0.out,←HGQ.out.2,←HGQ.out.1]
 refine HV.out.mono ?_
 rintro e w1 ⟨rfl,hb1⟩
 have k0:w1.cell? ⟨q,0,none⟩=some (.bool false):=(hb1.cell (p:=⟨q,0,none⟩) HQL.out).trans c0
 have k1:w1.cell? ⟨q,1,none⟩=some (.slice An Nn cn):=(hb1.cell (p:=⟨q,1,none⟩) HQL.out).trans c1
 have k2:w1.cell? ⟨q,2,none⟩=some (.slice Ad Nd cd):=(hb1.cell (p:=⟨q,2,none⟩) HQL.out).trans c2
 have HL:=zh (flowest_any _ _ n m w1 (HA0.out.below hb1) (HBV.out.below hb1) hm hg)
 have HB1:=zh hb1
 clear hb1 c0 c1 c2
 go_wp2_with fail
 refine HL.out.mono ?_
 rintro e w2 ⟨un,um,rfl,hun,hum,hb2⟩
 obtain⟨A1,N1,c1,rfl⟩:=hun.frm
 obtain⟨A2,N2,c2,rfl⟩:=hum.frm
 have hb12:=HB1.out.trans (hb2.mono HB1.out.size)
 have hk:=(hb12.block g HGL.out).trans HBK.out
 obtain⟨l0,l1,l2,f0,f1,f2⟩:=cells3 hk
 have hbw:=HB0.out.trans (hb12.mono HB0.out.size)
 have hgw:w.heap.size≤g:=by rw[HGQ.out.2];omega
 have hs0:=HB0.out.size
 have hs1:=HB1.out.size
 have HX:=zh (box3 hk hbw hgw (.bool false) (.slice A1 N1 c1) (.slice A2 N2 c2) hun (fun b hb=>⟨by have:=hb.1;have:=HGL.out;omega,by have:=hb.1;omega,hb.2⟩) hum (fun b hb=>⟨by have:=hb.1;have:=HGL.out;omega,by have:=hb.1;omega,hb.2⟩))
 clear hun hum hb2 hb12 hk hbw hgw hs0 hs1 k0 k1 k2
 go_wp2_with fail
 obtain⟨Wf,hWf⟩:=zx (((w2.setCell ⟨g,0,none⟩ (.bool false)).setCell ⟨g,1,none⟩ (.slice A1 N1 c1)).setCell ⟨g,2,none⟩ (.slice A2 N2 c2))
 obtain⟨x0,x1,x2,hl1,hl2,hbf⟩:=HX.out Wf hWf
 rw[←hWf]
 clear hWf l0 l1 l2 f0 f1 f2
 exact bodyPost_ret (v:=.tuple #[.agg #[.bool false,.slice A1 N1 c1,.slice A2 N2 c2],.int .i64 0]) (by simp[results,Tryz.results115,go_sem,x0,x1,x2]) rfl ⟨_,_,rfl,hl1,hl2,hbf⟩
theorem flimits_any(va vb:Value) (n m:Nat) (w:World) (ha:LS w (Bl w.heap.size) va (natL n)) (hb:LS w (Bl w.heap.size) vb (natL m)) (hm:0<m) (hg:Nat.gcd n m=1) :
  Calls Tryz.prog 59 #[.agg #[.bool false,va,vb]] w fun e w'=>e=.returned (.bool true)∧Below w.heap.size w w':=by
 obtain⟨An,Nn,cn,rfl⟩:=ha.frm
 obtain⟨Ad,Nd,cd,rfl⟩:=hb.frm
 obtain⟨W0,hW0⟩:=zx (w.alloc (.cells #[.bool false,.slice An Nn cn,.slice Ad Nd cd] 55))
 have hb0:Below w.heap.size w W0:=by rw[hW0];exact(Below.refl _ _).alloc (Nat.le_refl _) _
 have n32:=bl_32 ha.lt32
 have m32:=bl_32 hb.lt32
 have HR:=zh (freduce_any _ _ n m W0 (ha.below hb0) (hb.below hb0) hm hg)
 have HW0:=zh hW0
 have HB0:=zh hb0
 clear ha hb hW0 hb0
 go_enter Tryz.func59,Tryz.ntmps59
 go_wp2_with fail
 rw[←HW0.out]
 refine HR.out.mono ?_
 rintro e w1 ⟨un,um,rfl,hun,hum,hb1⟩
 obtain⟨A1,N1,c1,rfl⟩:=hun.frm
 obtain⟨A2,N2,c2,rfl⟩:=hum.frm
 obtain⟨W1,hW1⟩:=zx (w1.alloc (.cells #[.bool false,.slice A1 N1 c1,.slice A2 N2 c2] 55))
 obtain⟨g,hgq⟩:=zx w1.heap.size
 have hb2:Below w1.heap.size w1 W1:=by rw[hW1];exact(Below.refl _ _).alloc (Nat.le_refl _) _
 have hbk:W1.heap[g]?=some (.cells #[.bool false,.slice A1 N1 c1,.slice A2 N2 c2] 55 (0,0)):=by rw[hW1,hgq];exact heap_alloc_new _ _
 have hgl:g<W1.heap.size:=(Array.getElem?_eq_some_iff.1 hbk).1
 obtain⟨k0,k1,k2,-⟩:=cells3 hbk
 have HB1:=zh ((HB0.out.trans (hb1.mono HB0.out.size)).trans (hb2.mono (Nat.le_trans HB0.out.size hb1.size)))
 have HN:=zh (nbits_b _ n _ W1 ((hun.mono Fr.bl).below hb2))
 have HM:=zh ((hum.mono Fr.bl).below hb2)
 have HW1:=zh hW1
 have HGQ:=zh hgq
 have HGL:=zh hgl
 obtain⟨BN,hBN⟩:=zx (bl n)
 obtain⟨BM,hBM⟩:=zx (bl m)
 rw[←hBN] at HN n32
 rw[←hBM] at m32
 have HBM:=zh hBM
 have q1:(BN:Int)≤32:=by omega
 have q2:(BM:Int)≤32:=by omega
 clear hun hum hb1 hb2 hW1 hgq hbk hgl hBN hBM
 go_wp2_with fail
 rw[←HW1.out,←HGQ.out]
 refine HN.out.mono ?_
 rintro e w2 ⟨rfl,hb2⟩
 have l2:w2.cell? ⟨g,2,none⟩=some (.slice A2 N2 c2):=(hb2.cell (p:=⟨g,2,none⟩) HGL.out).trans k2
 have HM2:=zh (nbits_b _ m _ w2 (HM.out.below hb2))
 rw[←HBM.out] at HM2
 have HB2:=zh (HB1.out.trans (hb2.mono HB1.out.size))
 clear hb2 k0 k1 k2
 go_wp2_with fail
 refine HM2.out.mono ?_
 rintro e w3 ⟨rfl,hb3⟩
 have HB3:=zh (HB2.out.trans (hb3.mono HB2.out.size))
 clear hb3 l2
 go_wp2_with fail
 go_ret
 exact⟨ret_bool (by simp[q1,q2]),HB3.out⟩
theorem fabs_any(n:Nat) (w:World) (hn:n<4294967296) :
  Calls Tryz.prog 120 #[.int .i64 (n:Int)] w fun e w'=>∃u,e=.returned u∧LS w' (Fr w.heap.size w'.heap.size) u (natL n)∧Below w.heap.size w w':=by
 have HM:=zh (nmake_any n w hn)
 have q0:¬((n:Int)<0):=by omega
 have q1:(n:Int)<4294967296:=by omega
 have q2:(0:Int)≤(n:Int):=by omega
 go_enter Tryz.func120,Tryz.ntmps120
 go_wp2_with fail
 refine HM.out.mono ?_
 rintro e w1 ⟨u,rfl,hu,hb⟩
 have HU:=zh hu
 have HB:=zh hb
 clear hu hb
 go_wp2_with fail
 go_ret
 exact⟨_,rfl,HU.out,HB.out⟩
theorem fmake_any(n m:Nat) (w:World) (hn:n<4294967296) (hm32:m<4294967296) (hm:0<m) (hg:Nat.gcd n m=1) :
  Calls Tryz.prog 63 #[.int .i64 (n:Int),.int .i64 (m:Int)] w fun e w'=>∃un um,e=.returned (.tuple #[.agg #[.bool false,un,um],.int .i64 0])∧LS w' (Fr w.heap.size w'.heap.size) un (natL n)∧LS w' (Fr w.heap.size w'.heap.size) um (natL m)∧Below w.heap.size w w':=by
 obtain⟨W0,hW0⟩:=zx (w.alloc (.cells #[.bool false,.slice none 0 0,.slice none 0 0] 55))
 obtain⟨g,hgq⟩:=zx w.heap.size
 have hb0:Below w.heap.size w W0:=by rw[hW0];exact(Below.refl _ _).alloc (Nat.le_refl _) _
 have hbk:W0.heap[g]?=some (.cells #[.bool false,.slice none 0 0,.slice none 0 0] 55 (0,0)):=by rw[hW0,hgq];exact heap_alloc_new _ _
 have hgl:g<W0.heap.size:=(Array.getElem?_eq_some_iff.1 hbk).1
 have HN:=zh (fabs_any n W0 hn)
 have HM:=zh (fun w=>fabs_any m w hm32)
 have HW0:=zh hW0
 have HGQ:=zh hgq
 have HB0:=zh hb0
 have HBK:=zh hbk
 have HGL:=zh hgl
 have q0:¬((n:Int)<0):=by omega
 have q1:¬((m:Int)<0):=by omega
 have q2:((m:Int)==0)=false:=by simp;omega
 clear hW0 hgq hb0 hbk hgl hn hm32
 go_enter Tryz.func63,Tryz.ntmps63
 go_wp2_with fail
 rw[←HW0.out,←HGQ.out]
 refine HN.out.mono ?_
 rintro e w1 ⟨u1,rfl,hu1,hb1⟩
 have HU1:=zh hu1
 have HB1:=zh hb1
 obtain⟨A1,N1,c1,rfl⟩:=hu1.frm
 clear hu1 hb1
 go_wp2_with fail
 refine(HM.out _).mono ?_
 rintro e w2 ⟨u2,rfl,hu2,hb2⟩
 have HU2:=zh hu2
 have HU12:=zh (HU1.out.bel hb2)
 have HB2:=zh (HB1.out.trans (hb2.mono HB1.out.size))
 obtain⟨A2,N2,c2,rfl⟩:=hu2.frm
 have HL:=zh (flowest_any _ _ n m w2 (HU12.out.mono Fr.bl) (HU2.out.mono Fr.bl) hm hg)
 clear hu2 hb2
 go_wp2_with fail
 refine HL.out.mono ?_
 rintro e w3 ⟨un,um,rfl,hun,hum,hb3⟩
 obtain⟨A3,N3,c3,rfl⟩:=hun.frm
 obtain⟨A4,N4,c4,rfl⟩:=hum.frm
 have hb13:=HB2.out.trans (hb3.mono HB2.out.size)
 have hk:=(hb13.block g HGL.out).trans HBK.out
 obtain⟨l0,l1,l2,f0,f1,f2⟩:=cells3 hk
 have hbw:=HB0.out.trans (hb13.mono HB0.out.size)
 have hgw:w.heap.size≤g:=by rw[HGQ.out];omega
 have hs0:=HB0.out.size
 have hs1:=HB2.out.size
 have HX:=zh (box3 hk hbw hgw (.bool false) (.slice A3 N3 c3) (.slice A4 N4 c4) hun (fun b hb=>⟨by have:=hb.1;have:=HGL.out;omega,by have:=hb.1;omega,hb.2⟩) hum (fun b hb=>⟨by have:=hb.1;have:=HGL.out;omega,by have:=hb.1;omega,hb.2⟩))
 clear hun hum hb3 hb13 hk hbw hgw hs0 hs1
 go_wp2_with fail
 obtain⟨Wf,hWf⟩:=zx (((w3.setCell ⟨g,0,none⟩ (.bool false)).setCell ⟨g,1,none⟩ (.slice A3 N3 c3)).setCell ⟨g,2,none⟩ (.slice A4 N4 c4))
 obtain⟨x0,x1,x2,hl1,hl2,hbf⟩:=HX.out Wf hWf
 rw[←hWf]
 clear hWf l0 l1 l2 f0 f1 f2
 exact bodyPost_ret (v:=.tuple #[.agg #[.bool false,.slice A3 N3 c3,.slice A4 N4 c4],.int .i64 0]) (by simp[results,Tryz.results63,go_sem,x0,x1,x2]) rfl ⟨_,_,rfl,hl1,hl2,hbf⟩
def HeldF(W0:World) (q p:Nat) (x0 x1 x2 y0 y1 y2:Value) (w':World):Prop :=
 w'.cell? ⟨q,0,none⟩=some x0∧w'.cell? ⟨q,1,none⟩=some x1∧w'.cell? ⟨q,2,none⟩=some x2∧w'.cell? ⟨p,0,none⟩=some y0∧w'.cell? ⟨p,1,none⟩=some y1∧w'.cell? ⟨p,2,none⟩=some y2∧Below W0.heap.size W0 w'
theorem HeldF.below{W0 wc w2:World} {q p:Nat} {x0 x1 x2 y0 y1 y2:Value} (h:HeldF W0 q p x0 x1 x2 y0 y1 y2 wc) (hb:Below wc.heap.size wc w2) (hq:q<W0.heap.size) (hp:p<W0.heap.size):HeldF W0 q p x0 x1 x2 y0 y1 y2 w2:=by
 obtain⟨d0,d1,d2,e0,e1,e2,hB⟩:=h
 have hs:=hB.size
 have m:∀i,w2.cell? ⟨q,i,none⟩=wc.cell? ⟨q,i,none⟩:=fun i=>hb.cell (p:=⟨q,i,none⟩) (Nat.lt_of_lt_of_le hq hs)
 have m':∀i,w2.cell? ⟨p,i,none⟩=wc.cell? ⟨p,i,none⟩:=fun i=>hb.cell (p:=⟨p,i,none⟩) (Nat.lt_of_lt_of_le hp hs)
 exact⟨(m _).trans d0,(m _).trans d1,(m _).trans d2,(m' _).trans e0,(m' _).trans e1,(m' _).trans e2,hB.trans (hb.mono hs)⟩
theorem HeldF.bl{W0 wc:World} {q p:Nat} {x0 x1 x2 y0 y1 y2:Value} (h:HeldF W0 q p x0 x1 x2 y0 y1 y2 wc):Below W0.heap.size W0 wc:=h.2.2.2.2.2.2
theorem HeldF.ls{W0 wc:World} {q p:Nat} {x0 x1 x2 y0 y1 y2 v:Value} {l:List Nat} (h:HeldF W0 q p x0 x1 x2 y0 y1 y2 wc) (hl:LS W0 (Bl W0.heap.size) v l):LS wc (Bl wc.heap.size) v l:=hl.below h.bl
theorem ftimes_any(va vb:Value) (n m:Nat) (w:World) (ha:LS w (Bl w.heap.size) va (natL n)) (hb:LS w (Bl w.heap.size) vb (natL m)) (hm:0<m) (hnm:n * m<4294967296) :
  Calls Tryz.prog 123 #[va,vb] w fun e w'=>∃u,e=.returned u∧LS w' (Fr w.heap.size w'.heap.size) u (natL (n * m))∧Below w.heap.size w w':=by
 have HM:=zh (nmul_any va vb n m w ha hb hm hnm)
 clear ha hb hnm
 go_enter Tryz.func123,Tryz.ntmps123
 go_wp2_with fail
 refine HM.out.mono ?_
 rintro e w1 ⟨u,rfl,hu,hb⟩
 have HU:=zh hu
 have HB:=zh hb
 clear hu hb
 go_wp2_with fail
 go_ret
 exact⟨_,rfl,HU.out,HB.out⟩
theorem fcmp_any(xn xd yn yd:Value) (a b c d:Nat) (w:World) (hxn:LS w (Bl w.heap.size) xn (natL a)) (hxd:LS w (Bl w.heap.size) xd (natL b)) (hyn:LS w (Bl w.heap.size) yn (natL c)) (hyd:LS w (Bl w.heap.size) yd (natL d)) (h0b:0<b) (h0d:0<d) (h1:a * d<4294967296) (h2:c * b<4294967296) :
  Calls Tryz.prog 64 #[.agg #[.bool false,xn,xd],.agg #[.bool false,yn,yd]] w fun e w'=>e=.returned (.tuple #[.int .i64 (cmpI (a * d) (c * b)),.int .i64 0])∧Below w.heap.size w w':=by
 obtain⟨An,Nn,cn,rfl⟩:=hxn.frm
 obtain⟨Ad,Nd,cd,rfl⟩:=hxd.frm
 obtain⟨Bn,Mn,dn,rfl⟩:=hyn.frm
 obtain⟨Bd,Md,dd,rfl⟩:=hyd.frm
 obtain⟨W0,hW0⟩:=zx ((w.alloc (.cells #[.bool false,.slice An Nn cn,.slice Ad Nd cd] 55)).alloc (.cells #[.bool false,.slice Bn Mn dn,.slice Bd Md dd] 55))
 obtain⟨q,hq⟩:=zx w.heap.size
 obtain⟨p,hp⟩:=zx (w.heap.size+1)
 have hb0:Below w.heap.size w W0:=by rw[hW0];exact((Below.refl _ _).alloc (Nat.le_refl _) _).alloc (by simp) _
 have hpk:W0.heap[p]?=some (.cells #[.bool false,.slice Bn Mn dn,.slice Bd Md dd] 55 (0,0)):=by
  rw[hW0];exact heap_alloc_at _ _ _ (by rw[hp];simp)
 have hqk:W0.heap[q]?=some (.cells #[.bool false,.slice An Nn cn,.slice Ad Nd cd] 55 (0,0)):=by
  rw[hW0,hq];exact(Below.heap_alloc _ _ _ (by simp)).trans (heap_alloc_new w _)
 have hpl:p<W0.heap.size:=(Array.getElem?_eq_some_iff.1 hpk).1
 have hql:q<W0.heap.size:=(Array.getElem?_eq_some_iff.1 hqk).1
 obtain⟨c0,c1,c2,-⟩:=cells3 hqk
 obtain⟨d0,d1,d2,-⟩:=cells3 hpk
 obtain⟨x1,hx1⟩:=zx (Value.slice An Nn cn)
 obtain⟨x2,hx2⟩:=zx (Value.slice Ad Nd cd)
 obtain⟨y1,hy1⟩:=zx (Value.slice Bn Mn dn)
 obtain⟨y2,hy2⟩:=zx (Value.slice Bd Md dd)
 have H1:=zh (hxn.below hb0)
 have H2:=zh (hxd.below hb0)
 have H3:=zh (hyn.below hb0)
 have H4:=zh (hyd.below hb0)
 have HW0:=zh hW0
 have HQ:=zh (show q=w.heap.size∧p=w.heap.size+1 from⟨hq,hp⟩)
 have HQP:=zh (show q<W0.heap.size∧p<W0.heap.size from⟨hql,hpl⟩)
 have HB0:=zh hb0
 clear hW0 hq hp hb0 hpk hqk hpl hql hxn hxd hyn hyd
 go_enter Tryz.func64,Tryz.ntmps64
 go_wp2_with fail
 rw[←HW0.out,←HQ.out.2,←HQ.out.1]
 clear HW0 HQ
 rw[←hx1] at H1 c1 ⊢
 rw[←hx2] at H2 c2 ⊢
 rw[←hy1] at H3 d1 ⊢
 rw[←hy2] at H4 d2 ⊢
 have HH0:=zh (show HeldF W0 q p (.bool false) x1 x2 (.bool false) y1 y2 W0 from⟨c0,c1,c2,d0,d1,d2,Below.refl _ _⟩)
 have HT1:=zh (fun W (h:HeldF W0 q p (.bool false) x1 x2 (.bool false) y1 y2 W)=>ftimes_any x1 y2 a d W (h.ls H1.out) (h.ls H4.out) h0d h1)
 have HT2:=zh (fun W (h:HeldF W0 q p (.bool false) x1 x2 (.bool false) y1 y2 W)=>ftimes_any y1 x2 c b W (h.ls H3.out) (h.ls H2.out) h0b h2)
 clear hx1 hx2 hy1 hy2 c0 c1 c2 d0 d1 d2 h1 h2
 refine(fvalid_any false _ _ a b W0 H1.out H2.out h0b).mono ?_
 rintro e w1 ⟨rfl,hb1⟩
 have hh1:=HH0.out.below hb1 HQP.out.1 HQP.out.2
 obtain⟨c0,c1,c2,d0,d1,d2,-⟩:=hh1
 have HH1:=zh (HH0.out.below hb1 HQP.out.1 HQP.out.2)
 clear hb1
 go_wp2_with fail
 refine(fvalid_any false _ _ c d w1 (HH1.out.ls H3.out) (HH1.out.ls H4.out) h0d).mono ?_
 rintro e w2 ⟨rfl,hb2⟩
 have HS0:=zh (show HeldF W0 q p (.bool false) x1 x2 (.bool false) y1 y2 w2.drew from(by obtain⟨a1,a2,a3,a4,a5,a6,a7⟩:=HH1.out.below hb2 HQP.out.1 HQP.out.2;exact⟨a1,a2,a3,a4,a5,a6,a7.drew⟩))
 clear hb2 c0 c1 c2 d0 d1 d2
 go_upto_region 3 with fail
 refine region_tail (S:=(fun w'=>w'.cell? ⟨q,0,none⟩=some (.bool false)∧w'.cell? ⟨q,1,none⟩=some x1∧w'.cell? ⟨q,2,none⟩=some x2∧w'.cell? ⟨p,0,none⟩=some (.bool false)∧w'.cell? ⟨p,1,none⟩=some y1∧w'.cell? ⟨p,2,none⟩=some y2∧Below W0.heap.size W0 w')) [] (by kernel_rfl) HS0.out (fun hHeld=>?_)
 refine tk 0 17 ?_
 refine tk 1 18 ?_
 refine tk 2 19 ?_
 refine tk 3 20 ?_
 refine tk 5 22 ?_
 refine tk 6 23 ?_
 refine tk 7 24 ?_
 refine tk 8 25 ?_
 refine readyT (rs:=[4]) (by kernel_rfl) (by simp) ?_
 refine AllReadyT.cons rfl (fun K hK=>?_) ?_
 ·go_simp
  (go_at_call 123;refine(HT1.out _ (by assumption)).mono ?_;rintro e w5 ⟨u5,rfl,hu5,hb5⟩)
  go_wp2_with fail
  refine hK.out _ _ ?_ (fun hHeld=>?_)
  ·(first|exact HeldF.below (by assumption) hb7 HQP.out.1 HQP.out.2|exact HeldF.below (by assumption) hb6 HQP.out.1 HQP.out.2|exact HeldF.below (by assumption) hb5 HQP.out.1 HQP.out.2)
  clear hK K
  (try simp only[Act.put,z1,z2,z3])
  refine readyT (rs:=[9]) (by kernel_rfl) (by simp) ?_
  refine AllReadyT.cons rfl (fun K hK=>?_) ?_
  ·go_simp
   (go_at_call 123;refine(HT2.out _ (by assumption)).mono ?_;rintro e w6 ⟨u6,rfl,hu6,hb6⟩)
   go_wp2_with fail
   refine hK.out _ _ ?_ (fun hHeld=>?_)
   ·(first|exact HeldF.below (by assumption) hb7 HQP.out.1 HQP.out.2|exact HeldF.below (by assumption) hb6 HQP.out.1 HQP.out.2|exact HeldF.below (by assumption) hb5 HQP.out.1 HQP.out.2)
   clear hK K
   (try simp only[Act.put,z1,z2,z3])
   refine readyT (rs:=[10]) (by kernel_rfl) (by simp) ?_
   refine AllReadyT.cons rfl (fun K hK=>?_) ?_
   ·go_simp
    (go_at_call 122;refine(ncmp_b _ _ (a * d) (c * b) _ _ _ (hu5.bel hb6) hu6).mono ?_;rintro e w7 ⟨rfl,hb7⟩)
    go_wp2_with fail
    refine hK.out _ _ ?_ (fun hHeld=>?_)
    ·(first|exact HeldF.below (by assumption) hb7 HQP.out.1 HQP.out.2|exact HeldF.below (by assumption) hb6 HQP.out.1 HQP.out.2|exact HeldF.below (by assumption) hb5 HQP.out.1 HQP.out.2)
    clear hK K
    (try simp only[Act.put,z1,z2,z3])
    refine tk 11 6 ?_
    refine doneT (by kernel_rfl) ?_ _
    have HBZ:=zh (HeldF.bl (q:=q) (p:=p) (by assumption))
    obtain⟨d0,d1,d2,e0,e1,e2,-⟩:=hHeld
    clear hu5 hu6 hb5 hb6 hb7
    obtain⟨C,hC⟩:=zx (cmpI (a * d) (c * b))
    have HCC:=zh hC
    rw[←hC]
    clear hC
    go_wp2_with fail
    go_quiet (fail)
    go_wp2_with fail
    go_ret2
    exact⟨by rw[HCC.out];rfl,by rw[show w7.drewN nq=w7.drewN nq from rfl];exact HB0.out.trans ((Below.drewN' HBZ.out nq).mono HB0.out.size)⟩
   exact AllReadyT.nil
  exact AllReadyT.nil
 exact AllReadyT.nil
theorem nadd0_any(va vb:Value) (m:Nat) (w:World) (ha:LS w (Bl w.heap.size) va (natL 0)) (hb:LS w (Bl w.heap.size) vb (natL m)) (hm:0<m) :
  Calls Tryz.prog 176 #[va,vb] w fun e w'=>∃u,e=.returned (.tuple #[u,.int .i64 0])∧LS w' (Fr w.heap.size w'.heap.size) u (natL m)∧Below w.heap.size w w':=by
 have HLA:=zh (nlarge_any va _ _ w ha (by simp[natL_zero]))
 have HLB:=zh (nlarge_any vb _ _ w hb (by have:=natL_length m;omega))
 have HA:=zh (fun k=>nlength_any va _ _ (w.drewN k) ha (by simp[natL_zero]))
 have HB:=zh (fun k=>nlength_any vb _ _ (w.drewN k) hb (by have:=natL_length m;omega))
 rw[trim_natL] at HA HB
 have hm32:=hb.lt32
 have lm:(natL m).length=1:=by rw[natL_pos hm];rfl
 obtain⟨B,d,rfl,-,-⟩:=hb.form
 obtain⟨-,-,-,-,hd0,-⟩:=hb.cap (by rw[lm];omega)
 rw[lm] at hb HB HLB hd0 ⊢
 have hd1:(1:Int)≤(d:Int):=by omega
 obtain⟨b2,o2,rfl,hR2,hc2⟩:=hb.one hm
 have HC2:=zh hc2
 have HR2:=zh hR2
 have hmk2:=mk_u32s2
 have HA0:=zh (show ∀k,Calls Tryz.prog 175 #[va] (w.drewN k) fun e w'=>e=.returned (.int .i64 0)∧w.drewN k=w' from HA.out)
 have HB0:=zh (show ∀k,Calls Tryz.prog 175 #[.slice (some ⟨b2,o2,none⟩) 1 d] (w.drewN k) fun e w'=>e=.returned (.int .i64 1)∧w.drewN k=w' from HB.out)
 clear hb lm hc2 hR2 hd0 HB HA
 rcases ha.1 with ⟨rfl,-⟩ | ⟨b1,o1,c,hva,-,-,-,-⟩
 ·clear ha
  go_enter Tryz.func176,Tryz.ntmps176
  go_wp2_with fail
  refine HLA.out.mono ?_
  rintro e w1 ⟨rfl,rfl⟩
  go_wp2_with fail
  refine HLB.out.mono ?_
  rintro e w1 ⟨rfl,rfl⟩
  go_wp2_with fail
  go_quiet (first | with_reducible exact Calls.quiet_of_same ((HA0.out _).mono fun _ _ h=>⟨h.1,h.2.symm⟩) | with_reducible exact Calls.quiet_of_same ((HB0.out _).mono fun _ _ h=>⟨h.1,h.2.symm⟩))
  obtain⟨W,hW⟩:=zx (w.drewN nq)
  rw[←hW]
  have hbW:Below w.heap.size w W:=by rw[hW];exact Below.drewN' (Below.refl _ _) nq
  have HBW:=zh hbW
  clear hbW hW
  obtain⟨W3,hW3⟩:=zx (W.alloc (.cells #[.int .u32 0,.int .u32 0] 234))
  obtain⟨g,hg⟩:=zx W.heap.size
  have hg3:W3.heap[g]?=some (.cells #[.int .u32 0,.int .u32 0] 234 (0,0)):=by rw[hW3,hg];exact heap_alloc_new _ _
  have HB3:=zh (show Below w.heap.size w W3 from by rw[hW3];exact HBW.out.alloc HBW.out.size _)
  have HG:=zh (show w.heap.size≤g from by rw[hg];exact HBW.out.size)
  have k2:W3.cell? ⟨b2,o2,none⟩=some (.int .u32 (m:Int)):=(HB3.out.cell (p:=⟨b2,o2,none⟩) HR2.out).trans HC2.out
  have kg0:W3.cell? ⟨g,0,none⟩=some (.int .u32 0):=by rw[cell_of_row _ _ _ _ _ _ hg3];rfl
  have kf0:W3.frozen? ⟨g,0,none⟩=false:=frozen_of_row _ _ _ _ _ hg3
  have HG3:=zh hg3
  have HW3:=zh hW3
  have HGW:=zh hg
  have m0:(0:Int)≤(m:Int):=by omega
  have m1:(m:Int)<4294967296:=by omega
  have hdiv:(m:Int) / 4294967296=0:=by omega
  clear hg3 hW3 hg
  go_upto_region 7 with fail
  rw[←HGW.out,←HW3.out]
  clear hmk2
  go_wp2_with fail
  go_loopg [7,8,36] 1 (fun z v7 v8 v36 wr=>(z=1∧v36=.int .i64 0∧v7=.int .u64 0∧W3=wr)∨(z=0∧v36=.int .i64 1∧v7=.int .u64 0∧Hid (wr.heap[g]?=some (.cells #[.int .u32 (m:Int),.int .u32 0] 234 (0,0)))∧Hid (Below w.heap.size w wr)))
  case atStart=>exact .inl ⟨rfl,rfl,rfl,rfl⟩
  case round =>
   rcases hrel with ⟨rfl,rfl,rfl,rfl⟩ | ⟨rfl,rfl,rfl,hgc,hbr⟩
   ·go_wp2_with fail
    go_roundg 0
    case measure=>omega
    case rel=>exact .inr ⟨rfl,rfl,rfl,heap_setCell_same W3 g 0 _ _ _ HG3.out,HB3.out.setCell HG.out _⟩
   ·clear k2 kg0 kf0
    have kg1:wr.cell? ⟨g,1,none⟩=some (.int .u32 0):=by rw[cell_of_row _ _ _ _ _ _ hgc.out];rfl
    have kf1:wr.frozen? ⟨g,1,none⟩=false:=frozen_of_row _ _ _ _ _ hgc.out
    obtain⟨W4,hW4⟩:=zx (wr.setCell ⟨g,1,none⟩ (.int .u32 0))
    have hg4:W4.heap[g]?=some (.cells #[.int .u32 (m:Int),.int .u32 0] 234 (0,0)):=by rw[hW4];exact heap_setCell_same wr g 1 _ _ _ hgc.out
    have HB4:=zh (show Below w.heap.size w W4 from by rw[hW4];exact hbr.out.setCell HG.out _)
    have hgl:g<W4.heap.size:=(Array.getElem?_eq_some_iff.1 hg4).1
    have hls:LS W4 (Bl W4.heap.size) (.slice (some ⟨g,0,none⟩) 2 2) [m,0]:=LS.cell2 W4 g m (by omega) hg4 _ hgl
    have HS:=zh (nsized_any _ _ _ _ _ W4 hls (by simp) (by simp))
    have hr:=((hls.take (natL m).length (natL m).length (by have:=natL_length m;simp;omega) (Nat.le_refl _) (by have:=natL_length m;unfold maxLen;omega) (by simp)).only (R':=Fr w.heap.size W4.heap.size) (fun b o hb=>by
     injection hb with hb
     injection hb with hb
     rw[←hb]
     exact⟨HG.out,hgl⟩))
    rw[trim_zero2] at HS
    have ht:[m,0].take (natL m).length=natL m:=by rw[natL_pos hm];rfl
    rw[ht] at hr
    have HR:=zh hr
    have HW4:=zh hW4
    clear hls hr ht hgc hbr hgl hg4 hW4
    go_upto_region 18 with fail
    rw[←HW4.out]
    clear kg1 kf1
    go_wp2_with fail
    refine HS.out.mono ?_
    rintro e w4 ⟨rfl,rfl⟩
    go_wp2_with fail
    go_ret2
    exact⟨_,rfl,HR.out,HB4.out⟩
 ·have hva2:va=.slice (some ⟨b1,o1,none⟩) 0 c:=hva
  subst hva2
  clear ha hva
  go_enter Tryz.func176,Tryz.ntmps176
  go_wp2_with fail
  refine HLA.out.mono ?_
  rintro e w1 ⟨rfl,rfl⟩
  go_wp2_with fail
  refine HLB.out.mono ?_
  rintro e w1 ⟨rfl,rfl⟩
  go_wp2_with fail
  go_quiet (first | with_reducible exact Calls.quiet_of_same ((HA0.out _).mono fun _ _ h=>⟨h.1,h.2.symm⟩) | with_reducible exact Calls.quiet_of_same ((HB0.out _).mono fun _ _ h=>⟨h.1,h.2.symm⟩))
  obtain⟨W,hW⟩:=zx (w.drewN nq)
  rw[←hW]
  have hbW:Below w.heap.size w W:=by rw[hW];exact Below.drewN' (Below.refl _ _) nq
  have HBW:=zh hbW
  clear hbW hW
  obtain⟨W3,hW3⟩:=zx (W.alloc (.cells #[.int .u32 0,.int .u32 0] 234))
  obtain⟨g,hg⟩:=zx W.heap.size
  have hg3:W3.heap[g]?=some (.cells #[.int .u32 0,.int .u32 0] 234 (0,0)):=by rw[hW3,hg];exact heap_alloc_new _ _
  have HB3:=zh (show Below w.heap.size w W3 from by rw[hW3];exact HBW.out.alloc HBW.out.size _)
  have HG:=zh (show w.heap.size≤g from by rw[hg];exact HBW.out.size)
  have k2:W3.cell? ⟨b2,o2,none⟩=some (.int .u32 (m:Int)):=(HB3.out.cell (p:=⟨b2,o2,none⟩) HR2.out).trans HC2.out
  have kg0:W3.cell? ⟨g,0,none⟩=some (.int .u32 0):=by rw[cell_of_row _ _ _ _ _ _ hg3];rfl
  have kf0:W3.frozen? ⟨g,0,none⟩=false:=frozen_of_row _ _ _ _ _ hg3
  have HG3:=zh hg3
  have HW3:=zh hW3
  have HGW:=zh hg
  have m0:(0:Int)≤(m:Int):=by omega
  have m1:(m:Int)<4294967296:=by omega
  have hdiv:(m:Int) / 4294967296=0:=by omega
  clear hg3 hW3 hg
  go_upto_region 7 with fail
  rw[←HGW.out,←HW3.out]
  clear hmk2
  go_wp2_with fail
  go_loopg [7,8,36] 1 (fun z v7 v8 v36 wr=>(z=1∧v36=.int .i64 0∧v7=.int .u64 0∧W3=wr)∨(z=0∧v36=.int .i64 1∧v7=.int .u64 0∧Hid (wr.heap[g]?=some (.cells #[.int .u32 (m:Int),.int .u32 0] 234 (0,0)))∧Hid (Below w.heap.size w wr)))
  case atStart=>exact .inl ⟨rfl,rfl,rfl,rfl⟩
  case round =>
   rcases hrel with ⟨rfl,rfl,rfl,rfl⟩ | ⟨rfl,rfl,rfl,hgc,hbr⟩
   ·go_wp2_with fail
    go_roundg 0
    case measure=>omega
    case rel=>exact .inr ⟨rfl,rfl,rfl,heap_setCell_same W3 g 0 _ _ _ HG3.out,HB3.out.setCell HG.out _⟩
   ·clear k2 kg0 kf0
    have kg1:wr.cell? ⟨g,1,none⟩=some (.int .u32 0):=by rw[cell_of_row _ _ _ _ _ _ hgc.out];rfl
    have kf1:wr.frozen? ⟨g,1,none⟩=false:=frozen_of_row _ _ _ _ _ hgc.out
    obtain⟨W4,hW4⟩:=zx (wr.setCell ⟨g,1,none⟩ (.int .u32 0))
    have hg4:W4.heap[g]?=some (.cells #[.int .u32 (m:Int),.int .u32 0] 234 (0,0)):=by rw[hW4];exact heap_setCell_same wr g 1 _ _ _ hgc.out
    have HB4:=zh (show Below w.heap.size w W4 from by rw[hW4];exact hbr.out.setCell HG.out _)
    have hgl:g<W4.heap.size:=(Array.getElem?_eq_some_iff.1 hg4).1
    have hls:LS W4 (Bl W4.heap.size) (.slice (some ⟨g,0,none⟩) 2 2) [m,0]:=LS.cell2 W4 g m (by omega) hg4 _ hgl
    have HS:=zh (nsized_any _ _ _ _ _ W4 hls (by simp) (by simp))
    have hr:=((hls.take (natL m).length (natL m).length (by have:=natL_length m;simp;omega) (Nat.le_refl _) (by have:=natL_length m;unfold maxLen;omega) (by simp)).only (R':=Fr w.heap.size W4.heap.size) (fun b o hb=>by
     injection hb with hb
     injection hb with hb
     rw[←hb]
     exact⟨HG.out,hgl⟩))
    rw[trim_zero2] at HS
    have ht:[m,0].take (natL m).length=natL m:=by rw[natL_pos hm];rfl
    rw[ht] at hr
    have HR:=zh hr
    have HW4:=zh hW4
    clear hls hr ht hgc hbr hgl hg4 hW4
    go_upto_region 18 with fail
    rw[←HW4.out]
    clear kg1 kf1
    go_wp2_with fail
    refine HS.out.mono ?_
    rintro e w4 ⟨rfl,rfl⟩
    go_wp2_with fail
    go_ret2
    exact⟨_,rfl,HR.out,HB4.out⟩
theorem fadd0_any(xn xd yn yd:Value) (b c d:Nat) (w:World) (hxn:LS w (Bl w.heap.size) xn (natL 0)) (hxd:LS w (Bl w.heap.size) xd (natL b)) (hyn:LS w (Bl w.heap.size) yn (natL c)) (hyd:LS w (Bl w.heap.size) yd (natL d)) (h0b:0<b) (h0c:0<c) (h0d:0<d) (h2:c * b<4294967296) (h3:b * d<4294967296) (hg:Nat.gcd (c * b) (b * d)=1) :
  Calls Tryz.prog 118 #[.agg #[.bool false,xn,xd],.agg #[.bool false,yn,yd]] w fun e w'=>∃un um,e=.returned (.tuple #[.agg #[.bool false,un,um],.int .i64 0])∧LS w' (Fr w.heap.size w'.heap.size) un (natL (c * b))∧LS w' (Fr w.heap.size w'.heap.size) um (natL (b * d))∧Below w.heap.size w w':=by
 obtain⟨An,Nn,cn,rfl⟩:=hxn.frm
 obtain⟨Ad,Nd,cd,rfl⟩:=hxd.frm
 obtain⟨Bn,Mn,dn,rfl⟩:=hyn.frm
 obtain⟨Bd,Md,dd,rfl⟩:=hyd.frm
 obtain⟨W0,hW0⟩:=zx (((w.alloc (.cells #[.bool false,.slice An Nn cn,.slice Ad Nd cd] 55)).alloc (.cells #[.bool false,.slice Bn Mn dn,.slice Bd Md dd] 55)).alloc (.cells #[.bool false,.slice none 0 0,.slice none 0 0] 55))
 obtain⟨q,hq⟩:=zx w.heap.size
 obtain⟨p,hp⟩:=zx (w.heap.size+1)
 obtain⟨g,hgq⟩:=zx (w.heap.size+1+1)
 have hb0:Below w.heap.size w W0:=by rw[hW0];exact(((Below.refl _ _).alloc (Nat.le_refl _) _).alloc (by simp) _).alloc (by simp;omega) _
 have hgk:W0.heap[g]?=some (.cells #[.bool false,.slice none 0 0,.slice none 0 0] 55 (0,0)):=by
  rw[hW0];exact heap_alloc_at _ _ _ (by rw[hgq];simp)
 have hpk:W0.heap[p]?=some (.cells #[.bool false,.slice Bn Mn dn,.slice Bd Md dd] 55 (0,0)):=by
  rw[hW0];exact(Below.heap_alloc _ _ _ (by rw[hp];simp)).trans (heap_alloc_at _ _ _ (by rw[hp];simp))
 have hqk:W0.heap[q]?=some (.cells #[.bool false,.slice An Nn cn,.slice Ad Nd cd] 55 (0,0)):=by
  rw[hW0,hq];exact(Below.heap_alloc _ _ _ (by simp;omega)).trans ((Below.heap_alloc _ _ _ (by simp)).trans (heap_alloc_new w _))
 have hgl:g<W0.heap.size:=(Array.getElem?_eq_some_iff.1 hgk).1
 have hpl:p<W0.heap.size:=(Array.getElem?_eq_some_iff.1 hpk).1
 have hql:q<W0.heap.size:=(Array.getElem?_eq_some_iff.1 hqk).1
 obtain⟨c0,c1,c2,-⟩:=cells3 hqk
 obtain⟨d0,d1,d2,-⟩:=cells3 hpk
 obtain⟨x1,hx1⟩:=zx (Value.slice An Nn cn)
 obtain⟨x2,hx2⟩:=zx (Value.slice Ad Nd cd)
 obtain⟨y1,hy1⟩:=zx (Value.slice Bn Mn dn)
 obtain⟨y2,hy2⟩:=zx (Value.slice Bd Md dd)
 have H1:=zh (hxn.below hb0)
 have H2:=zh (hxd.below hb0)
 have H3:=zh (hyn.below hb0)
 have H4:=zh (hyd.below hb0)
 have HW0:=zh hW0
 have HQ:=zh (show q=w.heap.size∧p=w.heap.size+1∧g=w.heap.size+1+1 from⟨hq,hp,hgq⟩)
 have HGL:=zh (show g<W0.heap.size∧g=w.heap.size+1+1 from⟨hgl,hgq⟩)
 have HBK:=zh hgk
 have HQP:=zh (show q<W0.heap.size∧p<W0.heap.size from⟨hql,hpl⟩)
 have HB0:=zh hb0
 clear hW0 hq hp hb0 hpk hqk hpl hql hxn hxd hyn hyd hgl hgk hgq
 go_enter Tryz.func118,Tryz.ntmps118
 go_wp2_with fail
 rw[←HW0.out,←HQ.out.2.2,←HQ.out.2.1,←HQ.out.1]
 clear HW0 HQ
 rw[←hx1] at H1 c1 ⊢
 rw[←hx2] at H2 c2 ⊢
 rw[←hy1] at H3 d1 ⊢
 rw[←hy2] at H4 d2 ⊢
 have HH0:=zh (show HeldF W0 q p (.bool false) x1 x2 (.bool false) y1 y2 W0 from⟨c0,c1,c2,d0,d1,d2,Below.refl _ _⟩)
 have HT1:=zh (fun W (h:HeldF W0 q p (.bool false) x1 x2 (.bool false) y1 y2 W)=>ftimes_any x1 y2 0 d W (h.ls H1.out) (h.ls H4.out) h0d (by omega))
 have HT2:=zh (fun W (h:HeldF W0 q p (.bool false) x1 x2 (.bool false) y1 y2 W)=>ftimes_any y1 x2 c b W (h.ls H3.out) (h.ls H2.out) h0b h2)
 have HT3:=zh (fun W (h:HeldF W0 q p (.bool false) x1 x2 (.bool false) y1 y2 W)=>ftimes_any x2 y2 b d W (h.ls H2.out) (h.ls H4.out) h0d h3)
 clear hx1 hx2 hy1 hy2 c0 c1 c2 d0 d1 d2 h2 h3
 refine(fvalid_any false _ _ 0 b W0 H1.out H2.out h0b).mono ?_
 rintro e w1 ⟨rfl,hb1⟩
 have hh1:=HH0.out.below hb1 HQP.out.1 HQP.out.2
 obtain⟨c0,c1,c2,d0,d1,d2,-⟩:=hh1
 have HH1:=zh (HH0.out.below hb1 HQP.out.1 HQP.out.2)
 clear hb1
 go_wp2_with fail
 refine(fvalid_any false _ _ c d w1 (HH1.out.ls H3.out) (HH1.out.ls H4.out) h0d).mono ?_
 rintro e w2 ⟨rfl,hb2⟩
 have HS0:=zh (show HeldF W0 q p (.bool false) x1 x2 (.bool false) y1 y2 w2.drew from(by obtain⟨a1,a2,a3,a4,a5,a6,a7⟩:=HH1.out.below hb2 HQP.out.1 HQP.out.2;exact⟨a1,a2,a3,a4,a5,a6,a7.drew⟩))
 clear hb2 c0 c1 c2 d0 d1 d2
 go_upto_region 3 with fail
 refine region_tail (S:=(fun w'=>w'.cell? ⟨q,0,none⟩=some (.bool false)∧w'.cell? ⟨q,1,none⟩=some x1∧w'.cell? ⟨q,2,none⟩=some x2∧w'.cell? ⟨p,0,none⟩=some (.bool false)∧w'.cell? ⟨p,1,none⟩=some y1∧w'.cell? ⟨p,2,none⟩=some y2∧Below W0.heap.size W0 w')) [] (by kernel_rfl) HS0.out (fun hHeld=>?_)
 refine tk 0 24 ?_
 refine tk 1 25 ?_
 refine tk 2 26 ?_
 refine tk 3 27 ?_
 refine tk 5 29 ?_
 refine tk 6 30 ?_
 refine tk 7 31 ?_
 refine tk 8 32 ?_
 refine tk 10 34 ?_
 refine tk 11 35 ?_
 refine tk 12 36 ?_
 refine tk 13 37 ?_
 refine readyT (rs:=[4]) (by kernel_rfl) (by simp) ?_
 refine AllReadyT.cons rfl (fun K hK=>?_) ?_
 ·go_simp
  (go_at_call 123;refine(HT1.out _ (by assumption)).mono ?_;rintro e w5 ⟨u5,rfl,hu5,hb5⟩)
  go_wp2_with fail
  refine hK.out _ _ ?_ (fun hHeld=>?_)
  ·(first|exact HeldF.below (by assumption) hb7 HQP.out.1 HQP.out.2|exact HeldF.below (by assumption) hb6 HQP.out.1 HQP.out.2|exact HeldF.below (by assumption) hb5 HQP.out.1 HQP.out.2)
  clear hK K
  (try simp only[Act.put,z1,z2,z3])
  refine readyT (rs:=[9]) (by kernel_rfl) (by simp) ?_
  refine AllReadyT.cons rfl (fun K hK=>?_) ?_
  ·go_simp
   (go_at_call 123;refine(HT2.out _ (by assumption)).mono ?_;rintro e w6 ⟨u6,rfl,hu6,hb6⟩)
   go_wp2_with fail
   refine hK.out _ _ ?_ (fun hHeld=>?_)
   ·(first|exact HeldF.below (by assumption) hb7 HQP.out.1 HQP.out.2|exact HeldF.below (by assumption) hb6 HQP.out.1 HQP.out.2|exact HeldF.below (by assumption) hb5 HQP.out.1 HQP.out.2)
   clear hK K
   (try simp only[Act.put,z1,z2,z3])
   refine readyT (rs:=[14]) (by kernel_rfl) (by simp) ?_
   refine AllReadyT.cons rfl (fun K hK=>?_) ?_
   ·go_simp
    (go_at_call 123;refine(HT3.out _ (by assumption)).mono ?_;rintro e w7 ⟨u7,rfl,hu7,hb7⟩)
    go_wp2_with fail
    refine hK.out _ _ ?_ (fun hHeld=>?_)
    ·(first|exact HeldF.below (by assumption) hb7 HQP.out.1 HQP.out.2|exact HeldF.below (by assumption) hb6 HQP.out.1 HQP.out.2|exact HeldF.below (by assumption) hb5 HQP.out.1 HQP.out.2)
    clear hK K
    (try simp only[Act.put,z1,z2,z3])
    refine tk 15 6 ?_
    refine tk 16 7 ?_
    refine tk 17 8 ?_
    refine doneT (by kernel_rfl) ?_ _
    have HBZ:=zh (HeldF.bl (q:=q) (p:=p) (by assumption))
    obtain⟨d0,d1,d2,e0,e1,e2,-⟩:=hHeld
    have HU5:=zh ((hu5.bel hb6).bel hb7)
    have HU6:=zh (hu6.bel hb7)
    have HU7:=zh hu7
    clear hu5 hu6 hu7 hb5 hb6 hb7
    rw[Nat.zero_mul] at HU5
    have HA:=zh (nadd0_any u5 u6 (c * b) w7 (HU5.out.mono Fr.bl) (HU6.out.mono Fr.bl) (Nat.mul_pos h0c h0b))
    obtain⟨W7,hW7⟩:=zx w7
    go_wp2_with fail
    refine HA.out.mono ?_
    rintro e w8 ⟨u8,rfl,hu8,hb8⟩
    have HU8:=zh hu8
    have HU78:=zh (HU7.out.bel hb8)
    have hb08:=HBZ.out.trans (hb8.mono HBZ.out.size)
    have l0:w8.cell? ⟨q,0,none⟩=some (.bool false):=(hb8.cell (p:=⟨q,0,none⟩) (Nat.lt_of_lt_of_le HQP.out.1 HBZ.out.size)).trans d0
    have HB8:=zh hb08
    have HL:=zh (flowest_any u8 u7 (c * b) (b * d) w8 (HU8.out.mono Fr.bl) (HU78.out.mono Fr.bl) (Nat.mul_pos h0b h0d) hg)
    clear hu8 hb8 hb08 d0 d1 d2 e0 e1 e2 hW7
    go_wp2_with fail
    refine HL.out.mono ?_
    rintro e w9 ⟨un,um,rfl,hun,hum,hb9⟩
    obtain⟨A3,N3,c3,rfl⟩:=hun.frm
    obtain⟨A4,N4,c4,rfl⟩:=hum.frm
    have hb19:=HB8.out.trans (hb9.mono HB8.out.size)
    have hk:=(hb19.block g HGL.out.1).trans HBK.out
    obtain⟨m0,m1,m2,f0,f1,f2⟩:=cells3 hk
    have hbw:=HB0.out.trans (hb19.mono HB0.out.size)
    have hgw:w.heap.size≤g:=by rw[HGL.out.2];omega
    have hs0:=HB0.out.size
    have hs1:=HB8.out.size
    have HX:=zh (box3 hk hbw hgw (.bool false) (.slice A3 N3 c3) (.slice A4 N4 c4) hun (fun b hb=>⟨by have:=hb.1;have:=HGL.out.1;omega,by have:=hb.1;omega,hb.2⟩) hum (fun b hb=>⟨by have:=hb.1;have:=HGL.out.1;omega,by have:=hb.1;omega,hb.2⟩))
    clear hun hum hb9 hb19 hk hbw hgw hs0 hs1 l0
    go_wp2_with fail
    obtain⟨Wf,hWf⟩:=zx (((w9.setCell ⟨g,0,none⟩ (.bool false)).setCell ⟨g,1,none⟩ (.slice A3 N3 c3)).setCell ⟨g,2,none⟩ (.slice A4 N4 c4))
    obtain⟨x0,x1,x2,hl1,hl2,hbf⟩:=HX.out Wf hWf
    rw[←hWf]
    clear hWf m0 m1 m2 f0 f1 f2
    exact bodyPost_ret (v:=.tuple #[.agg #[.bool false,.slice A3 N3 c3,.slice A4 N4 c4],.int .i64 0]) (by simp[results,Tryz.results118,go_sem,x0,x1,x2]) rfl ⟨_,_,rfl,hl1,hl2,hbf⟩
   exact AllReadyT.nil
  exact AllReadyT.nil
 exact AllReadyT.nil
theorem three{cs:List Value} {a b c:Value} {w:World} {p o:Nat} (h:∀i c,cs[i]?=some c→w.cell? ⟨p,o+i,none⟩=some c) (e:cs=[a,b,c]) :
  w.cell? ⟨p,o,none⟩=some a∧w.cell? ⟨p,o+1,none⟩=some b∧w.cell? ⟨p,o+2,none⟩=some c:=by
 subst e
 exact⟨h 0 _ rfl,h 1 _ rfl,h 2 _ rfl⟩
theorem fall_lim(v:Value) (xs:List Frc) (w:World) (h:SlS 3 FrcK w (Bl w.heap.size) v xs)
  (hK:∀(W:World) (x:Frc) (vn vd:Value),x∈xs→LS W (Bl W.heap.size) vn (natL x.num)→LS W (Bl W.heap.size) vd (natL x.den)→Calls Tryz.prog 59 #[.agg #[.bool x.neg,vn,vd]] W fun e w'=>e=.returned (.bool true)∧Below W.heap.size W w') :
  Calls Tryz.prog 61 #[v,.func (.func 59) #[] #[]] w fun e w'=>e=.returned (.bool true)∧Below w.heap.size w w':=by
 obtain⟨A,c,rfl,-,hm⟩:=h.form
 unfold maxLen at hm
 have HL:=zh h
 have HK:=zh hK
 clear h hK
 go_enter Tryz.func61,Tryz.ntmps61
 go_wp2_with fail
 go_loopg [6,9] xs.length (fun z v6 v9 wr=>∃j:Nat,j≤xs.length∧z=xs.length - j∧v9=.int .i64 (j:Int)∧Hid (Below w.heap.size w wr))
 case atStart=>exact⟨0,by omega,rfl,rfl,Below.refl _ _⟩
 case round =>
  obtain⟨j,hj,rfl,rfl,HB⟩:=hrel
  by_cases hlt:j<xs.length
  ·obtain⟨b,off,cs,rfl,hR,-,hc,vn,vd,hcs,hn,hd⟩:=(SlS.keep frcK HL.out (kept_below HB.out)).at_ hlt
   obtain⟨k0,k1,k2⟩:=three hc hcs
   have hmem:xs[j]∈xs:=List.getElem_mem hlt
   obtain⟨An,Nn,cn,rfl⟩:=hn.frm
   obtain⟨Ad,Nd,cd,rfl⟩:=hd.frm
   have hsz:=HB.out.size
   generalize hx:xs[j]=x at *
   obtain⟨neg,hneg⟩:=zx x.neg
   rw[←hneg] at k0
   obtain⟨W1,hW1⟩:=zx (wr.alloc (.cells #[.bool neg,.slice An Nn cn,.slice Ad Nd cd] 55))
   have hb1:Below wr.heap.size wr W1:=by rw[hW1];exact(Below.refl _ _).alloc (Nat.le_refl _) _
   have hn1:=((hn.mono (Bl.mono hsz)).below hb1)
   have hd1:=((hd.mono (Bl.mono hsz)).below hb1)
   have HC:=zh (HK.out W1 x _ _ hmem hn1 hd1)
   rw[←hneg] at HC
   have HB1:=zh (HB.out.trans (hb1.mono hsz))
   have HW1:=zh hW1
   clear hc hcs hn hd hb1 hn1 hd1 hmem hW1 hneg hx hsz
   go_wp2_with fail
   rw[←HW1.out]
   refine HC.out.mono ?_
   rintro e w2 ⟨rfl,hb2⟩
   have HB2:=zh (HB1.out.trans (hb2.mono HB1.out.size))
   clear hb2 k0 k1 k2
   go_wp2_with fail
   go_roundg (xs.length - (j+1))
   case measure=>omega
   case rel=>exact⟨j+1,by omega,rfl,by go_num,HB2⟩
  ·go_wp2_with fail
   go_ret
   exact⟨rfl,HB.out⟩
theorem fall_rate(v:Value) (xs:List Frc) (w:World) (h:SlS 3 FrcK w (Bl w.heap.size) v xs)
  (hK:∀(W:World) (x:Frc) (vn vd:Value),x∈xs→LS W (Bl W.heap.size) vn (natL x.num)→LS W (Bl W.heap.size) vd (natL x.den)→Calls Tryz.prog 129 #[.agg #[.bool x.neg,vn,vd]] W fun e w'=>e=.returned (.bool true)∧Below W.heap.size W w') :
  Calls Tryz.prog 61 #[v,.func (.func 129) #[] #[]] w fun e w'=>e=.returned (.bool true)∧Below w.heap.size w w':=by
 obtain⟨A,c,rfl,-,hm⟩:=h.form
 unfold maxLen at hm
 have HL:=zh h
 have HK:=zh hK
 clear h hK
 go_enter Tryz.func61,Tryz.ntmps61
 go_wp2_with fail
 go_loopg [6,9] xs.length (fun z v6 v9 wr=>∃j:Nat,j≤xs.length∧z=xs.length - j∧v9=.int .i64 (j:Int)∧Hid (Below w.heap.size w wr))
 case atStart=>exact⟨0,by omega,rfl,rfl,Below.refl _ _⟩
 case round =>
  obtain⟨j,hj,rfl,rfl,HB⟩:=hrel
  by_cases hlt:j<xs.length
  ·obtain⟨b,off,cs,rfl,hR,-,hc,vn,vd,hcs,hn,hd⟩:=(SlS.keep frcK HL.out (kept_below HB.out)).at_ hlt
   obtain⟨k0,k1,k2⟩:=three hc hcs
   have hmem:xs[j]∈xs:=List.getElem_mem hlt
   obtain⟨An,Nn,cn,rfl⟩:=hn.frm
   obtain⟨Ad,Nd,cd,rfl⟩:=hd.frm
   have hsz:=HB.out.size
   generalize hx:xs[j]=x at *
   obtain⟨neg,hneg⟩:=zx x.neg
   rw[←hneg] at k0
   obtain⟨W1,hW1⟩:=zx (wr.alloc (.cells #[.bool neg,.slice An Nn cn,.slice Ad Nd cd] 55))
   have hb1:Below wr.heap.size wr W1:=by rw[hW1];exact(Below.refl _ _).alloc (Nat.le_refl _) _
   have hn1:=((hn.mono (Bl.mono hsz)).below hb1)
   have hd1:=((hd.mono (Bl.mono hsz)).below hb1)
   have HC:=zh (HK.out W1 x _ _ hmem hn1 hd1)
   rw[←hneg] at HC
   have HB1:=zh (HB.out.trans (hb1.mono hsz))
   have HW1:=zh hW1
   clear hc hcs hn hd hb1 hn1 hd1 hmem hW1 hneg hx hsz
   go_wp2_with fail
   rw[←HW1.out]
   refine HC.out.mono ?_
   rintro e w2 ⟨rfl,hb2⟩
   have HB2:=zh (HB1.out.trans (hb2.mono HB1.out.size))
   clear hb2 k0 k1 k2
   go_wp2_with fail
   go_roundg (xs.length - (j+1))
   case measure=>omega
   case rel=>exact⟨j+1,by omega,rfl,by go_num,HB2⟩
  ·go_wp2_with fail
   go_ret
   exact⟨rfl,HB.out⟩
theorem frate_any(va vb:Value) (n m:Nat) (w:World) (ha:LS w (Bl w.heap.size) va (natL n)) (hb:LS w (Bl w.heap.size) vb (natL m)) (hn:0<n) (hm:0<m) (hg:Nat.gcd n m=1) :
  Calls Tryz.prog 129 #[.agg #[.bool false,va,vb]] w fun e w'=>e=.returned (.bool true)∧Below w.heap.size w w':=by
 obtain⟨An,Nn,cn,rfl⟩:=ha.frm
 obtain⟨Ad,Nd,cd,rfl⟩:=hb.frm
 obtain⟨W0,hW0⟩:=zx (w.alloc (.cells #[.bool false,.slice An Nn cn,.slice Ad Nd cd] 55))
 obtain⟨q,hq⟩:=zx w.heap.size
 have hb0:Below w.heap.size w W0:=by rw[hW0];exact(Below.refl _ _).alloc (Nat.le_refl _) _
 have hbk:W0.heap[q]?=some (.cells #[.bool false,.slice An Nn cn,.slice Ad Nd cd] 55 (0,0)):=by rw[hW0,hq];exact heap_alloc_new _ _
 obtain⟨c0,c1,c2,-⟩:=cells3 hbk
 have hql:q<W0.heap.size:=(Array.getElem?_eq_some_iff.1 hbk).1
 have HA0:=zh (ha.below hb0)
 have HBV:=zh (hb.below hb0)
 have HL:=zh (flimits_any _ _ n m W0 HA0.out HBV.out hm hg)
 have HW0:=zh hW0
 have HQ:=zh hq
 have HB0:=zh hb0
 have HQL:=zh hql
 clear ha hb hW0 hq hb0 hbk hql
 go_enter Tryz.func129,Tryz.ntmps129
 go_wp2_with fail
 rw[←HW0.out,←HQ.out]
 refine HL.out.mono ?_
 rintro e w1 ⟨rfl,hb1⟩
 have k0:w1.cell? ⟨q,0,none⟩=some (.bool false):=(hb1.cell (p:=⟨q,0,none⟩) HQL.out).trans c0
 have k1:w1.cell? ⟨q,1,none⟩=some (.slice An Nn cn):=(hb1.cell (p:=⟨q,1,none⟩) HQL.out).trans c1
 have k2:w1.cell? ⟨q,2,none⟩=some (.slice Ad Nd cd):=(hb1.cell (p:=⟨q,2,none⟩) HQL.out).trans c2
 have HV:=zh (fabove_any false _ _ n m w1 (HA0.out.below hb1) (HBV.out.below hb1))
 rw[decide_eq_true hn] at HV
 have HB1:=zh (HB0.out.trans (hb1.mono HB0.out.size))
 clear hb1 c0 c1 c2
 go_wp2_with fail
 refine HV.out.mono ?_
 rintro e w2 ⟨rfl,hb2⟩
 have HB2:=zh (HB1.out.trans (hb2.mono HB1.out.size))
 clear hb2 k0 k1 k2
 go_wp2_with fail
 go_ret
 exact⟨rfl,HB2.out⟩
theorem fone_any(va vb:Value) (n m:Nat) (w:World) (ha:LS w (Bl w.heap.size) va (natL n)) (hb:LS w (Bl w.heap.size) vb (natL m)) (hm:0<m) (hle:n≤m) :
  Calls Tryz.prog 130 #[.agg #[.bool false,va,vb]] w fun e w'=>e=.returned (.bool true)∧Below w.heap.size w w':=by
 obtain⟨An,Nn,cn,rfl⟩:=ha.frm
 obtain⟨Ad,Nd,cd,rfl⟩:=hb.frm
 have n32:=ha.lt32
 have m32:=hb.lt32
 obtain⟨W0,hW0⟩:=zx (w.alloc (.cells #[.bool false,.slice An Nn cn,.slice Ad Nd cd] 55))
 obtain⟨q,hq⟩:=zx w.heap.size
 have hb0:Below w.heap.size w W0:=by rw[hW0];exact(Below.refl _ _).alloc (Nat.le_refl _) _
 have hbk:W0.heap[q]?=some (.cells #[.bool false,.slice An Nn cn,.slice Ad Nd cd] 55 (0,0)):=by rw[hW0,hq];exact heap_alloc_new _ _
 obtain⟨c0,c1,c2,-⟩:=cells3 hbk
 have hql:q<W0.heap.size:=(Array.getElem?_eq_some_iff.1 hbk).1
 have HA0:=zh (ha.below hb0)
 have HBV:=zh (hb.below hb0)
 have HM:=zh (fmake_any 1 1 W0 (by omega) (by omega) (by omega) (by decide))
 have HW0:=zh hW0
 have HQ:=zh hq
 have HB0:=zh hb0
 have HQL:=zh hql
 clear ha hb hW0 hq hb0 hbk hql
 go_enter Tryz.func130,Tryz.ntmps130
 go_wp2_with fail
 rw[←HW0.out,←HQ.out]
 refine HM.out.mono ?_
 rintro e w1 ⟨un,um,rfl,hun,hum,hb1⟩
 obtain⟨A1,N1,e1,rfl⟩:=hun.frm
 obtain⟨A2,N2,e2,rfl⟩:=hum.frm
 obtain⟨W1,hW1⟩:=zx (w1.alloc (.cells #[.bool false,.slice A1 N1 e1,.slice A2 N2 e2] 55))
 obtain⟨g,hgq⟩:=zx w1.heap.size
 have hb2:Below w1.heap.size w1 W1:=by rw[hW1];exact(Below.refl _ _).alloc (Nat.le_refl _) _
 have hb12:=hb1.trans (hb2.mono hb1.size)
 have hbk:W1.heap[g]?=some (.cells #[.bool false,.slice A1 N1 e1,.slice A2 N2 e2] 55 (0,0)):=by rw[hW1,hgq];exact heap_alloc_new _ _
 obtain⟨l0,l1,l2,-⟩:=cells3 hbk
 have k0:W1.cell? ⟨q,0,none⟩=some (.bool false):=(hb12.cell (p:=⟨q,0,none⟩) HQL.out).trans c0
 have k1:W1.cell? ⟨q,1,none⟩=some (.slice An Nn cn):=(hb12.cell (p:=⟨q,1,none⟩) HQL.out).trans c1
 have k2:W1.cell? ⟨q,2,none⟩=some (.slice Ad Nd cd):=(hb12.cell (p:=⟨q,2,none⟩) HQL.out).trans c2
 have HC:=zh (fcmp_any _ _ _ _ n m 1 1 W1 (HA0.out.below hb12) (HBV.out.below hb12) ((hun.mono Fr.bl).below hb2) ((hum.mono Fr.bl).below hb2) hm (by omega) (by omega) (by omega))
 have hcm:cmpI (n * 1) (1 * m)≤0:=by unfold cmpI;split <;> (try split) <;> omega
 obtain⟨C,hC⟩:=zx (cmpI (n * 1) (1 * m))
 rw[←hC] at HC hcm
 have HB1:=zh (HB0.out.trans (hb12.mono HB0.out.size))
 have HW1:=zh hW1
 have HGQ:=zh hgq
 clear hun hum hb1 hb2 hb12 hW1 hgq hbk hC c0 c1 c2
 go_upto_region 2 with fail
 rw[←HW1.out,←HGQ.out]
 go_wp2_with fail
 refine HC.out.mono ?_
 rintro e w2 ⟨rfl,hb2⟩
 have HB2:=zh (HB1.out.trans (hb2.mono HB1.out.size))
 clear hb2 k0 k1 k2 l0 l1 l2
 go_wp2_with fail
 go_ret
 exact⟨ret_bool (by simp),HB2.out⟩
end Go.Proofs.YtmacgpnlcdapfaaGreat
