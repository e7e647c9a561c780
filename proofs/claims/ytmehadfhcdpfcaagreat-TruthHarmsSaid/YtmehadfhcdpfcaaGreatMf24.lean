/- Harmless: the program's, walked. -/
import Derived.Test.YtmehadfhcdpfcaaGreatMf23
import Derived.Test.YtmehadfhcdpfcaaGreatMf01
set_option maxRecDepth 100000
set_option maxHeartbeats 12800000
namespace Go.Proofs.YtmehadfhcdpfcaaGreat
open Go.RowKit
set_option linter.unusedVariables false
set_option linter.unusedSimpArgs false
theorem seen_zero(ext NV:Nat) (l:List Ac) (x y:Int):seenF ext NV (l.take 0) x y=none:=by
 unfold seenF
 rw[if_neg]
 rintro ⟨h,-⟩
 simp[verOf] at h
theorem seen_yes{ext NV:Nat} {l:List Ac} {x y:Int} (h:seenF ext NV l x y=some (.bool true)):(verOf l x y).isSome=true∧(0≤x∧x<(NV:Int)∧0≤y∧y<(ext:Int)):=by
 unfold seenF at h
 by_cases hc:(verOf l x y).isSome=true∧(0≤x∧x<(NV:Int)∧0≤y∧y<(ext:Int))
 ·exact hc
 ·rw[if_neg hc] at h;cases h
theorem seen_no{ext NV:Nat} {l:List Ac} {x y:Int} (h:seenF ext NV l x y=none) (hs:0≤x∧x<(NV:Int)∧0≤y∧y<(ext:Int)):verOf l x y=none:=by
 unfold seenF at h
 cases hv:verOf l x y with
 | none=>rfl
 | some u =>
  rw[if_pos ⟨by rw[hv];rfl,hs⟩] at h
  cases h
def HeldHA(W0:World) (q gk gp:Nat) (x0 x1 x2 e0 e1 k m n:Value) (w':World):Prop :=
 w'.cell? ⟨q,0,none⟩=some x0∧w'.cell? ⟨q,1,none⟩=some x1∧w'.cell? ⟨q,2,none⟩=some x2∧w'.cell? ⟨gk,0,none⟩=some e0∧w'.cell? ⟨gk,1,none⟩=some e1∧w'.cell? ⟨gp,1,none⟩=some k∧w'.cell? ⟨gp,2,none⟩=some m∧w'.cell? ⟨gp,3,none⟩=some n∧Below W0.heap.size W0 w'
theorem HeldHA.bl{W0 wc:World} {q gk gp:Nat} {x0 x1 x2 e0 e1 k m n:Value} (h:HeldHA W0 q gk gp x0 x1 x2 e0 e1 k m n wc):Below W0.heap.size W0 wc:=h.2.2.2.2.2.2.2.2
theorem HeldHA.below{W0 wc w2:World} {q gk gp:Nat} {x0 x1 x2 e0 e1 k m n:Value} (h:HeldHA W0 q gk gp x0 x1 x2 e0 e1 k m n wc) (hb:Below wc.heap.size wc w2) (h1:q<W0.heap.size) (h2:gk<W0.heap.size) (h3:gp<W0.heap.size):HeldHA W0 q gk gp x0 x1 x2 e0 e1 k m n w2:=by
 have hB:=h.bl
 have hs:=hB.size
 obtain⟨d0,d1,d2,d3,d4,d5,d6,d7,-⟩:=h
 have mv:∀b,b<W0.heap.size→∀i x,wc.cell? ⟨b,i,none⟩=some x→w2.cell? ⟨b,i,none⟩=some x:=fun b h1 i x hx=>(hb.cell (p:=⟨b,i,none⟩) (Nat.lt_of_lt_of_le h1 hs)).trans hx
 exact⟨mv q h1 _ _ d0,mv q h1 _ _ d1,mv q h1 _ _ d2,mv gk h2 _ _ d3,mv gk h2 _ _ d4,mv gp h3 _ _ d5,mv gp h3 _ _ d6,mv gp h3 _ _ d7,hB.trans (hb.mono hs)⟩
theorem harmless_any(N:Nat) (hN:N≤12) (vl vm vd vv vp vo x0 x1 xa y0 y1 ya:Value) (F:FltM) (b a:Re) (w:World) (hf:FleetS w (Bl w.heap.size) vl vm vd vv vp vo F) (hok:FleetOk N F)
  (hB:ReS w (Bl w.heap.size) x0 x1 xa b) (hp1:b.plat.length≤1000) (hl1:∀l∈b.plat,l.length≤1000) (hk1:b.acks.length≤1000000)
  (hA:ReS w (Bl w.heap.size) y0 y1 ya a) (hp2:a.plat.length≤1000) (hl2:∀l∈a.plat,l.length≤1000) (hk2:a.acks.length≤1000000) :
  Calls Tryz.prog 20 #[.agg #[.int .i64 F.ext,vl,vm,vd,vv,vp,vo],.agg #[x0,x1,xa],.agg #[y0,y1,ya]] w fun e w'=>e=.returned (.bool (harmB F b a F.ext.toNat F.vols.length))∧Below w.heap.size w w':=by
 obtain⟨pb,pof,ob,oof,cp,co,rfl,rfl,hRp,hRo,hPA⟩:=polAt hf hok
 obtain⟨Aa,ca,rfl,-,hma⟩:=hB.2.2.form
 obtain⟨Ab,cb,rfl,-,hmb⟩:=hA.2.2.form
 have HVA:=zh (fun(w':World) (hb:Below w.heap.size w w')=>fvalidate_any N hN vl vm vd vv _ _ F w' (hf.below hb) hok)
 have HIB:=zh (fun w1 h1=>index_any x0 x1 (.slice Aa b.acks.length ca) b w1 h1 hp1 hl1 hk1)
 have HIA:=zh (fun w1 h1=>index_any y0 y1 (.slice Ab a.acks.length cb) a w1 h1 hp2 hl2 hk2)
 have HRB:=zh (fun(w':World) (hb:Below w.heap.size w w')=>hB.below hb)
 have HRA:=zh (fun(w':World) (hb:Below w.heap.size w w')=>hA.below hb)
 have HPB:=zh (And.intro (piecesTo_all b b.plat.length) (pieces_drive b (by omega)))
 have HPC:=zh (And.intro (piecesTo_all a a.plat.length) (pieces_drive a (by omega)))
 obtain⟨EX,hEX,hEX1,hEX2⟩:∃n:Nat,F.ext=(n:Int)∧1≤n∧n≤2:=by rcases hok.ext with e | e <;> rw[e] <;> first | exact⟨1,rfl,by omega,by omega⟩ | exact⟨2,rfl,by omega,by omega⟩
 have hno:F.vols.length≤12:=by have:=hok.volN;omega
 rw[hEX] at HVA ⊢
 rw[show((EX:Int)).toNat=EX from by omega]
 obtain⟨NO,hNO⟩:=zx F.vols.length
 obtain⟨NP,hNP⟩:=zx F.pols.length
 obtain⟨NA,hNA⟩:=zx b.acks.length
 obtain⟨NB,hNB⟩:=zx a.acks.length
 have hnp:NP≤2:=by rw[hNP];exact hok.polN
 rw[←hNO] at hno HVA ⊢
 rw[←hNP] at HVA ⊢
 rw[←hNA] at HIB HRB hk1 hma ⊢
 rw[←hNB] at HIA HRA hk2 hmb ⊢
 have HKQ:=zh (fun v (hv:v<NO)=>kmq_ok hok (show v<F.vols.length from by rw[←hNO];exact hv))
 have HPA:=zh hPA
 have HNN:=zh (show NO=F.vols.length∧NP=F.pols.length∧NO≤12∧NP≤2 from⟨hNO,hNP,hno,hnp⟩)
 have HNA:=zh hNA
 have HNB:=zh hNB
 have HNL:=zh (And.intro hk1 hk2)
 have HBB:=zh (show pb<w.heap.size∧ob<w.heap.size from⟨hRp,hRo⟩)
 obtain⟨W0,hW0⟩:=zx (((w.alloc (.cells #[.int .i64 (EX:Int),vl,vm,vd,vv,.slice (some ⟨pb,pof,none⟩) NP cp,.slice (some ⟨ob,oof,none⟩) NO co] 37)).alloc (.cells #[x0,x1,.slice Aa NA ca] 27)).alloc (.cells #[y0,y1,.slice Ab NB cb] 27))
 obtain⟨z,hz⟩:=zx w.heap.size
 obtain⟨q1,hq1⟩:=zx (w.heap.size+1)
 obtain⟨q2,hq2⟩:=zx (w.heap.size+1+1)
 have hb0:Below w.heap.size w W0:=by rw[hW0];exact(((Below.refl _ _).alloc (Nat.le_refl _) _).alloc (by simp) _).alloc (by simp;omega) _
 have hqk2:W0.heap[q2]?=some (.cells #[y0,y1,.slice Ab NB cb] 27 (0,0)):=by
  rw[hW0];exact heap_alloc_at _ _ _ (by rw[hq2];simp)
 have hqk1:W0.heap[q1]?=some (.cells #[x0,x1,.slice Aa NA ca] 27 (0,0)):=by
  rw[hW0];exact(Below.heap_alloc _ _ _ (by rw[hq1];simp)).trans (heap_alloc_at _ _ _ (by rw[hq1];simp))
 have hzk:W0.heap[z]?=some (.cells #[.int .i64 (EX:Int),vl,vm,vd,vv,.slice (some ⟨pb,pof,none⟩) NP cp,.slice (some ⟨ob,oof,none⟩) NO co] 37 (0,0)):=by
  rw[hW0,hz];exact(Below.heap_alloc _ _ _ (by simp;omega)).trans ((Below.heap_alloc _ _ _ (by simp)).trans (heap_alloc_new w _))
 have hzl:z<W0.heap.size:=(Array.getElem?_eq_some_iff.1 hzk).1
 have hql1:q1<W0.heap.size:=(Array.getElem?_eq_some_iff.1 hqk1).1
 have hql2:q2<W0.heap.size:=(Array.getElem?_eq_some_iff.1 hqk2).1
 have HC:=zh (fun(w':World) (hb:Below W0.heap.size W0 w')=>cells7 ((hb.block z hzl).trans hzk))
 have HQ:=zh (fun(w':World) (hb:Below W0.heap.size W0 w')=>And.intro (cells3v ((hb.block q1 hql1).trans hqk1)) (cells3v ((hb.block q2 hql2).trans hqk2)))
 have HQ3:=zh (fun(wa:World) (ha:Below W0.heap.size W0 wa) {w':World} (hb:Below wa.heap.size wa w')=>(show w'.cell? ⟨q1,0,none⟩=some x0∧w'.cell? ⟨q1,1,none⟩=some x1∧w'.cell? ⟨q1,2,none⟩=some (.slice Aa NA ca)∧w'.cell? ⟨q2,0,none⟩=some y0∧w'.cell? ⟨q2,1,none⟩=some y1∧w'.cell? ⟨q2,2,none⟩=some (.slice Ab NB cb)∧Below wa.heap.size wa w' from by
  have h1:=cells3v (((ha.trans (hb.mono ha.size)).block q1 hql1).trans hqk1)
  have h2:=cells3v (((ha.trans (hb.mono ha.size)).block q2 hql2).trans hqk2)
  exact⟨h1.1,h1.2.1,h1.2.2,h2.1,h2.2.1,h2.2.2,hb⟩))
 have HW0:=zh hW0
 have HZ:=zh (And.intro hz (And.intro hq1 hq2))
 have HB0:=zh hb0
 obtain⟨c0,c1,c2,c3,c4,c5,c6⟩:=HC.out W0 (Below.refl _ _)
 have HEXB:=zh (And.intro hEX1 hEX2)
 clear hf hok hB hA hPA hRp hRo hW0 hz hq1 hq2 hb0 hqk1 hqk2 hzk hzl hql1 hql2 hEX hNO hNP hNA hNB hnp hEX1 hno hp1 hl1 hk1 hp2 hl2 hk2 hma hmb
 go_enter Tryz.func20,Tryz.ntmps20
 go_wp2_with fail
 rw[←HW0.out,←HZ.out.2.2,←HZ.out.2.1,←HZ.out.1]
 refine(HVA.out _ HB0.out).mono ?_
 rintro e w1 ⟨rfl,hb1⟩
 have HB1:=zh hb1
 clear c0 c1 c2 c3 c4 c5 c6 hb1
 go_upto_region 3 with fail
 refine region_tail (S:=(fun w'=>w'.cell? ⟨q1,0,none⟩=some x0∧w'.cell? ⟨q1,1,none⟩=some x1∧w'.cell? ⟨q1,2,none⟩=some (.slice Aa NA ca)∧w'.cell? ⟨q2,0,none⟩=some y0∧w'.cell? ⟨q2,1,none⟩=some y1∧w'.cell? ⟨q2,2,none⟩=some (.slice Ab NB cb)∧Below w1.heap.size w1 w')) [] (by kernel_rfl) (HQ3.out w1 HB1.out (Below.refl _ _).drew) (fun hHeld=>?_)
 refine tk 0 21 ?_
 refine tk 2 23 ?_
 refine readyT (rs:=[1]) (by kernel_rfl) (by simp) ?_
 refine AllReadyT.cons rfl (fun K hK=>?_) ?_
 ·go_simp
  (go_at_call 38;refine(HIB.out _ (HRB.out _ (HB0.out.trans ((HB1.out.trans (hHeld.2.2.2.2.2.2.mono HB1.out.size)).mono HB0.out.size)))).mono ?_;rintro e w2 ⟨m1,n1,f1,rfl,hbb1,hM1,hG1,hb2⟩)
  go_wp2_with fail
  have hb2':=hHeld.2.2.2.2.2.2.trans (hb2.mono hHeld.2.2.2.2.2.2.size)
  refine hK.out _ _ ?_ (fun hHeld=>?_)
  ·(first|exact HQ3.out _ HB1.out (by assumption))
  clear hK K
  (try simp only[Act.put,z1,z2,z3])
  refine readyT (rs:=[3]) (by kernel_rfl) (by simp) ?_
  refine AllReadyT.cons rfl (fun K hK=>?_) ?_
  ·go_simp
   (go_at_call 38;refine(HIA.out _ (HRA.out _ (HB0.out.trans ((HB1.out.trans (hHeld.2.2.2.2.2.2.mono HB1.out.size)).mono HB0.out.size)))).mono ?_;rintro e w3 ⟨m2,n2,f2,rfl,hbb2,hM2,hG2,hb3⟩)
   go_wp2_with fail
   have hb3':=hHeld.2.2.2.2.2.2.trans (hb3.mono hHeld.2.2.2.2.2.2.size)
   refine hK.out _ _ ?_ (fun hHeld=>?_)
   ·(first|exact HQ3.out _ HB1.out (by assumption))
   clear hK K
   (try simp only[Act.put,z1,z2,z3])
   refine tk 4 7 ?_
   refine tk 5 8 ?_
   refine doneT (by kernel_rfl) ?_ _
   have HM1:=zh (hM1.below hb3 hM1.lt)
   have HG1:=zh (hG1.below hb3)
   have HM2:=zh hM2
   have HG2:=zh hG2
   have HB3:=zh (HB1.out.trans (hHeld.2.2.2.2.2.2.mono HB1.out.size))
   have hm1l:=Nat.lt_of_lt_of_le hM1.lt hb3.size
   have HML:=zh (And.intro hm1l hM2.lt)
   clear hHeld hbb1 hbb2 hM1 hM2 hG1 hG2 hb2 hb3 hb2' hb3' hm1l
   obtain⟨W4,hW4⟩:=zx (w3.alloc (.map #[] 0))
   obtain⟨gm,hgm⟩:=zx w3.heap.size
   have hM0:MapKV W4 101 gm 0 (fun _ _=>none):=by rw[hW4,hgm];exact MapKV.made _ _
   have hb4:Below gm w3 W4:=by rw[hW4,hgm];exact(Below.refl _ _).alloc (Nat.le_refl _) _
   have HM0:=zh (MapKV.congr key_two hM0 (g:=seenF EX NO (b.acks.take 0)) (fun x y _ _=>(seen_zero EX NO b.acks x y).symm))
   have HGM:=zh hgm
   have HW4:=zh hW4
   have HB4:=zh hb4
   clear hW4 hgm hM0 hb4
   have HB34:=zh (show Below w3.heap.size w3 W4 from by rw[←HGM.out];exact HB4.out)
   have x2:(w3.alloc (.map #[] 0)).cell? ⟨q1,2,none⟩=some (.slice Aa NA ca):=(HQ3.out w3 HB3.out ((Below.refl _ _).alloc (Nat.le_refl _) _)).2.2.1
   have hmm:=@run_makeMap Tryz.prog
   go_wp2_with fail
   clear hmm x2
   rw[←HW4.out,←HGM.out]
   go_loopg [29] NA (fun z v29 wr=>∃j:Nat,j≤NA∧z=NA - j∧v29=.int .i64 (j:Int)∧Hid (∃n,n≤j∧MapKV wr 101 gm n (seenF EX NO (b.acks.take j)))∧Hid (Below w3.heap.size w3 wr)∧Hid (HarmTo F b a EX NO j))
   case atStart=>exact⟨0,by omega,rfl,rfl,⟨0,by omega,HM0.out⟩,HB34.out,fun v s _ _ h=>by simp[verOf] at h⟩
   case round =>
    obtain⟨j,hj,rfl,rfl,HMP,HBR,HTO⟩:=hrel
    have h1R:=HB3.out.trans (HBR.out.mono HB3.out.size)
    have h0R:=HB0.out.trans (h1R.mono HB0.out.size)
    by_cases hlt:j<NA
    ·-- L1{
     have hjl:j<b.acks.length:=by rw[←HNA.out];exact hlt
     have hwj:IntKind.i64.wrap ((j:Int)+1)=(j:Int)+1:=IntWalk.i64_in _ (by have:=HNL.out.1;omega)
     obtain⟨n,hn,hM⟩:=HMP.out
     have HSK:=zh (fun h=>seen_skip (ext:=EX) (NV:=NO) hjl h)
     have HSN:=zh (fun h=>seen_new (ext:=EX) (NV:=NO) hjl h)
     have HTS:=zh (fun h=>HTO.out.skip hjl h)
     have HTP:=zh (fun v s e1 e2 h=>HTO.out.step (v:=v) (s:=s) hjl e1 e2 h)
     have HVN:=zh (fun(h:verOf (b.acks.take j) b.acks[j].vol b.acks[j].stripe=none)=>verOf_hit h hjl rfl rfl)
     obtain⟨bb,off,cs,rfl,hRb,-,hcs,hk,i1,i2,i3,i4⟩:=(HRB.out wr h0R).2.2.at_ hjl
     obtain⟨k0,k1,k2,k3⟩:=four hcs hk
     obtain⟨xv,hxv⟩:=zx (b.acks[j].vol)
     obtain⟨xs,hxs⟩:=zx (b.acks[j].stripe)
     obtain⟨xr,hxr⟩:=zx (b.acks[j].ver)
     obtain⟨xd,hxd⟩:=zx (b.acks[j].side)
     rw[←hxv] at k0 i1 HSK HSN HTS HTP HVN
     rw[←hxs] at k1 i2 HSK HSN HTS HTP HVN
     rw[←hxr] at k2 i3 HVN
     rw[←hxd] at k3 i4
     clear hxv hxs hxr hxd hcs hk hjl cs
     obtain⟨W5,hW5⟩:=zx ((wr.alloc (.cells #[.int .i64 xv,.int .i64 xs,.int .i64 xr,.int .i64 xd] 53)).alloc (.cells #[.int .i64 xv,.int .i64 xs] 101))
     obtain⟨ga,hga⟩:=zx wr.heap.size
     obtain⟨gk,hgk⟩:=zx (wr.heap.size+1)
     have hb5:Below wr.heap.size wr W5:=by rw[hW5];exact((Below.refl _ _).alloc (Nat.le_refl _) _).alloc (by simp) _
     have hak:W5.heap[ga]?=some (.cells #[.int .i64 xv,.int .i64 xs,.int .i64 xr,.int .i64 xd] 53 (0,0)):=by
      rw[hW5,hga];exact(Below.heap_alloc _ _ _ (by simp)).trans (heap_alloc_new wr _)
     have hkk:W5.heap[gk]?=some (.cells #[.int .i64 xv,.int .i64 xs] 101 (0,0)):=by
      rw[hW5,hgk];exact heap_alloc_at _ _ _ (by simp)
     have hM5:MapKV W5 101 gm n (seenF EX NO (b.acks.take j)):=hM.below hb5 hM.lt
     have hal:ga<W5.heap.size:=(Array.getElem?_eq_some_iff.1 hak).1
     have hkl:gk<W5.heap.size:=(Array.getElem?_eq_some_iff.1 hkk).1
     have hgl:gm<ga∧gm<gk:=by have:=hM.lt;omega
     have HAK:=zh (fun(w':World) (hb:Below gk.succ W5 w')=>(show w'.heap[ga]?=some (.cells #[.int .i64 xv,.int .i64 xs,.int .i64 xr,.int .i64 xd] 53 (0,0))∧w'.heap[gk]?=some (.cells #[.int .i64 xv,.int .i64 xs] 101 (0,0)) from⟨(hb.block ga (by omega)).trans hak,(hb.block gk (by omega)).trans hkk⟩))
     have HSZ:=zh (show W5.heap.size=gk.succ from by rw[hW5,hgk];simp)
     have HM5:=zh hM5
     have HW5:=zh hW5
     have HGA:=zh hga
     have HGK:=zh hgk
     have HGL:=zh hgl
     have HBR5:=zh (HBR.out.trans (hb5.mono HBR.out.size))
     have HLTV:=zh hlt
     have HN:=zh hn
     have h15:=h1R.trans (hb5.mono h1R.size)
     have H15:=zh h15
     have H05:=zh (HB0.out.trans (h15.mono HB0.out.size))
     obtain⟨⟨a0',a1',a2',a3'⟩,⟨e0,e1⟩⟩:=And.intro (cells4 hak) (cells2 hkk)
     obtain⟨c0,c1,c2,c3,c4,c5,c6⟩:=HC.out W5 h15
     clear hW5 hga hgk hb5 hak hkk hM5 hal hkl hgl hlt hn h15 hM HMP h1R h0R hRb HBR HTO
     go_upto_region 9 with fail
     rw[←HW5.out,←HGK.out,←HGA.out]
     clear k0 k1 k2 k3
     by_cases hsn:seenF EX NO (b.acks.take j) xv xs=some (.bool true)
     ·-- A{
      have hz:(zeroValue 4).run Tryz.prog W5=.ok (.bool false) W5:=by kernel_rfl
      have hlk:=HM5.out.look key_two Tryz.underlying99 hz i1 i2
      rw[hsn] at hlk
      unfold kv at hlk
      simp only[Option.getD_some] at hlk
      have HSX:=zh (seen_yes hsn)
      clear hsn hz i1 i2 i3 i4
      go_wp2_with fail
      go_roundg (NA - (j+1))
      case measure=>have:=HLTV.out;omega
      case rel=>exact⟨j+1,by have:=HLTV.out;omega,rfl,by have:=HNL.out.1;have:=HLTV.out;go_num,⟨n,by have:=HN.out;omega,MapKV.congr key_two HM5.out (fun x y _ _=>HSK.out (.inl HSX.out.1) x y)⟩,HBR5.out,HTS.out (.inl HSX.out.1)⟩
     ·-- B{
      have hsn0:seenF EX NO (b.acks.take j) xv xs=none:=by
       rcases seen_at (ext:=EX) (NV:=NO) (l:=b.acks.take j) (x:=xv) (y:=xs) with h1 | h1
       ·exact h1
       ·exact absurd h1 hsn
      have hz:(zeroValue 4).run Tryz.prog W5=.ok (.bool false) W5:=by kernel_rfl
      have hlk:=HM5.out.look key_two Tryz.underlying99 hz i1 i2
      rw[hsn0] at hlk
      unfold kv at hlk
      simp only[Option.getD_none] at hlk
      clear hz hsn
      by_cases hst:0≤xv∧xv<(NO:Int)∧0≤xs∧xs<(EX:Int)
      ·-- C{
       obtain⟨v,rfl⟩:∃v:Nat,xv=(v:Int):=⟨xv.toNat,by omega⟩
       obtain⟨s,rfl⟩:∃s:Nat,xs=(s:Int):=⟨xs.toNat,by omega⟩
       have hv:v<NO:=by omega
       have hs:s<EX:=by omega
       have hvn:verOf (b.acks.take j) (v:Int) (s:Int)=none:=seen_no hsn0 hst
       have hvb:=HVN.out hvn
       have HIS:=zh (isStripe_any (EX:Int) vl vm vd vv (.slice (some ⟨pb,pof,none⟩) NP cp) (some ⟨ob,oof,none⟩) NO co v s W5 hv (by omega))
       have HVB:=zh hvb
       have HST:=zh hst
       have HVS:=zh (And.intro hv hs)
       have HI64:=zh (And.intro i1 (And.intro i2 i3))
       clear hst hsn0 hvn hvb hv hs i1 i2 i3 i4
       go_wp2_with fail
       refine HIS.out.mono ?_
       rintro e w6 ⟨rfl,hb6⟩
       have HB6:=zh hb6
       have HM6:=zh (HM5.out.below hb6 HM5.out.lt)
       obtain⟨⟨a0',a1',a2',a3'⟩,⟨e0,e1⟩⟩:=(fun h=>And.intro (cells4 (And.left h)) (cells2 (And.right h))) (HAK.out w6 (by rw[←HSZ.out];exact hb6))
       have H56:=zh hb6
       clear hb6 hlk c0 c1 c2 c3 c4 c5 c6 a0' a1' a2' a3' HIS
       obtain⟨i1,i2,i3⟩:=HI64.out
       obtain⟨⟨a0',a1',a2',a3'⟩,-⟩:=(fun h=>And.intro (cells4 (And.left h)) (cells2 (And.right h))) (HAK.out w6 (by rw[←HSZ.out];exact H56.out))
       clear a0' a1' a2' a3'
       go_upto_region 11 with (at_mapUpdate;refine kv_store rfl _ _ _ _ 101 4 rfl key_two Tryz.underlying99 gm n (seenF EX NO (b.acks.take j)) (v:Int) (s:Int) _ (by rfl) (by rfl) (by rfl) HM6.out (by unfold maxLen;have:=HN.out;have:=HLTV.out;have:=HNL.out;omega) i1 i2 ?_;intro w7 hM7 hg7)
       have HM7:=zh (MapKV.congr key_two hM7 (fun x y _ _=>HSN.out ⟨by omega,by have:=HVS.out.1;omega,by omega,by have:=HVS.out.2;omega⟩ x y))
       have hb37:Below w3.heap.size w3 w7:=(HBR5.out.trans (H56.out.mono HBR5.out.size)).grown hg7 (Nat.le_trans HBR5.out.size H56.out.size) (fun b e=>by injection e with e;rw[←e,HGM.out];exact Nat.le_refl _)
       have hk7:=HAK.out w6 (by rw[←HSZ.out];exact H56.out)
       have hl7:ga<w6.heap.size∧gk<w6.heap.size:=⟨(Array.getElem?_eq_some_iff.1 hk7.1).1,(Array.getElem?_eq_some_iff.1 hk7.2).1⟩
       have hak7:=(hg7.block ga hl7.1 (fun e=>by injection e with e;have:=HGL.out;omega)).trans hk7.1
       have hkk7:=(hg7.block gk hl7.2 (fun e=>by injection e with e;have:=HGL.out;omega)).trans hk7.2
       have HAK7:=zh (fun(w':World) (hb:Below w7.heap.size w7 w')=>(show w'.heap[ga]?=some (.cells #[.int .i64 (v:Int),.int .i64 (s:Int),.int .i64 xr,.int .i64 xd] 53 (0,0))∧w'.heap[gk]?=some (.cells #[.int .i64 (v:Int),.int .i64 (s:Int)] 101 (0,0)) from⟨(hb.block ga (Array.getElem?_eq_some_iff.1 hak7).1).trans hak7,(hb.block gk (Array.getElem?_eq_some_iff.1 hkk7).1).trans hkk7⟩))
       have HB37:=zh hb37
       have h17:=HB3.out.trans (hb37.mono HB3.out.size)
       have HB17:=zh h17
       have HB07:=zh (HB0.out.trans (h17.mono HB0.out.size))
       obtain⟨a0',a1',a2',a3'⟩:=cells4 hak7
       have HIX:=zh (indexa_any (.slice Ab NB cb) a.acks (v:Int) (s:Int) ga w7 (by have h:=(HRA.out w7 HB07.out).2.2;exact h) a0' a1')
       obtain⟨-,y0',y1',y2'⟩:=HQ.out w7 h17
       have hmf:∀(fn:Fn) (first cap:Array Value) (w:World),(Instr.makeFunc fn first cap).run Tryz.prog w=.ok (.func fn first cap) w:=fun _ _ _ _=>rfl
       clear hM7 hg7 hb37 hk7 hl7 hak7 hkk7 h17 a0' a1' a2' a3' e0 e1 HAK HM6 HM5
       have hno1:(1:Int)≤qOf F v:=by have:=HKQ.out v HVS.out.1;omega
       have HQ1:=zh hno1
       clear hno1
       rcases idxA_cases a.acks (v:Int) (s:Int) with ⟨hI,hva⟩ | ⟨t,ht,hI,hva⟩
       ·-- C1{
        rw[hI] at HIX
        have HVA2:=zh hva
        clear hI hva
        go_wp2_with fail
        clear hmf y0' y1' y2'
        refine HIX.out.mono ?_
        rintro e w8 ⟨rfl,hb8⟩
        have HB8:=zh (HB07.out.trans (hb8.mono HB07.out.size))
        clear hb8 i1 i2 i3
        go_wp2_with fail
        go_ret
        refine⟨?_,HB8.out⟩
        rw[harm_false HVS.out.1 HVS.out.2 (by
         rw[harm_new HVB.out (by rw[HVA2.out];simp),decide_eq_false]
         have h1:=HQ1.out
         unfold cntI
         rw[int_none HVA2.out]
         simp
         omega)]
        rfl
       ·-- C2{
        rw[hI] at HIX
        have htb:t<NB:=by rw[HNB.out];exact ht
        obtain⟨ab,aof,cs2,hAb,hRab,-,hcs2,hk2,-⟩:=(HRA.out w7 HB07.out).2.2.at_ ht
        subst hAb
        obtain⟨-,-,r2,-⟩:=four hcs2 hk2
        obtain⟨yr,hyr⟩:=zx (a.acks[t].ver)
        rw[←hyr] at r2 hva
        have HVA3:=zh hva
        have HR2:=zh (fun(w':World) (hb:Below w7.heap.size w7 w')=>(hb.cell (p:=⟨ab,aof+t * 4+2,none⟩) hRab).trans r2)
        have HTB:=zh htb
        obtain⟨hpl,nm,hvol,a0,a4,a5,a6,a7,a8,a9,a10,a11,a12,a13,a14,a15,a16,hpol,hone⟩:=HPA.out v (by rw[←HNN.out.1];exact HVS.out.1)
        obtain⟨kk,m1',m2',qq1,qq2⟩:=HKQ.out v HVS.out.1
        obtain⟨KK,hK⟩:=zx (kOf F v)
        obtain⟨MM,hMM⟩:=zx (mOf F v)
        obtain⟨QQ,hQQ⟩:=zx (qOf F v)
        obtain⟨p,hpp⟩:=zx (volP F v)
        rw[←hK,←hMM,←hQQ] at hpol hone
        rw[←hpp] at hvol hpl hpol
        rw[←hK] at kk qq1 qq2
        rw[←hMM] at m1' m2' qq2
        rw[←hQQ] at qq1 qq2
        have HPOL:=zh (fun(w':World) (hb:Below w.heap.size w w')=>range_same hpol (hb.block pb HBB.out.1))
        have HVOL:=zh (fun(w':World) (hb:Below w.heap.size w w')=>(show w'.cell? ⟨ob,oof+v * 2+1,none⟩=some (.int .i64 (p:Int)) from range_same hvol (hb.block ob HBB.out.2) 1 _ rfl))
        have HON:=zh hone
        have HKM:=zh (show(KK=1∨KK=2)∧0≤MM∧MM≤2∧KK≤QQ∧QQ≤KK+MM∧KK=kOf F v∧MM=mOf F v∧QQ=qOf F v from⟨kk,m1',m2',qq1,qq2,hK,hMM,hQQ⟩)
        have HIP:=zh (show p<NP from by have:=HNN.out.2.1;omega)
        clear hI hva ht hRab hcs2 hk2 r2 hyr htb hvol hpol hone kk m1' m2' qq1 qq2 hK hMM hQQ hpp hpl cs2
        go_wp2_with fail
        clear hmf y0' y1' y2'
        refine HIX.out.mono ?_
        rintro e w8 ⟨rfl,hb8⟩
        have HB78:=zh hb8
        have HB18:=zh (HB17.out.trans (hb8.mono HB17.out.size))
        have HB08:=zh (HB07.out.trans (hb8.mono HB07.out.size))
        have HB38:=zh (HB37.out.trans (hb8.mono HB37.out.size))
        have HTH:=zh (show((w8.alloc (.cells #[.string ⟨#[]⟩,.int .i64 0,.int .i64 0,.int .i64 0,.int .i64 0,.int .i64 0,.int .i64 0,.int .i64 0,.int .i64 0,.slice none 0 0,.slice none 0 0,.bool false,.slice none 0 0,.slice none 0 0,.bool false,.slice none 0 0,.slice none 0 0] 63)).drew).there w8.heap.size 0 17 from there_new (cs:=#[.string ⟨#[]⟩,.int .i64 0,.int .i64 0,.int .i64 0,.int .i64 0,.int .i64 0,.int .i64 0,.int .i64 0,.int .i64 0,.slice none 0 0,.slice none 0 0,.bool false,.slice none 0 0,.slice none 0 0,.bool false,.slice none 0 0,.slice none 0 0]) (heap_alloc_new w8 _) (Nat.le_refl 17))
        have it:(t:Int)<(NB:Int):=by have:=HTB.out;omega
        have it0:¬((t:Int)<0):=by omega
        have iv:(v:Int)<(NO:Int):=by have:=HVS.out.1;omega
        have ip:(p:Int)<(NP:Int):=by have:=HIP.out;omega
        have HS14:=zh (fun(w':World) (hb:Below w8.heap.size w8 w')=>(show w'.cell? ⟨z,5,none⟩=some (.slice (some ⟨pb,pof,none⟩) NP cp)∧w'.cell? ⟨z,6,none⟩=some (.slice (some ⟨ob,oof,none⟩) NO co)∧w'.cell? ⟨ga,0,none⟩=some (.int .i64 (v:Int))∧w'.cell? ⟨ob,oof+v * 2+1,none⟩=some (.int .i64 (p:Int))∧w'.rangeAt pb (pof+p * 17) [a0,.int .i64 KK,.int .i64 MM,.int .i64 QQ,a4,a5,a6,a7,a8,a9,a10,a11,a12,a13,a14,a15,a16] from by
         have h1:=HB18.out.trans (hb.mono HB18.out.size)
         obtain⟨-,-,-,-,-,c5,c6⟩:=HC.out w' h1
         obtain⟨a0,-⟩:=cells4 (HAK7.out w' (HB78.out.trans (hb.mono HB78.out.size))).1
         have h0:=HB0.out.trans (h1.mono HB0.out.size)
         exact⟨c5,c6,a0,HVOL.out w' h0,HPOL.out w' h0⟩))
        clear hb8
        go_upto_region 14 with fail
        refine region_tail (S:=(fun w'=>w'.cell? ⟨z,5,none⟩=some (.slice (some ⟨pb,pof,none⟩) NP cp)∧w'.cell? ⟨z,6,none⟩=some (.slice (some ⟨ob,oof,none⟩) NO co)∧w'.cell? ⟨ga,0,none⟩=some (.int .i64 (v:Int))∧w'.cell? ⟨ob,oof+v * 2+1,none⟩=some (.int .i64 (p:Int))∧w'.rangeAt pb (pof+p * 17) [a0,.int .i64 KK,.int .i64 MM,.int .i64 QQ,a4,a5,a6,a7,a8,a9,a10,a11,a12,a13,a14,a15,a16])) [12] (by kernel_rfl) (HS14.out _ (Below.refl _ _).drew) (fun hHeld=>?_)
        refine tk 0 58 ?_
        refine tk 1 59 ?_
        refine tk 2 60 ?_
        refine tk 3 61 ?_
        refine tk 4 62 ?_
        refine tk 5 63 ?_
        refine tk 6 64 ?_
        refine tk 7 65 ?_
        refine tk 8 66 ?_
        refine tk 9 67 ?_
        refine takeT (i:=10) (d:=68) (v:=(.agg #[a0,.int .i64 KK,.int .i64 MM,.int .i64 QQ,a4,a5,a6,a7,a8,a9,a10,a11,a12,a13,a14,a15,a16])) rfl rfl (by kernel_rfl) (by kernel_rfl) (by kernel_rfl) (by kernel_rfl) (fun _ _ _ h=>h) (yieldsIf_load_mid (by rfl) 63 (.tmp 67) rfl pb (pof+p * 17) (by rfl) [a0,.int .i64 KK,.int .i64 MM,.int .i64 QQ,a4,a5,a6,a7,a8,a9,a10,a11,a12,a13,a14,a15,a16] _ (fun w hw=>hw.2.2.2.2) Tryz.underlying63 rfl size_pol) (by assumption) ?_
        (try simp only[Act.put,z1,z2,z3])
        refine readyT (rs:=[11]) (by kernel_rfl) (by simp) ?_
        refine AllReadyT.cons rfl (fun K hK=>?_) ?_
        ·go_simp
         refine hK.out _ _ ?_ (fun hHeld=>?_)
         ·exact HS14.out _ ((Below.refl _ _).drew.alloc (Nat.le_refl _) _)
         clear hK K
         (try simp only[Act.put,z1,z2,z3])
         refine readyT (rs:=[12]) (by kernel_rfl) (by simp) ?_
         refine AllReadyT.consT rfl rfl (fun K hK=>?_) ?_
         ·rw[if_pos (by rfl)]
          refine wp_store_mid 63 (.tmp 14) (.tmp 68) rfl w8.heap.size 0 #[a0,.int .i64 KK,.int .i64 MM,.int .i64 QQ,a4,a5,a6,a7,a8,a9,a10,a11,a12,a13,a14,a15,a16] (by rfl) (by rfl) HTH.out size_pol HON.out ?_
          refine hK.out _ _ ?_
          clear hK K
          (try simp only[Act.put,z1,z2,z3])
          refine doneT (by kernel_rfl) ?_ _
          clear hHeld
          obtain⟨W9,hW9⟩:=zx (World.setCells ((w8.alloc (.cells #[.string ⟨#[]⟩,.int .i64 0,.int .i64 0,.int .i64 0,.int .i64 0,.int .i64 0,.int .i64 0,.int .i64 0,.int .i64 0,.slice none 0 0,.slice none 0 0,.bool false,.slice none 0 0,.slice none 0 0,.bool false,.slice none 0 0,.slice none 0 0] 63)).drew) w8.heap.size 0 [a0,.int .i64 KK,.int .i64 MM,.int .i64 QQ,a4,a5,a6,a7,a8,a9,a10,a11,a12,a13,a14,a15,a16])
          obtain⟨gp,hgp⟩:=zx w8.heap.size
          have hb9:Below w8.heap.size w8 W9:=by rw[hW9];exact below_setCellsV (Nat.le_refl _) _ _ _ ((Below.refl _ _).alloc (Nat.le_refl _) _).drew
          have hgr:W9.rangeAt gp 0 [a0,.int .i64 KK,.int .i64 MM,.int .i64 QQ,a4,a5,a6,a7,a8,a9,a10,a11,a12,a13,a14,a15,a16]:=by rw[hW9,hgp];exact World.rangeAt_setCells_same _ _ _ _ HTH.out
          have hgpl:gp<W9.heap.size:=World.block_lt_of_cell? W9 _ (hgr 0 _ rfl)
          have HGP:=zh (fun(w':World) (hb:Below W9.heap.size W9 w')=>(show w'.cell? ⟨gp,1,none⟩=some (.int .i64 KK)∧w'.cell? ⟨gp,2,none⟩=some (.int .i64 MM)∧w'.cell? ⟨gp,3,none⟩=some (.int .i64 QQ) from
           ⟨range_same hgr (hb.block gp hgpl) 1 _ rfl,range_same hgr (hb.block gp hgpl) 2 _ rfl,range_same hgr (hb.block gp hgpl) 3 _ rfl⟩))
          have HB89:=zh hb9
          have HB79:=zh (HB78.out.trans (hb9.mono HB78.out.size))
          have HB19:=zh (HB18.out.trans (hb9.mono HB18.out.size))
          have HB09:=zh (HB08.out.trans (hb9.mono HB08.out.size))
          have HB39:=zh (HB38.out.trans (hb9.mono HB38.out.size))
          have HW9:=zh hW9
          have HGPE:=zh hgp
          have HGPL:=zh hgpl
          clear hW9 hgp hb9 hgr hgpl HTH HS14
          go_upto_region 15 with fail
          rw[←HW9.out,←HGPE.out]
          obtain⟨-,y0',y1',y2'⟩:=HQ.out W9 HB19.out
          obtain⟨a0',a1',a2',a3'⟩:=cells4 (HAK7.out W9 HB79.out).1
          have r2:=HR2.out W9 HB79.out
          obtain⟨hpv,hpd⟩:=HPC.out
          -- the groups of the stripe
          have hown2:=HG2.out.at_ (fun x hx=>(hpv x hx).2) i1 i2
          obtain⟨l2,hl2⟩:=zx (stripeP (pieces a) (v:Int) (s:Int))
          rw[←hl2] at hown2
          obtain⟨L2,hL2⟩:=zx l2.length
          obtain⟨Au,cu,hfm2⟩:=own_form hown2
          rw[←hL2] at hfm2
          have HLK2:=zh (fun(w':World) (hb:Below w3.heap.size w3 w')=>(show(Instr.lookup 97 (.map (some m2)) (.agg #[.int .i64 (v:Int),.int .i64 (s:Int)]) false).run Tryz.prog w'=.ok (.slice Au L2 cu) w' from by
           have h1:=(HM2.out.below hb HML.out.2).look key_two Tryz.underlying97 (zero_fds w') HI64.out.1 HI64.out.2.1
           rw[hfm2] at h1;exact h1))
          rw[hfm2] at hown2
          have HSL2:=zh (OwnFd.slBl (show OwnFd w3 (m2+1) 116 (.slice Au L2 cu) l2 from hown2) (fun x hx=>by rw[hl2] at hx;exact hpd x (List.mem_filter.1 hx).1))
          have HFR2:=zh (show ∀x∈l2,0≤x.p.frag∧x.p.frag<8 from fun x hx=>by
           rw[hl2] at hx
           have h1:=validP_iff.1 (hpv x (List.mem_filter.1 hx).1).1
           exact⟨h1.2.2.1,h1.2.2.2.1⟩)
          have HL2:=zh hl2
          clear hown2 hl2 hL2 hfm2 hpv hpd
          by_cases hyx:yr=xr
          ·-- S{
           have hq:(yr != xr)=false:=by rw[hyx];simp
           have HYX:=zh hyx
           clear hyx
           go_quiet (fail)
           clear y0' y1' y2' a0' a1' a2' a3' r2
           go_upto_region 18 with fail
           obtain⟨W10,hW10⟩:=zx (W9.drewN nq)
           have HB910:=zh (show Below W9.heap.size W9 W10 from by rw[hW10];exact Below.drewN' (Below.refl _ _) nq)
           rw[←hW10]
           clear hW10 hq
           have HB310:=zh (HB39.out.trans (HB910.out.mono HB39.out.size))
           have HB110:=zh (HB19.out.trans (HB910.out.mono HB19.out.size))
           have HB010:=zh (HB09.out.trans (HB910.out.mono HB09.out.size))
           have HB710:=zh (HB79.out.trans (HB910.out.mono HB79.out.size))
           have HGX:=zh (show q2<W10.heap.size∧gk<W10.heap.size∧gp<W10.heap.size from
            ⟨World.block_lt_of_cell? W10 _ (HQ.out W10 HB110.out).2.1,(Array.getElem?_eq_some_iff.1 (HAK7.out W10 HB710.out).2).1,Nat.lt_of_lt_of_le HGPL.out HB910.out.size⟩)
           have HS16:=zh (show HeldHA W10 q2 gk gp y0 y1 (.slice (some ⟨ab,aof,none⟩) NB cb) (.int .i64 (v:Int)) (.int .i64 (s:Int)) (.int .i64 KK) (.int .i64 MM) (.int .i64 QQ) W10.drew from by
            obtain⟨-,b0,b1,b2⟩:=HQ.out W10 HB110.out
            obtain⟨e0,e1⟩:=cells2 (HAK7.out W10 HB710.out).2
            obtain⟨p1,p2,p3⟩:=HGP.out W10 HB910.out
            exact⟨b0,b1,b2,e0,e1,p1,p2,p3,(Below.refl _ _).drew⟩)
           have hreA:=HRA.out W10 HB010.out
           have hslA:=SlS.below fdK HSL2.out HB310.out
           have HI2:=zh (show ∀w' (hb:Below W10.heap.size W10 w'),Calls Tryz.prog 42 #[.agg #[y0,y1,.slice (some ⟨ab,aof,none⟩) NB cb],.slice Au L2 cu,.int .i64 8,.bool false] w' (fun e w''=>∃u,e=.returned u∧OwnI w'' w'.heap.size u (intI a (v:Int) (s:Int) false)∧Below w'.heap.size w' w'') from fun w' hb=>(intact_any y0 y1 (.slice (some ⟨ab,aof,none⟩) NB cb) (.slice Au L2 cu) a l2 8 false w' (hreA.below hb) (SlS.below fdK hslA hb) HFR2.out (by unfold I64;omega)).mono (fun e w'' ⟨u,he,ho,hb2⟩=>⟨u,he,by rw[HL2.out,←intTo_out a (pieces a) _ _ false 8 8 (by omega)] at ho;exact ho,hb2⟩))
           clear hreA hslA
           refine region_tail (S:=(fun w'=>HeldHA W10 q2 gk gp y0 y1 (.slice (some ⟨ab,aof,none⟩) NB cb) (.int .i64 (v:Int)) (.int .i64 (s:Int)) (.int .i64 KK) (.int .i64 MM) (.int .i64 QQ) w')) [] (by kernel_rfl) HS16.out (fun hHeld=>?_)
           refine takeT (i:=0) (d:=92) (v:=?_) rfl rfl (by kernel_rfl) (by kernel_rfl) (by kernel_rfl) (by kernel_rfl) (fun _ _ _ h=>h) (Or.inl ⟨by rfl,?_⟩) (by assumption) ?_
           rotate_left
           ·(intro w hSw;(try dsimp only at hSw);(try dsimp only[HeldHA] at hSw);go_simp;first | done | with_reducible rfl)
           (try simp only[Act.put,z1,z2,z3])
           refine takeT (i:=1) (d:=93) (v:=?_) rfl rfl (by kernel_rfl) (by kernel_rfl) (by kernel_rfl) (by kernel_rfl) (fun _ _ _ h=>h) (Or.inl ⟨by rfl,?_⟩) (by assumption) ?_
           rotate_left
           ·(intro w hSw;(try dsimp only at hSw);(try dsimp only[HeldHA] at hSw);go_simp;first | done | with_reducible rfl)
           (try simp only[Act.put,z1,z2,z3])
           refine takeT (i:=2) (d:=94) (v:=?_) rfl rfl (by kernel_rfl) (by kernel_rfl) (by kernel_rfl) (by kernel_rfl) (fun _ _ _ h=>h) (Or.inl ⟨by rfl,?_⟩) (by assumption) ?_
           rotate_left
           ·(intro w hSw;(try dsimp only at hSw);(try dsimp only[HeldHA] at hSw);go_simp;first | done | with_reducible rfl)
           (try simp only[Act.put,z1,z2,z3])
           refine takeT (i:=3) (d:=95) (v:=?_) rfl rfl (by kernel_rfl) (by kernel_rfl) (by kernel_rfl) (by kernel_rfl) (fun _ _ _ h=>h) (Or.inl ⟨by rfl,?_⟩) (by assumption) ?_
           rotate_left
           ·(intro w hSw;(try dsimp only at hSw);have hlk:=HLK2.out w (HB310.out.trans ((HeldHA.bl hSw).mono HB310.out.size));(try dsimp only[HeldHA] at hSw);go_simp;first | done | with_reducible rfl)
           (try simp only[Act.put,z1,z2,z3])
           refine readyT (rs:=[4]) (by kernel_rfl) (by simp) ?_
           refine AllReadyT.cons rfl (fun K hK=>?_) ?_
           ·go_simp
            (go_at_call 42;refine(HI2.out _ (HeldHA.bl (by assumption))).mono ?_;rintro e w11 ⟨u2,rfl,ho2,hb11⟩)
            go_wp2_with fail
            refine hK.out _ _ ?_ (fun hHeld=>?_)
            ·(first|assumption|exact HeldHA.below (by assumption) hb11 HGX.out.1 HGX.out.2.1 HGX.out.2.2)
            clear hK K
            (try simp only[Act.put,z1,z2,z3])
            refine takeT (i:=5) (d:=15) (v:=?_) rfl rfl (by kernel_rfl) (by kernel_rfl) (by kernel_rfl) (by kernel_rfl) (fun _ _ _ h=>h) (Or.inl ⟨by rfl,?_⟩) (by assumption) ?_
            rotate_left
            ·(intro w hSw;(try dsimp only at hSw);(try dsimp only[HeldHA] at hSw);go_simp;first | done | with_reducible rfl)
            (try simp only[Act.put,z1,z2,z3])
            refine doneT (by kernel_rfl) ?_ _
            have HB1011:=zh (HeldHA.bl hHeld)
            obtain⟨LW,hLW⟩:=zx (intI a (v:Int) (s:Int) false)
            rw[←hLW] at ho2
            obtain⟨NW,hNW⟩:=zx LW.length
            obtain⟨A2,c2',hu2⟩:=ho2.form
            rw[←hNW] at hu2
            subst hu2
            have HO2:=zh (ho2.intS (fun x hx=>by rw[hLW] at hx;have:=intTo_mem x hx;unfold I64;omega))
            have HLW:=zh hLW
            clear hHeld hb11 ho2 hNW hLW HS16 HI2
            have HB311:=zh (HB310.out.trans (HB1011.out.mono HB310.out.size))
            have HB111:=zh (HB110.out.trans (HB1011.out.mono HB110.out.size))
            have HB011:=zh (HB010.out.trans (HB1011.out.mono HB010.out.size))
            have HB711:=zh (HB710.out.trans (HB1011.out.mono HB710.out.size))
            have HB911:=zh (HB910.out.trans (HB1011.out.mono HB910.out.size))
            have HGX1:=zh (show q1<w11.heap.size∧gk<w11.heap.size∧gp<w11.heap.size from
             ⟨World.block_lt_of_cell? w11 _ (HQ.out w11 HB111.out).1.1,Nat.lt_of_lt_of_le HGX.out.2.1 HB1011.out.size,Nat.lt_of_lt_of_le HGX.out.2.2 HB1011.out.size⟩)
            clear HGX
            have HGX:=HGX1
            have HS19:=zh (show HeldHA w11 q1 gk gp x0 x1 (.slice (some ⟨bb,off,none⟩) NA ca) (.int .i64 (v:Int)) (.int .i64 (s:Int)) (.int .i64 KK) (.int .i64 MM) (.int .i64 QQ) w11.drew from by
             obtain⟨⟨b0,b1,b2⟩,-⟩:=HQ.out w11 HB111.out
             obtain⟨e0,e1⟩:=cells2 (HAK7.out w11 HB711.out).2
             obtain⟨p1,p2,p3⟩:=HGP.out w11 HB911.out
             exact⟨b0,b1,b2,e0,e1,p1,p2,p3,(Below.refl _ _).drew⟩)
            obtain⟨hpv,hpd⟩:=HPB.out
            have hown1:=HG1.out.at_ (fun x hx=>(hpv x hx).2) i1 i2
            obtain⟨l1,hl1⟩:=zx (stripeP (pieces b) (v:Int) (s:Int))
            rw[←hl1] at hown1
            obtain⟨L1,hL1⟩:=zx l1.length
            obtain⟨Av,cv,hfm1⟩:=own_form hown1
            rw[←hL1] at hfm1
            have HLK1:=zh (fun(w':World) (hb:Below w3.heap.size w3 w')=>(show(Instr.lookup 97 (.map (some m1)) (.agg #[.int .i64 (v:Int),.int .i64 (s:Int)]) false).run Tryz.prog w'=.ok (.slice Av L1 cv) w' from by
             have h1:=(HM1.out.below hb HML.out.1).look key_two Tryz.underlying97 (zero_fds w') HI64.out.1 HI64.out.2.1
             rw[hfm1] at h1;exact h1))
            rw[hfm1] at hown1
            have hsl1:=SlS.below fdK (OwnFd.slBl (show OwnFd w3 (m1+1) 116 (.slice Av L1 cv) l1 from hown1) (fun x hx=>by rw[hl1] at hx;exact hpd x (List.mem_filter.1 hx).1)) HB311.out
            have hfr1:∀x∈l1,0≤x.p.frag∧x.p.frag<8:=fun x hx=>by
             rw[hl1] at hx
             have h1:=validP_iff.1 (hpv x (List.mem_filter.1 hx).1).1
             exact⟨h1.2.2.1,h1.2.2.2.1⟩
            have hreB:=HRB.out w11 HB011.out
            obtain⟨LB,hLB⟩:=zx (intI b (v:Int) (s:Int) false)
            have HI1:=zh (show ∀w' (hb:Below w11.heap.size w11 w'),Calls Tryz.prog 42 #[.agg #[x0,x1,.slice (some ⟨bb,off,none⟩) NA ca],.slice Av L1 cv,.int .i64 8,.bool false] w' (fun e w''=>∃u,e=.returned u∧OwnI w'' w'.heap.size u LB∧Below w'.heap.size w' w'') from fun w' hb=>(intact_any x0 x1 (.slice (some ⟨bb,off,none⟩) NA ca) (.slice Av L1 cv) b l1 8 false w' (hreB.below hb) (SlS.below fdK hsl1 hb) hfr1 (by unfold I64;omega)).mono (fun e w'' ⟨u,he,ho,hb2⟩=>⟨u,he,by rw[hl1,←intTo_out b (pieces b) _ _ false 8 8 (by omega)] at ho;rw[hLB];exact ho,hb2⟩))
            have HLB:=zh hLB
            clear hpv hpd hown1 hl1 hL1 hfm1 hsl1 hfr1 hreB hLB
            go_upto_region 19 with fail
            refine region_tail (S:=(fun w'=>HeldHA w11 q1 gk gp x0 x1 (.slice (some ⟨bb,off,none⟩) NA ca) (.int .i64 (v:Int)) (.int .i64 (s:Int)) (.int .i64 KK) (.int .i64 MM) (.int .i64 QQ) w')) [] (by kernel_rfl) HS19.out (fun hHeld=>?_)
            refine takeT (i:=0) (d:=97) (v:=?_) rfl rfl (by kernel_rfl) (by kernel_rfl) (by kernel_rfl) (by kernel_rfl) (fun _ _ _ h=>h) (Or.inl ⟨by rfl,?_⟩) (by assumption) ?_
            rotate_left
            ·(intro w hSw;(try dsimp only at hSw);(try dsimp only[HeldHA] at hSw);go_simp;first | done | with_reducible rfl)
            (try simp only[Act.put,z1,z2,z3])
            refine takeT (i:=1) (d:=98) (v:=?_) rfl rfl (by kernel_rfl) (by kernel_rfl) (by kernel_rfl) (by kernel_rfl) (fun _ _ _ h=>h) (Or.inl ⟨by rfl,?_⟩) (by assumption) ?_
            rotate_left
            ·(intro w hSw;(try dsimp only at hSw);(try dsimp only[HeldHA] at hSw);go_simp;first | done | with_reducible rfl)
            (try simp only[Act.put,z1,z2,z3])
            refine takeT (i:=2) (d:=99) (v:=?_) rfl rfl (by kernel_rfl) (by kernel_rfl) (by kernel_rfl) (by kernel_rfl) (fun _ _ _ h=>h) (Or.inl ⟨by rfl,?_⟩) (by assumption) ?_
            rotate_left
            ·(intro w hSw;(try dsimp only at hSw);(try dsimp only[HeldHA] at hSw);go_simp;first | done | with_reducible rfl)
            (try simp only[Act.put,z1,z2,z3])
            refine takeT (i:=3) (d:=100) (v:=?_) rfl rfl (by kernel_rfl) (by kernel_rfl) (by kernel_rfl) (by kernel_rfl) (fun _ _ _ h=>h) (Or.inl ⟨by rfl,?_⟩) (by assumption) ?_
            rotate_left
            ·(intro w hSw;(try dsimp only at hSw);have hlk:=HLK1.out w (HB311.out.trans ((HeldHA.bl hSw).mono HB311.out.size));(try dsimp only[HeldHA] at hSw);go_simp;first | done | with_reducible rfl)
            (try simp only[Act.put,z1,z2,z3])
            refine takeT (i:=6) (d:=103) (v:=?_) rfl rfl (by kernel_rfl) (by kernel_rfl) (by kernel_rfl) (by kernel_rfl) (fun _ _ _ h=>h) (Or.inl ⟨by rfl,?_⟩) (by assumption) ?_
            rotate_left
            ·(intro w hSw;(try dsimp only at hSw);(try dsimp only[HeldHA] at hSw);go_simp;first | done | with_reducible rfl)
            (try simp only[Act.put,z1,z2,z3])
            refine readyT (rs:=[4]) (by kernel_rfl) (by simp) ?_
            refine AllReadyT.cons rfl (fun K hK=>?_) ?_
            ·go_simp
             (go_at_call 42;refine(HI1.out _ (HeldHA.bl (by assumption))).mono ?_;rintro e w12 ⟨u1,rfl,ho1,hb12⟩;obtain⟨A1,c1',hu1⟩:=ho1.form;subst hu1)
             go_wp2_with fail
             refine hK.out _ _ ?_ (fun hHeld=>?_)
             ·(first|assumption|exact HeldHA.below (by assumption) hb12 HGX.out.1 HGX.out.2.1 HGX.out.2.2)
             clear hK K
             (try simp only[Act.put,z1,z2,z3])
             refine takeT (i:=5) (d:=102) (v:=?_) rfl rfl (by kernel_rfl) (by kernel_rfl) (by kernel_rfl) (by kernel_rfl) (fun _ _ _ h=>h) (Or.inl ⟨by rfl,?_⟩) (by assumption) ?_
             rotate_left
             ·(intro w hSw;(try dsimp only at hSw);(try dsimp only[HeldHA] at hSw);go_simp;first | done | with_reducible rfl)
             (try simp only[Act.put,z1,z2,z3])
             refine doneT (by kernel_rfl) ?_ _
             have HB1112:=zh (HeldHA.bl hHeld)
             have HO1:=zh (ho1.intS (fun x hx=>by rw[HLB.out] at hx;have:=intTo_mem x hx;unfold I64;omega))
             have HO22:=zh (HO2.out.keep (fun b hb=>HB1112.out.block b hb.2))
             clear hHeld hb12 ho1 HS19 HI1
             have HB312:=zh (HB311.out.trans (HB1112.out.mono HB311.out.size))
             have HB012:=zh (HB011.out.trans (HB1112.out.mono HB011.out.size))
             have HB712:=zh (HB711.out.trans (HB1112.out.mono HB711.out.size))
             obtain⟨NI,hNI⟩:=zx LB.length
             rw[←hNI] at HO1
             rw[←hNI]
             have hni8:NI≤8:=by rw[hNI,HLB.out];exact intTo_length
             have HNI:=zh hNI
             have HCT:=zh (fun x=>contains_any (.slice A2 NW c2') LW x _ w12 HO22.out)
             clear hNI
             go_wp2_with fail
             go_loopg [103] NI (fun z v103 wx=>w12=wx∧∃t:Nat,t≤NI∧z=NI - t∧v103=.int .i64 (t:Int)∧Hid (∀x∈LB.take t,x∈LW))
             case atStart=>exact⟨rfl,0,by omega,rfl,rfl,fun x hx=>by simp at hx⟩
             case round =>
              obtain⟨rfl,t',ht',rfl,rfl,HAL⟩:=hrel
              by_cases hlt2:t'<NI
              ·-- M{
               have hjl2:t'<LB.length:=by rw[←HNI.out];exact hlt2
               obtain⟨eb,eo,rfl,-,hec,-⟩:=HO1.out.at7 (k:=t') hjl2
               obtain⟨x,hx⟩:=zx (LB[t'])
               rw[←hx] at hec
               have HT2:=zh hlt2
               have HTK:=zh (show LB.take (t'+1)=LB.take t'++[x] from by rw[hx];exact List.take_succ_eq_append_getElem hjl2)
               have HMEM:=zh (show x∈LB from by rw[hx];exact List.getElem_mem hjl2)
               have hct:=HCT.out x
               clear hx hjl2
               by_cases hin:x∈LW
               ·rw[decide_eq_true hin] at hct
                have HCX:=zh hct
                have HIN:=zh hin
                clear hct hin
                go_wp2_with fail
                refine HCX.out.mono ?_
                rintro e w13 ⟨rfl,rfl⟩
                go_wp2_with fail
                go_roundg (NI - (t'+1))
                case measure=>have:=HT2.out;omega
                case rel =>
                 refine⟨rfl,t'+1,by have:=HT2.out;omega,rfl,by go_num,?_⟩
                 rw[HTK.out]
                 intro y hy
                 rcases List.mem_append.1 hy with h2 | h2
                 ·exact HAL.out y h2
                 ·rw[List.mem_singleton.1 h2];exact HIN.out
               ·rw[decide_eq_false hin] at hct
                have HCX:=zh hct
                have HIN:=zh hin
                clear hct hin
                go_wp2_with fail
                refine HCX.out.mono ?_
                rintro e w13 ⟨rfl,rfl⟩
                go_wp2_with fail
                go_ret
                refine⟨?_,HB012.out⟩
                rw[harm_false HVS.out.1 HVS.out.2 (by
                 rw[harm_old HVB.out (by rw[HVA3.out,HYX.out]),List.all_eq_false]
                 refine⟨x,by rw[←HLB.out];exact HMEM.out,?_⟩
                 rw[←HLW.out,decide_eq_false HIN.out]
                 decide)]
                rfl
              ·-- E{
               obtain rfl:NI=t':=by omega
               go_wp2_with fail
               go_roundg (NA - (j+1))
               case measure=>have:=HLTV.out;omega
               case rel=>exact⟨j+1,by have:=HLTV.out;omega,rfl,by have:=HNL.out.1;have:=HLTV.out;go_num,⟨n+1,by have:=HN.out;omega,HM7.out.below HB712.out HM7.out.lt⟩,HB312.out,HTP.out v s rfl rfl (by
                rw[harm_old HVB.out (by rw[HVA3.out,HYX.out]),List.all_eq_true]
                intro x hx
                have h1:=HAL.out x
                rw[List.take_of_length_le (by rw[HNI.out];exact Nat.le_refl _),HLB.out,HLW.out] at h1
                exact decide_eq_true (h1 hx))⟩
            exact AllReadyT.nil
           exact AllReadyT.nil
          ·-- N{
           have hq:(yr != xr)=true:=by simpa using hyx
           have HYX:=zh hyx
           clear hyx
           go_quiet (fail)
           clear y0' y1' y2' a0' a1' a2' a3' r2
           go_upto_region 16 with fail
           obtain⟨W10,hW10⟩:=zx (W9.drewN nq)
           have HB910:=zh (show Below W9.heap.size W9 W10 from by rw[hW10];exact Below.drewN' (Below.refl _ _) nq)
           rw[←hW10]
           clear hW10 hq
           have HB310:=zh (HB39.out.trans (HB910.out.mono HB39.out.size))
           have HB110:=zh (HB19.out.trans (HB910.out.mono HB19.out.size))
           have HB010:=zh (HB09.out.trans (HB910.out.mono HB09.out.size))
           have HB710:=zh (HB79.out.trans (HB910.out.mono HB79.out.size))
           have HGX:=zh (show q2<W10.heap.size∧gk<W10.heap.size∧gp<W10.heap.size from
            ⟨World.block_lt_of_cell? W10 _ (HQ.out W10 HB110.out).2.1,(Array.getElem?_eq_some_iff.1 (HAK7.out W10 HB710.out).2).1,Nat.lt_of_lt_of_le HGPL.out HB910.out.size⟩)
           have HS16:=zh (show HeldHA W10 q2 gk gp y0 y1 (.slice (some ⟨ab,aof,none⟩) NB cb) (.int .i64 (v:Int)) (.int .i64 (s:Int)) (.int .i64 KK) (.int .i64 MM) (.int .i64 QQ) W10.drew from by
            obtain⟨-,b0,b1,b2⟩:=HQ.out W10 HB110.out
            obtain⟨e0,e1⟩:=cells2 (HAK7.out W10 HB710.out).2
            obtain⟨p1,p2,p3⟩:=HGP.out W10 HB910.out
            exact⟨b0,b1,b2,e0,e1,p1,p2,p3,(Below.refl _ _).drew⟩)
           have hreA:=HRA.out W10 HB010.out
           have hslA:=SlS.below fdK HSL2.out HB310.out
           obtain⟨NU,hNU⟩:=zx ((outTo a false l2 (KK+MM) 8).length)
           have hnc:(NU:Int)=cntI a v s false (kOf F v+mOf F v):=by rw[hNU,HL2.out,out_cnt,HKM.out.2.2.2.2.2.1,HKM.out.2.2.2.2.2.2.1]
           have hkm:I64 (KK+MM):=by have:=HKM.out;unfold I64;omega
           have HI2:=zh (show ∀w' (hb:Below W10.heap.size W10 w'),Calls Tryz.prog 42 #[.agg #[y0,y1,.slice (some ⟨ab,aof,none⟩) NB cb],.slice Au L2 cu,.int .i64 (KK+MM),.bool false] w' (fun e w''=>∃A c,e=.returned (.slice A NU c)∧Below w'.heap.size w' w'') from fun w' hb=>(intact_any y0 y1 (.slice (some ⟨ab,aof,none⟩) NB cb) (.slice Au L2 cu) a l2 (KK+MM) false w' (hreA.below hb) (SlS.below fdK hslA hb) HFR2.out hkm).mono (fun e w'' ⟨u,he,ho,hb2⟩=>by obtain⟨A,c,hu⟩:=ho.form;exact⟨A,c,by rw[he,hu,←hNU],hb2⟩))
           have hwr:IntKind.i64.wrap (KK+MM)=KK+MM:=IntWalk.i64_in _ (by have:=HKM.out;omega)
           have HNC:=zh hnc
           clear hreA hslA hNU hnc hkm
           refine region_tail (S:=(fun w'=>HeldHA W10 q2 gk gp y0 y1 (.slice (some ⟨ab,aof,none⟩) NB cb) (.int .i64 (v:Int)) (.int .i64 (s:Int)) (.int .i64 KK) (.int .i64 MM) (.int .i64 QQ) w')) [] (by kernel_rfl) HS16.out (fun hHeld=>?_)
           refine takeT (i:=0) (d:=78) (v:=?_) rfl rfl (by kernel_rfl) (by kernel_rfl) (by kernel_rfl) (by kernel_rfl) (fun _ _ _ h=>h) (Or.inl ⟨by rfl,?_⟩) (by assumption) ?_
           rotate_left
           ·(intro w hSw;(try dsimp only at hSw);(try dsimp only[HeldHA] at hSw);go_simp;first | done | with_reducible rfl)
           (try simp only[Act.put,z1,z2,z3])
           refine takeT (i:=1) (d:=79) (v:=?_) rfl rfl (by kernel_rfl) (by kernel_rfl) (by kernel_rfl) (by kernel_rfl) (fun _ _ _ h=>h) (Or.inl ⟨by rfl,?_⟩) (by assumption) ?_
           rotate_left
           ·(intro w hSw;(try dsimp only at hSw);(try dsimp only[HeldHA] at hSw);go_simp;first | done | with_reducible rfl)
           (try simp only[Act.put,z1,z2,z3])
           refine takeT (i:=2) (d:=80) (v:=?_) rfl rfl (by kernel_rfl) (by kernel_rfl) (by kernel_rfl) (by kernel_rfl) (fun _ _ _ h=>h) (Or.inl ⟨by rfl,?_⟩) (by assumption) ?_
           rotate_left
           ·(intro w hSw;(try dsimp only at hSw);(try dsimp only[HeldHA] at hSw);go_simp;first | done | with_reducible rfl)
           (try simp only[Act.put,z1,z2,z3])
           refine takeT (i:=3) (d:=81) (v:=?_) rfl rfl (by kernel_rfl) (by kernel_rfl) (by kernel_rfl) (by kernel_rfl) (fun _ _ _ h=>h) (Or.inl ⟨by rfl,?_⟩) (by assumption) ?_
           rotate_left
           ·(intro w hSw;(try dsimp only at hSw);have hlk:=HLK2.out w (HB310.out.trans ((HeldHA.bl hSw).mono HB310.out.size));(try dsimp only[HeldHA] at hSw);go_simp;first | done | with_reducible rfl)
           (try simp only[Act.put,z1,z2,z3])
           refine takeT (i:=4) (d:=82) (v:=?_) rfl rfl (by kernel_rfl) (by kernel_rfl) (by kernel_rfl) (by kernel_rfl) (fun _ _ _ h=>h) (Or.inl ⟨by rfl,?_⟩) (by assumption) ?_
           rotate_left
           ·(intro w hSw;(try dsimp only at hSw);(try dsimp only[HeldHA] at hSw);go_simp;first | done | with_reducible rfl)
           (try simp only[Act.put,z1,z2,z3])
           refine takeT (i:=5) (d:=83) (v:=?_) rfl rfl (by kernel_rfl) (by kernel_rfl) (by kernel_rfl) (by kernel_rfl) (fun _ _ _ h=>h) (Or.inl ⟨by rfl,?_⟩) (by assumption) ?_
           rotate_left
           ·(intro w hSw;(try dsimp only at hSw);(try dsimp only[HeldHA] at hSw);go_simp;first | done | with_reducible rfl)
           (try simp only[Act.put,z1,z2,z3])
           refine takeT (i:=6) (d:=84) (v:=?_) rfl rfl (by kernel_rfl) (by kernel_rfl) (by kernel_rfl) (by kernel_rfl) (fun _ _ _ h=>h) (Or.inl ⟨by rfl,?_⟩) (by assumption) ?_
           rotate_left
           ·(intro w hSw;(try dsimp only at hSw);(try dsimp only[HeldHA] at hSw);go_simp;first | done | with_reducible rfl)
           (try simp only[Act.put,z1,z2,z3])
           refine takeT (i:=7) (d:=85) (v:=?_) rfl rfl (by kernel_rfl) (by kernel_rfl) (by kernel_rfl) (by kernel_rfl) (fun _ _ _ h=>h) (Or.inl ⟨by rfl,?_⟩) (by assumption) ?_
           rotate_left
           ·(intro w hSw;(try dsimp only at hSw);(try dsimp only[HeldHA] at hSw);go_simp;first | done | with_reducible rfl)
           (try simp only[Act.put,z1,z2,z3])
           refine takeT (i:=8) (d:=86) (v:=?_) rfl rfl (by kernel_rfl) (by kernel_rfl) (by kernel_rfl) (by kernel_rfl) (fun _ _ _ h=>h) (Or.inl ⟨by rfl,?_⟩) (by assumption) ?_
           rotate_left
           ·(intro w hSw;(try dsimp only at hSw);(try dsimp only[HeldHA] at hSw);go_simp;first | done | with_reducible rfl)
           (try simp only[Act.put,z1,z2,z3])
           refine takeT (i:=11) (d:=89) (v:=?_) rfl rfl (by kernel_rfl) (by kernel_rfl) (by kernel_rfl) (by kernel_rfl) (fun _ _ _ h=>h) (Or.inl ⟨by rfl,?_⟩) (by assumption) ?_
           rotate_left
           ·(intro w hSw;(try dsimp only at hSw);(try dsimp only[HeldHA] at hSw);go_simp;first | done | with_reducible rfl)
           (try simp only[Act.put,z1,z2,z3])
           refine takeT (i:=12) (d:=90) (v:=?_) rfl rfl (by kernel_rfl) (by kernel_rfl) (by kernel_rfl) (by kernel_rfl) (fun _ _ _ h=>h) (Or.inl ⟨by rfl,?_⟩) (by assumption) ?_
           rotate_left
           ·(intro w hSw;(try dsimp only at hSw);(try dsimp only[HeldHA] at hSw);go_simp;first | done | with_reducible rfl)
           (try simp only[Act.put,z1,z2,z3])
           refine readyT (rs:=[9]) (by kernel_rfl) (by simp) ?_
           refine AllReadyT.cons rfl (fun K hK=>?_) ?_
           ·go_simp
            (go_at_call 42;refine(HI2.out _ (HeldHA.bl (by assumption))).mono ?_;rintro e w11 ⟨A5,d5,rfl,hb11⟩)
            go_wp2_with fail
            refine hK.out _ _ ?_ (fun hHeld=>?_)
            ·(first|assumption|exact HeldHA.below (by assumption) hb11 HGX.out.1 HGX.out.2.1 HGX.out.2.2)
            clear hK K
            (try simp only[Act.put,z1,z2,z3])
            refine takeT (i:=10) (d:=88) (v:=?_) rfl rfl (by kernel_rfl) (by kernel_rfl) (by kernel_rfl) (by kernel_rfl) (fun _ _ _ h=>h) (Or.inl ⟨by rfl,?_⟩) (by assumption) ?_
            rotate_left
            ·(intro w hSw;(try dsimp only at hSw);(try dsimp only[HeldHA] at hSw);go_simp;first | done | with_reducible rfl)
            (try simp only[Act.put,z1,z2,z3])
            refine takeT (i:=13) (d:=91) (v:=?_) rfl rfl (by kernel_rfl) (by kernel_rfl) (by kernel_rfl) (by kernel_rfl) (fun _ _ _ h=>h) (Or.inl ⟨by rfl,?_⟩) (by assumption) ?_
            rotate_left
            ·(intro w hSw;(try dsimp only at hSw);(try dsimp only[HeldHA] at hSw);go_simp;first | done | with_reducible rfl)
            (try simp only[Act.put,z1,z2,z3])
            refine doneT (by kernel_rfl) ?_ _
            have HBZ:=zh (HeldHA.bl hHeld)
            clear hHeld hb11
            by_cases hsm:(NU:Int)<QQ
            ·-- X{
             have HSM:=zh hsm
             go_wp2_with fail
             go_ret
             refine⟨?_,HB010.out.trans (HBZ.out.mono HB010.out.size)⟩
             rw[harm_false HVS.out.1 HVS.out.2 (by
              rw[harm_new HVB.out (by rw[HVA3.out];intro e;injection e with e;exact HYX.out e),decide_eq_false]
              have h1:=HSM.out
              have h2:=HNC.out
              rw[←h2,←HKM.out.2.2.2.2.2.2.2]
              omega)]
             rfl
            ·-- Y{
             have HSM:=zh hsm
             go_wp2_with fail
             go_roundg (NA - (j+1))
             case measure=>have:=HLTV.out;omega
             case rel=>exact⟨j+1,by have:=HLTV.out;omega,rfl,by have:=HNL.out.1;have:=HLTV.out;go_num,⟨n+1,by have:=HN.out;omega,HM7.out.below ((HB710.out.trans (HBZ.out.mono HB710.out.size))) HM7.out.lt⟩,HB310.out.trans (HBZ.out.mono HB310.out.size),HTP.out v s rfl rfl (by
              rw[harm_new HVB.out (by rw[HVA3.out];intro e;injection e with e;exact HYX.out e)]
              exact decide_eq_true (by
               have h1:=HSM.out
               have h2:=HNC.out
               rw[←h2,←HKM.out.2.2.2.2.2.2.2]
               omega))⟩
           exact AllReadyT.nil
         exact AllReadyT.nil
        exact AllReadyT.nil
      ·-- D{
       have HIS:=zh (isStripe_no (EX:Int) vl vm vd vv (.slice (some ⟨pb,pof,none⟩) NP cp) (some ⟨ob,oof,none⟩) NO co xv xs W5 hst)
       have HST:=zh hst
       clear hst hsn0 i1 i2 i3 i4
       go_wp2_with fail
       refine HIS.out.mono ?_
       rintro e w6 ⟨rfl,hb6⟩
       have HB6:=zh hb6
       clear hb6 hlk c0 c1 c2 c3 c4 c5 c6 a0' a1' a2' a3' e0 e1
       go_wp2_with fail
       go_roundg (NA - (j+1))
       case measure=>have:=HLTV.out;omega
       case rel=>exact⟨j+1,by have:=HLTV.out;omega,rfl,by have:=HNL.out.1;have:=HLTV.out;go_num,⟨n,by have:=HN.out;omega,MapKV.congr key_two (HM5.out.below HB6.out HM5.out.lt) (fun x y _ _=>HSK.out (.inr HST.out) x y)⟩,HBR5.out.trans (HB6.out.mono HBR5.out.size),HTS.out (.inr HST.out)⟩
    ·-- L2{
     obtain rfl:NA=j:=by omega
     go_wp2_with fail
     go_ret
     refine⟨?_,h0R⟩
     have hd:=HTO.out
     rw[HNA.out] at hd
     rw[hd.done];rfl
  exact AllReadyT.nil
 exact AllReadyT.nil
end Go.Proofs.YtmehadfhcdpfcaaGreat
