/- The reference's contents at a stripe of a made fleet, walked. -/
import Derived.Test.YtmehadfhcdpfcaaGreatMe21
import Derived.Test.YtmehadfhcdpfcaaGreatMe25
import Derived.Test.YtmehadfhcdpfcaaGreatMe14
import Derived.Test.YtmehadfhcdpfcaaGreatMe26
import Derived.Test.YtmehadfhcdpfcaaGreatMe01
set_option maxRecDepth 100000
set_option maxHeartbeats 12800000
namespace Go.Proofs.YtmehadfhcdpfcaaGreat
open Go.RowKit
set_option linter.unusedVariables false
set_option linter.unusedSimpArgs false
theorem size_fnd:(Tryz.prog.info? 166).map (·.size)=some 7:=by kernel_rfl
def HeldN(W0:World) (y gb go lb lo:Nat) (a b c x q0 q1 q2 q3 q4 q5 q6:Value) (w':World):Prop :=
 w'.cell? ⟨y,0,none⟩=some a∧w'.cell? ⟨y,1,none⟩=some b∧w'.cell? ⟨y,2,none⟩=some c∧w'.cell? ⟨gb,go,none⟩=some x∧w'.cell? ⟨lb,lo,none⟩=some q0∧w'.cell? ⟨lb,lo+1,none⟩=some q1∧w'.cell? ⟨lb,lo+2,none⟩=some q2∧w'.cell? ⟨lb,lo+3,none⟩=some q3∧w'.cell? ⟨lb,lo+4,none⟩=some q4∧w'.cell? ⟨lb,lo+5,none⟩=some q5∧w'.cell? ⟨lb,lo+6,none⟩=some q6∧Below W0.heap.size W0 w'
theorem HeldN.bl{W0 wc:World} {y gb go lb lo:Nat} {a b c x q0 q1 q2 q3 q4 q5 q6:Value} (k:HeldN W0 y gb go lb lo a b c x q0 q1 q2 q3 q4 q5 q6 wc):Below W0.heap.size W0 wc:=k.2.2.2.2.2.2.2.2.2.2.2
theorem HeldN.below{W0 wc w2:World} {y gb go lb lo:Nat} {a b c x q0 q1 q2 q3 q4 q5 q6:Value} (k:HeldN W0 y gb go lb lo a b c x q0 q1 q2 q3 q4 q5 q6 wc) (hb:Below wc.heap.size wc w2) (h1:y<W0.heap.size) (h2:gb<W0.heap.size) (h3:lb<W0.heap.size):HeldN W0 y gb go lb lo a b c x q0 q1 q2 q3 q4 q5 q6 w2:=by
 have hs:=k.bl.size
 have hB:=k.bl
 obtain⟨c0,c1,c2,c3,d0,d1,d2,d3,d4,d5,d6,-⟩:=k
 have m:∀b,b<W0.heap.size→∀i x,wc.cell? ⟨b,i,none⟩=some x→w2.cell? ⟨b,i,none⟩=some x:=fun b h1 i x hx=>(hb.cell (p:=⟨b,i,none⟩) (Nat.lt_of_lt_of_le h1 hs)).trans hx
 exact⟨m y h1 _ _ c0,m y h1 _ _ c1,m y h1 _ _ c2,m gb h2 _ _ c3,m lb h3 _ _ d0,m lb h3 _ _ d1,m lb h3 _ _ d2,m lb h3 _ _ d3,m lb h3 _ _ d4,m lb h3 _ _ d5,m lb h3 _ _ d6,hB.trans (hb.mono hs)⟩
theorem HeldN.start{W0 w2:World} {y gb go lb lo:Nat} {a b c x q0 q1 q2 q3 q4 q5 q6:Value} (k:HeldN W0 y gb go lb lo a b c x q0 q1 q2 q3 q4 q5 q6 W0) (hb:Below W0.heap.size W0 w2) (h1:y<W0.heap.size) (h2:gb<W0.heap.size) (h3:lb<W0.heap.size):HeldN W0 y gb go lb lo a b c x q0 q1 q2 q3 q4 q5 q6 w2:=k.below hb h1 h2 h3
def HeldX2(gi oi lb o:Nat) (a b:Value) (w':World):Prop:=w'.cell? ⟨gi,oi,none⟩=some a∧w'.cell? ⟨lb,o,none⟩=some b
theorem HeldX2.same{wc w2:World} {gi oi lb o:Nat} {a b:Value} (h:HeldX2 gi oi lb o a b wc) (e1:w2.heap[gi]?=wc.heap[gi]?) (e2:w2.heap[lb]?=wc.heap[lb]?):HeldX2 gi oi lb o a b w2 :=
 ⟨(World.cell?_of_block (w:=wc) e1).trans h.1,(World.cell?_of_block (w:=wc) e2).trans h.2⟩
theorem outTo_up_sorted(r:Re) (up:Bool) (l:List Fd) (n:Int) (j:Nat):(outTo r up l n j).Pairwise (·<·)∧∀x∈outTo r up l n j,x<(j:Int):=by
 induction j with
 | zero=>exact⟨List.Pairwise.nil,fun x hx=>by cases hx⟩
 | succ j ih =>
  rw[outTo_succ]
  have hm:∀x∈(if hasB r up l j=true∧(j:Int)<n then [(j:Int)] else []),x=(j:Int):=by
   intro x hx
   split at hx
   ·simpa using hx
   ·cases hx
  refine⟨List.pairwise_append.2 ⟨ih.1,by split <;> simp,fun a ha b hb=>?_⟩,fun x hx=>?_⟩
  ·have:=hm b hb
   have:=ih.2 a ha
   omega
  ·rcases List.mem_append.1 hx with h | h
   ·have:=ih.2 x h;omega
   ·have:=hm x h;omega
theorem filter_front(n:Int):∀l:List Int,l.Pairwise (·<·)→∃t,l=l.filter (fun x=>decide (x<n))++t
 | [],_=>⟨[],rfl⟩
 | a :: l,h=>by
  obtain⟨h1,h2⟩:=List.pairwise_cons.1 h
  by_cases hc:a<n
  ·obtain⟨t,ht⟩:=filter_front n l h2
   refine⟨t,?_⟩
   rw[List.filter_cons_of_pos (by simpa using hc),List.cons_append,←ht]
  ·refine⟨a :: l,?_⟩
   have:(a :: l).filter (fun x=>decide (x<n))=[]:=by
    rw[List.filter_eq_nil_iff]
    intro x hx
    rcases List.mem_cons.1 hx with e | e
    ·subst e;simpa using hc
    ·have:=h1 x e;simp;omega
   rw[this];rfl
theorem intI_out(r:Re) (v s:Nat) (up:Bool):intTo r (pieces r) (v:Int) (s:Int) up 8=outTo r up (stripeP (pieces r) (v:Int) (s:Int)) 8 8:=intTo_out r (pieces r) _ _ up 8 8 (by omega)
theorem frT_filter(r:Re) (v s:Nat) (up:Bool) (n:Nat):frT r v s up n=(intTo r (pieces r) (v:Int) (s:Int) up 8).filter (fun x=>decide (x<(n:Int))):=by
 rw[intI_out]
 exact out_filter r up _ (n:Int) 8 (by omega)
theorem frT_front(r:Re) (v s:Nat) (up:Bool) (n j:Nat) (hj:j<(frT r v s up n).length):(intTo r (pieces r) (v:Int) (s:Int) up 8)[j]?=(frT r v s up n)[j]?:=by
 obtain⟨t,ht⟩:=filter_front (n:Int) (intTo r (pieces r) (v:Int) (s:Int) up 8) (by rw[intI_out];exact(outTo_up_sorted _ _ _ _ _).1)
 rw[←frT_filter] at ht
 rw[ht,List.getElem?_append_left hj]
theorem pick_src(r:Re) (v s:Nat) (up:Bool) (n:Nat) (i:Int) (hi:i∈frT r v s up n):∃(t:Nat) (ht:t<(pieces r).length),srcI r (pieces r) (v:Int) i (s:Int) up=(t:Int)∧(pickF r (stripeP (pieces r) (v:Int) (s:Int)) up i=⟨i,(pieces r)[t].p.data⟩∧(pieces r)[t]∈stripeP (pieces r) (v:Int) (s:Int))∧(pieces r)[t]=(pieces r)[t]:=by
 obtain⟨t',ht',-,hf⟩:=idxC_ok r up _ _ i hi
 have hm:(stripeP (pieces r) (v:Int) (s:Int))[t']∈stripeP (pieces r) (v:Int) (s:Int):=List.getElem_mem ht'
 obtain⟨x,hx⟩:=zx ((stripeP (pieces r) (v:Int) (s:Int))[t'])
 rw[←hx] at hf hm
 have hff:(pieces r).find? (srcB r (v:Int) i (s:Int) up)=some x:=by
  rw[←hf]
  unfold stripeP
  rw[List.find?_filter]
  congr 1
  funext y
  unfold srcB srcC isB
  cases (y.p.vol==(v:Int)) <;> cases (y.p.stripe==(s:Int)) <;> cases (y.p.frag==i) <;> simp
 obtain⟨h1,t,ht,h2,h3⟩:=List.find?_eq_some_iff_getElem.1 hff
 refine⟨t,ht,srcI_hit (fun u hu hlt=>by have:=h3 u hlt;simpa using this) ht (by rw[h2];exact h1),⟨?_,by rw[h2];exact hm⟩,rfl⟩
 unfold pickF
 rw[hf,h2];rfl
theorem rcontents_any(N:Nat) (hN:N≤12) (vl vm vd vv vp vo vf vp0 vo0 va0:Value) (F:FltM) (r:Re) (v s EX KN KM:Nat) (up:Bool) (w:World) (hf:FleetS w (Bl w.heap.size) vl vm vd vv vp vo F) (hok:FleetOk N F) (h:ReS w (Bl w.heap.size) vp0 vo0 va0 r) (hps:SlS 7 FdK w (Bl w.heap.size) vf (pieces r))
  (hv:v<F.vols.length) (hEX:F.ext=(EX:Int)) (hs:s<EX) (hKN:kOf F v=(KN:Int)) (hKM:kOf F v+mOf F v=(KM:Int)) :
  Calls Tryz.prog 59 #[.agg #[.int .i64 F.ext,vl,vm,vd,vv,vp,vo],.agg #[vp0,vo0,va0],vf,.int .i64 (v:Int),.int .i64 (s:Int),.bool up] w fun e w'=>e=.returned (.tuple #[.string ⟨(conS r v s up KN KM).toArray⟩,.int .i64 (conE r v s up KN KM)])∧Below w.heap.size w w':=by
 obtain⟨pb,pof,ob,oof,cp,co,rfl,rfl,hRp,hRo,hPA⟩:=polAt hf hok
 obtain⟨Au,cu,rfl,-⟩:=SlS.form hps
 have HPSL:=zh hps
 obtain⟨NU,hNU⟩:=zx ((pieces r).length)
 rw[←hNU] at HPSL ⊢
 have HNU:=zh hNU
 have HVA:=zh (fun(w':World) (hb:Below w.heap.size w w')=>rvalidate_any N hN vl vm vd vv _ _ F w' (hf.below hb) hok)
 have HRE:=zh (fun(w':World) (hb:Below w.heap.size w w')=>h.below hb)
 have HPL:=zh (piecesTo_all r r.plat.length)
 have HBW:=zh (Below.refl w.heap.size w)
 obtain⟨hpl,nm,hvol,a0,a4,a5,a6,a7,a8,a9,a10,a11,a12,a13,a14,a15,a16,hpol,hone⟩:=hPA v hv
 obtain⟨kk,m1,m2,-,-⟩:=kmq_ok hok hv
 obtain⟨MM,hMM⟩:=zx (mOf F v)
 obtain⟨QQ,hQ⟩:=zx (qOf F v)
 obtain⟨p0,hpp⟩:=zx (volP F v)
 rw[hKN,←hMM,←hQ] at hpol hone
 rw[←hpp] at hvol hpl hpol
 rw[hKN,←hMM] at hKM
 rw[←hMM] at m1 m2
 rw[hKN] at kk
 have HKM:=zh (show(KN=1∨KN=2)∧0≤MM∧MM≤2∧(KN:Int)+MM=(KM:Int)∧KM≤4 from⟨by omega,m1,m2,hKM,by omega⟩)
 have hex:EX≤2:=by have:=hok.ext;omega
 have hno:=hok.volN
 have hnp:=hok.polN
 rw[hEX] at HVA ⊢
 obtain⟨NO,hNO⟩:=zx F.vols.length
 obtain⟨NP,hNP⟩:=zx F.pols.length
 rw[←hNO] at hno hv HVA ⊢
 rw[←hNP] at hnp hpl HVA ⊢
 have HPO:=zh (fun(w':World) (hb:Below w.heap.size w w')=>rpolicy_any (EX:Int) (KN:Int) MM QQ vl vm vd vv a0 a4 a5 a6 a7 a8 a9 a10 a11 a12 a13 a14 a15 a16 nm pb pof ob oof NP NO cp co v p0 w' hv hpl (by omega) (by omega) (range_same hvol (hb.block ob hRo)) (range_same hpol (hb.block pb hRp)) hone)
 obtain⟨W0,hW0⟩:=zx ((w.alloc (.cells #[.int .i64 (EX:Int),vl,vm,vd,vv,.slice (some ⟨pb,pof,none⟩) NP cp,.slice (some ⟨ob,oof,none⟩) NO co] 37)).alloc (.cells #[vp0,vo0,va0] 27))
 obtain⟨z,hz⟩:=zx w.heap.size
 obtain⟨y,hy⟩:=zx (w.heap.size+1)
 have hb0:Below w.heap.size w W0:=by rw[hW0];exact((Below.refl _ _).alloc (Nat.le_refl _) _).alloc (by simp) _
 have hyk:W0.heap[y]?=some (.cells #[vp0,vo0,va0] 27 (0,0)):=by rw[hW0];exact heap_alloc_at _ _ _ (by rw[hy];simp)
 have hzk:W0.heap[z]?=some (.cells #[.int .i64 (EX:Int),vl,vm,vd,vv,.slice (some ⟨pb,pof,none⟩) NP cp,.slice (some ⟨ob,oof,none⟩) NO co] 37 (0,0)):=by
  rw[hW0,hz];exact(Below.heap_alloc _ _ _ (by simp)).trans (heap_alloc_new w _)
 have hyl:y<W0.heap.size:=(Array.getElem?_eq_some_iff.1 hyk).1
 have hzl:z<W0.heap.size:=(Array.getElem?_eq_some_iff.1 hzk).1
 have HC:=zh (fun(w':World) (hb:Below W0.heap.size W0 w')=>And.intro (cells7 ((hb.block z hzl).trans hzk)) (cells3 ((hb.block y hyl).trans hyk)))
 have HW0:=zh hW0
 have HZ:=zh hz
 have HY:=zh hy
 have HB0:=zh hb0
 have HON:=zh hone
 have f1:decide ((v:Int)<0)=false:=decide_eq_false (by omega)
 have f2:decide ((NO:Int)≤(v:Int))=false:=decide_eq_false (by omega)
 have f3:decide ((s:Int)<0)=false:=decide_eq_false (by omega)
 have f4:decide ((EX:Int)≤(s:Int))=false:=decide_eq_false (by omega)
 have hkw:IntKind.i64.wrap ((KN:Int)+MM)=(KM:Int):=by rw[HKM.out.2.2.2.1];exact IntWalk.i64_in _ (by have:=HKM.out;omega)
 have hkm:(KN:Int)+MM=(KM:Int):=HKM.out.2.2.2.1
 have hkw2:IntKind.i64.wrap (KM:Int)=(KM:Int):=IntWalk.i64_in _ (by have:=HKM.out;omega)
 have hk2:KN≤2:=by have:=HKM.out.1;omega
 have HMM:=zh (show MM=(KM:Int) - (KN:Int) from by omega)
 obtain⟨⟨c0,c1,c2,c3,c4,c5,c6⟩,-⟩:=HC.out W0 (Below.refl _ _)
 clear hf hok h hps hNU hPA hRp hRo hvol hpol hone hW0 hz hy hb0 hyk hzk hyl hzl hNO hNP hEX hKN hMM hQ hpp hpl kk m1 m2 hKM
 go_enter Tryz.func59,Tryz.ntmps59
 go_wp2_with fail
 rw[←HW0.out,←HY.out,←HZ.out]
 refine(HVA.out _ HB0.out).mono ?_
 rintro e w0 ⟨rfl,hb00⟩
 have HB00:=zh hb00
 clear c0 c1 c2 c3 c4 c5 c6 hb00
 obtain⟨⟨c0,c1,c2,c3,c4,c5,c6⟩,-⟩:=HC.out w0 HB00.out
 go_wp2_with fail
 refine(HPO.out w0 (HB0.out.trans (HB00.out.mono HB0.out.size))).mono ?_
 rintro e w1 ⟨rfl,hb1⟩
 obtain⟨W2,hW2⟩:=zx ((w1.alloc (.cells #[.string ⟨#[]⟩,.int .i64 0,.int .i64 0,.int .i64 0,.int .i64 0,.int .i64 0,.int .i64 0,.int .i64 0,.int .i64 0,.slice none 0 0,.slice none 0 0,.bool false,.slice none 0 0,.slice none 0 0,.bool false,.slice none 0 0,.slice none 0 0] 63)).setCells w1.heap.size 0 [a0,.int .i64 (KN:Int),.int .i64 MM,.int .i64 QQ,a4,a5,a6,a7,a8,a9,a10,a11,a12,a13,a14,a15,a16])
 obtain⟨g,hg⟩:=zx w1.heap.size
 have hth:(w1.alloc (.cells #[.string ⟨#[]⟩,.int .i64 0,.int .i64 0,.int .i64 0,.int .i64 0,.int .i64 0,.int .i64 0,.int .i64 0,.int .i64 0,.slice none 0 0,.slice none 0 0,.bool false,.slice none 0 0,.slice none 0 0,.bool false,.slice none 0 0,.slice none 0 0] 63)).there w1.heap.size 0 17:=there_new (cs:=#[.string ⟨#[]⟩,.int .i64 0,.int .i64 0,.int .i64 0,.int .i64 0,.int .i64 0,.int .i64 0,.int .i64 0,.int .i64 0,.slice none 0 0,.slice none 0 0,.bool false,.slice none 0 0,.slice none 0 0,.bool false,.slice none 0 0,.slice none 0 0]) (heap_alloc_new w1 _) (Nat.le_refl 17)
 have hb2:Below w1.heap.size w1 W2:=by rw[hW2];exact below_setCellsV (Nat.le_refl _) _ _ _ ((Below.refl _ _).alloc (Nat.le_refl _) _)
 have hgr:W2.rangeAt g 0 [a0,.int .i64 (KN:Int),.int .i64 MM,.int .i64 QQ,a4,a5,a6,a7,a8,a9,a10,a11,a12,a13,a14,a15,a16]:=by rw[hW2,hg];exact World.rangeAt_setCells_same _ _ _ _ hth
 have hgl:g<W2.heap.size:=World.block_lt_of_cell? W2 _ (hgr 0 _ rfl)
 have HGP2:=zh (fun(w':World) (hb:Below W2.heap.size W2 w')=>(show w'.cell? ⟨g,1,none⟩=some (.int .i64 (KN:Int))∧w'.cell? ⟨g,2,none⟩=some (.int .i64 MM) from⟨range_same hgr (hb.block g hgl) 1 _ rfl,range_same hgr (hb.block g hgl) 2 _ rfl⟩))
 have HB02:=zh (show Below W0.heap.size W0 W2 from HB00.out.trans ((hb1.trans (hb2.mono hb1.size)).mono HB00.out.size))
 have HTH:=zh hth
 have HW2:=zh hW2
 have HG:=zh hg
 clear hW2 hg hth hb1 hb2 hgr hgl c0 c1 c2 c3 c4 c5 c6
 go_upto_region 4 with (refine wpList_store_mid rfl 63 (.tmp 14) (.tmp 49) rfl w1.heap.size 0 #[a0,.int .i64 (KN:Int),.int .i64 MM,.int .i64 QQ,a4,a5,a6,a7,a8,a9,a10,a11,a12,a13,a14,a15,a16] (by rfl) (by rfl) HTH.out size_pol HON.out ?_;rw[←HW2.out,←HG.out])
 obtain⟨-,z0,z1,z2,-⟩:=HC.out W2 HB02.out
 have HI1:=zh (rintact_any vp0 vo0 va0 (.slice Au NU cu) r (pieces r) (v:Int) (s:Int) up W2 (HRE.out W2 (HB0.out.trans (HB02.out.mono HB0.out.size))) (SlS.below fdK HPSL.out (HB0.out.trans (HB02.out.mono HB0.out.size))))
 go_wp2_with fail
 refine HI1.out.mono ?_
 rintro e w3 ⟨u,rfl,ho3,hb3⟩
 obtain⟨GL,hGL⟩:=zx (intTo r (pieces r) (v:Int) (s:Int) up 8)
 rw[←hGL] at ho3
 obtain⟨NG,hNG⟩:=zx GL.length
 obtain⟨Ag,cg,hu⟩:=ho3.form
 rw[←hNG] at hu
 subst hu
 have HNG:=zh hNG
 have HW03:=zh (HB02.out.trans (hb3.mono HB02.out.size))
 have HB3:=zh (HB0.out.trans (HW03.out.mono HB0.out.size))
 have HGP:=zh (fun(w':World) (hb:Below w3.heap.size w3 w')=>HGP2.out w' (hb3.trans (hb.mono hb3.size)))
 have HGI:=zh (ho3.intS (fun x hx=>by rw[hGL] at hx;have:=intTo_mem x hx;unfold I64;omega))
 obtain⟨CN,hCN⟩:=zx ((GL.filter (fun x=>decide (x<(KM:Int)))).length)
 have HCN:=zh (show(frT r v s up KM).length=CN from by rw[frT_filter,hCN,hGL])
 have HCN2:=zh hCN
 have HGF:=zh (fun j (hj:j<(frT r v s up KM).length)=>(show GL[j]?=(frT r v s up KM)[j]? from by rw[hGL];exact frT_front r v s up KM j hj))
 have HBE:=zh (show Calls Tryz.prog 49 #[.slice Ag NG cg,.int .i64 (KM:Int)] w3.drew (fun e w'=>e=.returned (.int .i64 (CN:Int))∧w3.drew=w') from by
  have h1:=rbelow_any (.slice Ag NG cg) GL (KM:Int) _ w3.drew (HGI.out.keep (fun _ _=>rfl))
  rw[←hCN] at h1
  exact h1)
 clear ho3 hb3 hGL hNG hCN z0 z1 z2 HI1
 have hp12:=HGP.out w3 (Below.refl _ _)
 go_upto_region 5 with fail
 refine region_tail (S:=(fun w'=>w'.cell? ⟨g,1,none⟩=some (.int .i64 (KN:Int))∧w'.cell? ⟨g,2,none⟩=some (.int .i64 MM))) [] (by kernel_rfl) (HGP.out _ (Below.refl _ _).drew) (fun hHeld=>?_)
 refine tk 0 56 ?_
 refine tk 1 57 ?_
 refine tk 2 58 ?_
 refine tk 3 59 ?_
 refine tk 4 60 ?_
 refine tk 5 61 ?_
 refine tk 7 63 ?_
 refine tk 8 64 ?_
 refine readyT (rs:=[6]) (by kernel_rfl) (by simp) ?_
 refine AllReadyT.cons rfl (fun K hK=>?_) ?_
 ·go_simp
  (go_at_call 49;refine HBE.out.mono ?_;rintro e w6 ⟨rfl,rfl⟩)
  go_wp2_with fail
  refine hK.out _ _ ?_ (fun hHeld=>?_)
  ·assumption
  clear hK K
  (try simp only[Act.put,z1,z2,z3])
  refine tk 9 65 ?_
  refine doneT (by kernel_rfl) ?_ _
  clear hHeld
  by_cases hsh:CN<KN
  ·-- S{
   go_wp2_with fail
   go_ret2
   refine⟨?_,HB3.out.drew⟩
   have h1:(frT r v s up KM).length<KN:=by rw[HCN.out];exact hsh
   unfold conS conE
   rw[if_pos h1,if_pos h1]
   rfl
  ·-- T{
   simp only[decide_eq_false hsh]
   have HSH:=zh (show KN≤CN from by omega)
   obtain⟨HV,hHV⟩:=zx (hvT r v s up KN KM)
   have hfl:KN≤(frT r v s up KM).length:=by rw[HCN.out];exact HSH.out
   have HNG2:=zh (show KN≤NG from by
    have h1:=List.length_filter_le (fun x=>decide (x<(KM:Int))) GL
    have h2:=HNG.out
    have h3:=HSH.out
    have h4:=HCN2.out
    omega)
   have HHL:=zh (show HV.length=KN from by
    rw[hHV];unfold hvT
    rw[List.length_map,List.length_take];omega)
   have HPS16:=zh (fun(x:Fd) (hx:x∈stripeP (pieces r) (v:Int) (s:Int))=>(show x.p.data.length=16 from(validP_iff.1 (HPL.out x (List.mem_filter.1 hx).1).1).2.2.2.2.2.2.2.2.2.2))
   have HDL:=zh (show ∀h∈HV,h.data.length≤65536 from fun h hh=>by rw[hHV] at hh;exact Nat.le_trans (hvT_le r v s up KN KM HPS16.out h hh) (by decide))
   have HROW:=zh (show rowLen HV=16 from by rw[hHV];exact hvT_row r v s up KN KM HPS16.out (by have:=HKM.out.1;omega) hfl)
   have HPK:=zh (fun j (hj:j<KN) (hjl:j<GL.length)=>(show ∃(t:Nat) (ht:t<(pieces r).length),srcI r (pieces r) (v:Int) (GL[j]) (s:Int) up=(t:Int)∧HV[j]?=some ⟨GL[j],(pieces r)[t].p.data⟩∧(pieces r)[t].p.data.length=16 from by
    have hg:=HGF.out j (by omega)
    rw[List.getElem?_eq_getElem hjl] at hg
    have hm:GL[j]∈frT r v s up KM:=List.mem_of_getElem? hg.symm
    obtain⟨t,ht,e1,e2,e3⟩:=pick_src r v s up KM _ hm
    refine⟨t,ht,e1,?_,by rw[←e3];exact HPS16.out _ (by rw[e3];exact e2.2)⟩
    rw[hHV];unfold hvT
    rw[List.getElem?_map,List.getElem?_take,if_pos hj,←hg,Option.map_some,e2.1]))
   have HCS:=zh (show(conS r v s up KN KM=if decE (KN:Int) MM HV=0 then((wordT KN KM (decD KN HV) (rowLen HV)).take KN).flatten else [])∧conE r v s up KN KM=decE (KN:Int) MM HV from by
    have h1:¬(frT r v s up KM).length<KN:=by omega
    unfold conS conE
    rw[if_neg h1,if_neg h1,←hHV,←HMM.out]
    exact⟨rfl,rfl⟩)
   obtain⟨i0,hi0,hz0,hz1,hz2⟩:=info_parts info_frag
   have hng2:KN≤NG:=HNG2.out
   clear hHV hfl
   go_wp2_with fail
   go_loopg [16,17] KN (fun z v16 v17 wr=>∃j:Nat,j≤KN∧z=KN - j∧v17=.int .i64 (j:Int)∧Hid (OwnFg wr w3.heap.size v16 (HV.take j))∧Hid (Below w3.heap.size w3 wr))
   case atStart=>exact⟨0,by omega,rfl,rfl,OwnFg.nil _ _,(Below.refl _ _).drew⟩
   case round =>
    obtain⟨j,hj,rfl,rfl,HO,HBR⟩:=hrel
    have HR3:=zh (HB3.out.trans (HBR.out.mono HB3.out.size))
    obtain⟨p1,p2⟩:=HGP.out wr HBR.out
    by_cases hlj:j<KN
    ·-- L1{
     have HLJ:=zh hlj
     have hjl:j<GL.length:=by rw[←HNG.out];omega
     obtain⟨t,ht,hsi,hfd,hd16⟩:=HPK.out j hlj hjl
     obtain⟨gb,goff,hAg,hR,hc,hx64⟩:=HGI.out.at7 (k:=j) hjl
     subst hAg
     have l0:=(HBR.out.cell (p:=⟨gb,goff+j,none⟩) hR.2).trans hc
     obtain⟨x,hx⟩:=zx (GL[j])
     rw[←hx] at l0 hx64 hsi hfd
     obtain⟨lb,lo,csl,hAu,hlR,-,hcl,hfk,-⟩:=HPSL.out.at_ (k:=t) ht
     subst hAu
     obtain⟨px,hpx⟩:=zx ((pieces r)[t].p.data)
     obtain⟨q0,q1,q2,q3,q4,q5,q6⟩:=seven hcl hfk
     rw[←hpx] at q6 hd16 hfd
     obtain⟨sy,hsy⟩:∃y:ByteArray,y=⟨px.toArray⟩:=⟨_,rfl⟩
     rw[←hsy] at q6
     obtain⟨c0',hc0⟩:=zx (Value.int .i64 (((pieces r)[t]).drive:Int))
     obtain⟨c1',hc1⟩:=zx (Value.int .i64 ((pieces r)[t]).p.vol)
     obtain⟨c2',hc2⟩:=zx (Value.int .i64 ((pieces r)[t]).p.frag)
     obtain⟨c3',hc3⟩:=zx (Value.int .i64 ((pieces r)[t]).p.stripe)
     obtain⟨c4',hc4⟩:=zx (Value.int .i64 ((pieces r)[t]).p.gen)
     obtain⟨c5',hc5⟩:=zx (Value.int .i64 ((pieces r)[t]).p.ver)
     have HONE:=zh (show(#[c0',c1',c2',c3',c4',c5',.string sy]:Array Value).all (·.oneCell')=true from by rw[hc0,hc1,hc2,hc3,hc4,hc5];simp[Value.oneCell'])
     rw[←hc0] at q0
     rw[←hc1] at q1
     rw[←hc2] at q2
     rw[←hc3] at q3
     rw[←hc4] at q4
     rw[←hc5] at q5
     have HFD:=zh hfd
     have HSY:=zh hsy
     have HD16:=zh hd16
     have HX64:=zh hx64
     have hlW:=Nat.lt_of_lt_of_le hlR HBW.out.size
     have hb0r:Below w.heap.size w wr:=HR3.out
     have mv:∀i q,w.cell? ⟨lb,i,none⟩=some q→wr.cell? ⟨lb,i,none⟩=some q:=fun i q hq=>(hb0r.cell (p:=⟨lb,i,none⟩) hlR).trans hq
     obtain⟨-,z0,z1,z2,-⟩:=HC.out wr (HW03.out.trans (HBR.out.mono HW03.out.size))
     have HRS:=zh (show HeldN wr y gb (goff+j) lb (lo+t * 7) vp0 vo0 va0 (.int .i64 x) c0' c1' c2' c3' c4' c5' (.string sy) wr from⟨z0,z1,z2,l0,mv _ _ q0,mv _ _ q1,mv _ _ q2,mv _ _ q3,mv _ _ q4,mv _ _ q5,mv _ _ q6,Below.refl _ _⟩)
     have HLT3:=zh (show y<wr.heap.size∧gb<wr.heap.size∧lb<wr.heap.size from⟨World.block_lt_of_cell? wr _ z0,Nat.lt_of_lt_of_le hR.2 HBR.out.size,Nat.lt_of_lt_of_le hlR hb0r.size⟩)
     have HGB3:=zh (show gb<w3.heap.size from hR.2)
     have HSO:=zh (fun W (hb:Below wr.heap.size wr W)=>(show Calls Tryz.prog 79 #[.agg #[vp0,vo0,va0],.slice (some ⟨lb,lo,none⟩) NU cu,.int .i64 (v:Int),.int .i64 x,.int .i64 (s:Int),.bool up] W (fun e w'=>e=.returned (.int .i64 (t:Int))∧Below W.heap.size W w') from by
      have h0:=hb0r.trans (hb.mono hb0r.size)
      have h1:=source_any vp0 vo0 va0 (.slice (some ⟨lb,lo,none⟩) NU cu) r (pieces r) (v:Int) x (s:Int) up W (HRE.out W h0) (SlS.below fdK HPSL.out h0)
      rw[hsi] at h1
      exact h1))
     have HTL:=zh (show t<NU from by rw[HNU.out];exact ht)
     obtain⟨n0,hn0⟩:=zx ((HV.take j).length)
     have hn0j:n0=j:=by rw[hn0,List.length_take,HHL.out];omega
     obtain⟨A0,c0z,hv0⟩:=HO.out.form
     rw[←hn0,hn0j] at hv0
     subst hv0
     have HTJ:=zh (show(HV.take j).length=j from by rw[←hn0];exact hn0j)
     have HOB2:=zh (fun b (e:(Value.slice A0 j c0z).ownBlock=some b)=>(show w3.heap.size≤b from by obtain⟨⟨cs,ho,-⟩,-⟩:=HO.out;exact(ho.lt b e).1))
     have HOB:=zh (fun b (e:(Value.slice A0 j c0z).ownBlock=some b)=>(show b<wr.heap.size from by obtain⟨⟨cs,ho,-⟩,-⟩:=HO.out;exact(ho.lt b e).2))
     have hti:(t:Int)<(NU:Int):=by have:=HTL.out;omega
     have hjn:(j:Int)<(NG:Int):=by omega
     clear hc hR hx hsi hfd hd16 hcl hfk q0 q1 q2 q3 q4 q5 q6 hpx hsy hlR hjl hn0 hn0j hx64 hc0 hc1 hc2 hc3 hc4 hc5 mv z0 z1 z2 l0 hb0r hlW
     go_upto_region 11 with fail
     clear p1 p2
     refine region_tail (S:=(fun w'=>w'.cell? ⟨y,0,none⟩=some vp0∧w'.cell? ⟨y,1,none⟩=some vo0∧w'.cell? ⟨y,2,none⟩=some va0∧w'.cell? ⟨gb,goff+j,none⟩=some (.int .i64 x)∧w'.cell? ⟨lb,lo+t * 7,none⟩=some c0'∧w'.cell? ⟨lb,lo+t * 7+1,none⟩=some c1'∧w'.cell? ⟨lb,lo+t * 7+2,none⟩=some c2'∧w'.cell? ⟨lb,lo+t * 7+3,none⟩=some c3'∧w'.cell? ⟨lb,lo+t * 7+4,none⟩=some c4'∧w'.cell? ⟨lb,lo+t * 7+5,none⟩=some c5'∧w'.cell? ⟨lb,lo+t * 7+6,none⟩=some (.string sy)∧Below wr.heap.size wr w')) [14] (by kernel_rfl) (HeldN.start HRS.out (Below.refl _ _).drew HLT3.out.1 HLT3.out.2.1 HLT3.out.2.2) (fun hHeld=>?_)
     refine tk 0 72 ?_
     refine tk 1 73 ?_
     refine tk 2 74 ?_
     refine tk 3 75 ?_
     refine tk 4 76 ?_
     refine tk 5 77 ?_
     refine tk 6 78 ?_
     refine tk 7 79 ?_
     refine tk 8 80 ?_
     refine tk 9 81 ?_
     refine readyT (rs:=[10,13]) (by kernel_rfl) (by simp) ?_
     refine AllReadyT.cons rfl (fun K hK=>?_) ?_
     ·go_simp
      (go_at_call 79;refine(HSO.out _ (HeldN.bl (by assumption))).mono ?_;rintro e w10 ⟨rfl,hb10⟩)
      go_wp2_with fail
      refine hK.out _ _ ?_ (fun hHeld=>?_)
      ·(first|assumption|exact HeldN.below (by assumption) hb10 HLT3.out.1 HLT3.out.2.1 HLT3.out.2.2|exact HeldN.start HRS.out hsY HLT3.out.1 HLT3.out.2.1 HLT3.out.2.2)
      clear hK K
      (try simp only[Act.put,z1,z2,z3])
      refine tk 11 83 ?_
      refine tk 12 84 ?_
      refine readyT (rs:=[13]) (by kernel_rfl) (by simp) ?_
      refine AllReadyT.cons rfl (fun K hK=>?_) ?_
      ·go_simp
       first|(obtain⟨gx,wX,hgx,hwX⟩:∃q x,q=w10.heap.size∧x=w10.alloc (.cells #[.int .i64 0,.int .i64 0,.int .i64 0,.int .i64 0,.int .i64 0,.int .i64 0,.string ⟨#[]⟩] 166):=⟨_,_,rfl,rfl⟩;rw[←hwX,←hgx];have HWX:=zh hwX;have HGXX:=zh hgx;clear hwX hgx)|(obtain⟨gx,wX,hgx,hwX⟩:∃q x,q=wr.heap.size∧x=(wr.alloc (.cells #[.int .i64 0,.int .i64 0,.int .i64 0,.int .i64 0,.int .i64 0,.int .i64 0,.string ⟨#[]⟩] 166)).drew:=⟨_,_,rfl,rfl⟩;rw[←hwX,←hgx];have HWX:=zh hwX;have HGXX:=zh hgx;clear hwX hgx)|(obtain⟨gx,wX,hgx,hwX⟩:∃q x,q=wr.heap.size∧x=wr.drew.alloc (.cells #[.int .i64 0,.int .i64 0,.int .i64 0,.int .i64 0,.int .i64 0,.int .i64 0,.string ⟨#[]⟩] 166):=⟨_,_,rfl,rfl⟩;rw[←hwX,←hgx];have HWX:=zh hwX;have HGXX:=zh hgx;clear hwX hgx)
       have hX:wX.heap[gx]?=some (.cells #[.int .i64 0,.int .i64 0,.int .i64 0,.int .i64 0,.int .i64 0,.int .i64 0,.string ⟨#[]⟩] 166 (0,0)):=by rw[HWX.out,HGXX.out];first | exact heap_alloc_new _ _ | exact heap_alloc_new wr _ | exact heap_alloc_new wr.drew _
       have hXl:gx<wX.heap.size:=(Array.getElem?_eq_some_iff.1 hX).1
       have hXg:wr.heap.size≤gx:=by rw[HGXX.out];first | exact Nat.le_refl _ | exact(HeldN.bl (by assumption)).size
       have hkX:HeldN wr y gb (goff+j) lb (lo+t * 7) vp0 vo0 va0 (.int .i64 x) c0' c1' c2' c3' c4' c5' (.string sy) wX:=by rw[HWX.out];first | exact HeldN.below (by assumption) ((Below.refl _ _).alloc (Nat.le_refl _) _) HLT3.out.1 HLT3.out.2.1 HLT3.out.2.2 | exact HeldN.start HRS.out ((Below.refl _ _).alloc (Nat.le_refl _) _).drew HLT3.out.1 HLT3.out.2.1 HLT3.out.2.2 | exact HeldN.start HRS.out ((Below.refl _ _).drew.alloc (Nat.le_refl _) _) HLT3.out.1 HLT3.out.2.1 HLT3.out.2.2
       refine hK.out _ _ ?_ (fun hHeld=>?_)
       ·(first|assumption|exact HeldN.below (by assumption) hb10 HLT3.out.1 HLT3.out.2.1 HLT3.out.2.2|exact HeldN.start HRS.out hsY HLT3.out.1 HLT3.out.2.1 HLT3.out.2.2)
       clear hK K
       (try simp only[Act.put,z1,z2,z3])
       refine readyT (rs:=[14]) (by kernel_rfl) (by simp) ?_
       refine AllReadyT.consT rfl rfl (fun K hK=>?_) ?_
       ·refine wp_store_mid 166 (.tmp 18) (.tmp 84) rfl gx 0 #[c0',c1',c2',c3',c4',c5',.string sy] (by rfl) (by rfl) (by first | exact there_new (cs:=#[.int .i64 0,.int .i64 0,.int .i64 0,.int .i64 0,.int .i64 0,.int .i64 0,.string ⟨#[]⟩]) hX (Nat.le_refl 7) | exact there_new (cs:=#[.int .i64 0,.int .i64 0,.int .i64 0,.int .i64 0,.int .i64 0,.int .i64 0,.string ⟨#[]⟩]) ((hb10.block gx hXl).trans hX) (Nat.le_refl 7)) size_fnd HONE.out ?_
        have hthX:(wX.there gx 0 7):=there_new (cs:=#[.int .i64 0,.int .i64 0,.int .i64 0,.int .i64 0,.int .i64 0,.int .i64 0,.string ⟨#[]⟩]) hX (Nat.le_refl 7)
        first|(obtain⟨wY,hwY,hsY,hcY⟩:∃q,Hid (q=World.setCells wX gx 0 [c0',c1',c2',c3',c4',c5',.string sy])∧Below wr.heap.size wr q∧q.rangeAt gx 0 [c0',c1',c2',c3',c4',c5',.string sy]:=⟨_,rfl,below_setCellsV hXg _ _ _ (HeldN.bl hkX),World.rangeAt_setCells_same _ _ _ _ hthX⟩;rw[←hwY.out])|(obtain⟨wY,hwY,hsY,hcY⟩:∃q,Hid (q=World.setCells w10 gx 0 [c0',c1',c2',c3',c4',c5',.string sy])∧Below wr.heap.size wr q∧q.rangeAt gx 0 [c0',c1',c2',c3',c4',c5',.string sy]:=⟨_,rfl,below_setCellsV hXg _ _ _ ((HeldN.bl hkX).trans (hb10.mono (HeldN.bl hkX).size)),World.rangeAt_setCells_same _ _ _ _ (there_new (cs:=#[.int .i64 0,.int .i64 0,.int .i64 0,.int .i64 0,.int .i64 0,.int .i64 0,.string ⟨#[]⟩]) ((hb10.block gx hXl).trans hX) (Nat.le_refl 7))⟩;rw[←hwY.out])
        refine hK.out _ _ ?_
        clear hK K
        (try simp only[Act.put,z1,z2,z3])
        refine doneT (by kernel_rfl) ?_ _
        have HB5:=zh (HBR.out.trans (hsY.mono HBR.out.size))
        have HRW5:=zh hsY
        have HGX:=zh hXg
        have hgxl:gx<wY.heap.size:=World.block_lt_of_cell? wY _ (hcY 6 _ rfl)
        have HGL:=zh (show gb<wY.heap.size∧gx<wY.heap.size from⟨Nat.lt_of_lt_of_le HLT3.out.2.1 hsY.size,hgxl⟩)
        have HS13:=zh (show HeldX2 gb (goff+j) gx 6 (.int .i64 x) (.string sy) wY.drew from⟨(hsY.cell (p:=⟨gb,goff+j,none⟩) HLT3.out.2.1).trans HRS.out.2.2.2.1,hcY 6 _ rfl⟩)
        clear hHeld hsY hcY hwY hXg hgxl hXl hthX hX hkX HWX HGXX
        try clear hb10
        go_upto_region 12 with fail
        refine region_tail (S:=(fun w'=>w'.cell? ⟨gb,goff+j,none⟩=some (.int .i64 x)∧w'.cell? ⟨gx,6,none⟩=some (.string sy))) [] (by kernel_rfl) HS13.out (fun hHeld=>?_)
        refine tk 0 85 ?_
        refine tk 1 86 ?_
        refine tk 2 87 ?_
        refine tk 3 88 ?_
        refine tk 4 89 ?_
        refine tk 5 90 ?_
        refine tk 6 91 ?_
        refine tk 7 92 ?_
        refine readyT (rs:=[8]) (by kernel_rfl) (by simp) ?_
        refine AllReadyT.cons rfl (fun K hK=>?_) ?_
        ·go_simp
         obtain⟨cap,w9,hcv,hb9,hs9,hby⟩:=conv_piece sy wY.drew (by rw[HSY.out];show px.toArray.size≤maxLen;rw[List.size_toArray,HD16.out];decide)
         rw[show wY.drew.heap.size=wY.heap.size from rfl] at hcv hb9 hs9 hby
         rw[hcv]
         simp only[Result.andThen]
         rw[Oper.upon_value]
         have hb9w:=HB5.out.trans ((show Below wY.heap.size wY w9 from⟨hb9.os,hb9.tape,hb9.output,hb9.size,hb9.block⟩).mono HB5.out.size)
         have hO9:=HO.out.below (HRW5.out.trans ((show Below wY.heap.size wY w9 from⟨hb9.os,hb9.tape,hb9.output,hb9.size,hb9.block⟩).mono HRW5.out.size))
         obtain⟨⟨cs,ho9,hc9⟩,hk9⟩:=hO9
         rw[HTJ.out] at ho9
         have HS9:=zh hs9
         have hkp8:HeldX2 gb (goff+j) gx 6 (.int .i64 x) (.string sy) w9:=HeldX2.same (HS13.out) (hb9.block gb HGL.out.1) (hb9.block gx HGL.out.2)
         clear hs9
         refine hK.out _ _ ?_ (fun hHeld=>?_)
         ·(first|assumption|exact hkp8|exact hkp10|exact hkp11)
         clear hK K
         (try simp only[Act.put,z1,z2,z3])
         refine tk 9 94 ?_
         refine readyT (rs:=[10]) (by kernel_rfl) (by simp) ?_
         refine AllReadyT.cons rfl (fun K hK=>?_) ?_
         ·go_simp
          have hkp10:HeldX2 gb (goff+j) gx 6 (.int .i64 x) (.string sy) (w9.alloc (.cells #[.int .i64 x,.slice (some ⟨wY.heap.size,0,none⟩) sy.size cap] 124)):=HeldX2.same hkp8 (Below.heap_alloc w9 _ gb (Nat.lt_of_lt_of_le HGL.out.1 hb9.size)) (Below.heap_alloc w9 _ gx (Nat.lt_of_lt_of_le HGL.out.2 hb9.size))
          refine hK.out _ _ ?_ (fun hHeld=>?_)
          ·(first|assumption|exact hkp8|exact hkp10|exact hkp11)
          clear hK K
          (try simp only[Act.put,z1,z2,z3])
          refine readyT (rs:=[11]) (by kernel_rfl) (by simp) ?_
          refine AllReadyT.cons rfl (fun K hK=>?_) ?_
          ·refine step_append_lies _ (by rfl) _ _ _ (by rfl) w3.heap.size 124 i0 _ 2 32 Tryz.underlying119 hi0 hz0 hz1 hz2 rfl (by decide) (.slice A0 j c0z) j cs (by rfl) (World.ownsRow.alloc ho9 _) ⟨w9.heap.size,0,none⟩ 1 1 [.int .i64 x,.slice (some ⟨wY.heap.size,0,none⟩) sy.size cap] (by rfl) (by rfl) (World.news_of_block (cs:=#[.int .i64 x,.slice (some ⟨wY.heap.size,0,none⟩) sy.size cap]) (t:=124) (fr:=(0,0)) (heap_alloc_new w9 _)) (by simp[Value.oneCell']) (by omega) (by unfold maxLen;omega) (by omega) (Nat.le_trans hb9w.size (by simp)) (w9.heap.size+1) (by simp) ?_
           intro gg cap2 wA hown5 hg5 hat5 hlt5
           have hkp11:HeldX2 gb (goff+j) gx 6 (.int .i64 x) (.string sy) wA:=HeldX2.same hkp10 (hg5.block gb (Nat.lt_of_lt_of_le HGL.out.1 (Nat.le_trans hb9.size (by simp))) (fun e=>by have h1:=HOB2.out gb e.symm;have h2:=HGB3.out;omega)) (hg5.block gx (Nat.lt_of_lt_of_le HGL.out.2 (Nat.le_trans hb9.size (by simp))) (fun e=>by have h1:=HOB.out gx e.symm;have h2:=HGX.out;omega))
           refine hK.out _ _ ?_ (fun hHeld=>?_)
           ·(first|assumption|exact hkp8|exact hkp10|exact hkp11)
           clear hK K
           (try simp only[Act.put,z1,z2,z3])
           refine tk 12 16 ?_
           refine doneT (by kernel_rfl) ?_ _
           have HHB:=zh (And.intro hb9w (And.intro HS9.out hby))
           have HCC:=zh (And.intro ho9 (And.intro hc9 hk9))
           have HAA:=zh (And.intro hown5 (And.intro hg5 hat5))
           clear hHeld hb9 hcv hb9w hby ho9 hc9 hk9 hown5 hg5 hat5 hlt5
           go_wp2_with fail
           go_roundg (KN - (j+1))
           case measure=>have:=HLJ.out;omega
           case rel =>
            obtain⟨hb9w,hs9,hby⟩:=HHB.out
            obtain⟨ho9,hc9,hk9⟩:=HCC.out
            obtain⟨hown5,hg5,hat5⟩:=HAA.out
            have hg9:w9.grownBy wA (Value.slice A0 j c0z).ownBlock:=⟨hg5.os,hg5.tape,hg5.output,Nat.le_trans (by simp) hg5.size,fun b hb hn=>(hg5.block b (by simp;omega) hn).trans (Below.heap_alloc w9 _ b hb)⟩
            refine⟨j+1,by have:=HLJ.out;omega,rfl,by go_num,?_,hb9w.grown hg9 hb9w.size (fun b e=>(ho9.lt b e).1)⟩
            have hhj:HV[j]?=some ⟨x,px⟩:=HFD.out
            rw[take_more hhj]
            have hlt13:=ho9.lt
            refine OwnFg.push (h:=⟨x,px⟩) hk9 hc9 (by rw[HTJ.out];exact ho9) HX64.out ?_ (by rw[HTJ.out];exact hown5) hg9 ?_
            ·have hy:sy.data.toList=px:=by rw[HSY.out]
             rw[hy] at hby
             refine hby.mono (fun b hb=>⟨by rw[hs9];exact hb.2,fun e=>?_⟩)
             have h1:=HOB.out b e
             have h2:=HRW5.out.size
             have h3:=hb.1
             omega
            ·rcases hat5 with e | e
             ·exact .inl e.symm
             ·exact .inr (by rw[e];rfl)
          exact AllReadyT.nil
         exact AllReadyT.nil
        exact AllReadyT.nil
       exact AllReadyT.nil
      exact AllReadyT.nil
     refine AllReadyT.cons rfl (fun K hK=>?_) ?_
     ·go_simp
      first|(obtain⟨gx,wX,hgx,hwX⟩:∃q x,q=w10.heap.size∧x=w10.alloc (.cells #[.int .i64 0,.int .i64 0,.int .i64 0,.int .i64 0,.int .i64 0,.int .i64 0,.string ⟨#[]⟩] 166):=⟨_,_,rfl,rfl⟩;rw[←hwX,←hgx];have HWX:=zh hwX;have HGXX:=zh hgx;clear hwX hgx)|(obtain⟨gx,wX,hgx,hwX⟩:∃q x,q=wr.heap.size∧x=(wr.alloc (.cells #[.int .i64 0,.int .i64 0,.int .i64 0,.int .i64 0,.int .i64 0,.int .i64 0,.string ⟨#[]⟩] 166)).drew:=⟨_,_,rfl,rfl⟩;rw[←hwX,←hgx];have HWX:=zh hwX;have HGXX:=zh hgx;clear hwX hgx)|(obtain⟨gx,wX,hgx,hwX⟩:∃q x,q=wr.heap.size∧x=wr.drew.alloc (.cells #[.int .i64 0,.int .i64 0,.int .i64 0,.int .i64 0,.int .i64 0,.int .i64 0,.string ⟨#[]⟩] 166):=⟨_,_,rfl,rfl⟩;rw[←hwX,←hgx];have HWX:=zh hwX;have HGXX:=zh hgx;clear hwX hgx)
      have hX:wX.heap[gx]?=some (.cells #[.int .i64 0,.int .i64 0,.int .i64 0,.int .i64 0,.int .i64 0,.int .i64 0,.string ⟨#[]⟩] 166 (0,0)):=by rw[HWX.out,HGXX.out];first | exact heap_alloc_new _ _ | exact heap_alloc_new wr _ | exact heap_alloc_new wr.drew _
      have hXl:gx<wX.heap.size:=(Array.getElem?_eq_some_iff.1 hX).1
      have hXg:wr.heap.size≤gx:=by rw[HGXX.out];first | exact Nat.le_refl _ | exact(HeldN.bl (by assumption)).size
      have hkX:HeldN wr y gb (goff+j) lb (lo+t * 7) vp0 vo0 va0 (.int .i64 x) c0' c1' c2' c3' c4' c5' (.string sy) wX:=by rw[HWX.out];first | exact HeldN.below (by assumption) ((Below.refl _ _).alloc (Nat.le_refl _) _) HLT3.out.1 HLT3.out.2.1 HLT3.out.2.2 | exact HeldN.start HRS.out ((Below.refl _ _).alloc (Nat.le_refl _) _).drew HLT3.out.1 HLT3.out.2.1 HLT3.out.2.2 | exact HeldN.start HRS.out ((Below.refl _ _).drew.alloc (Nat.le_refl _) _) HLT3.out.1 HLT3.out.2.1 HLT3.out.2.2
      refine hK.out _ _ ?_ (fun hHeld=>?_)
      ·(first|assumption|exact HeldN.below (by assumption) hb10 HLT3.out.1 HLT3.out.2.1 HLT3.out.2.2|exact HeldN.start HRS.out hsY HLT3.out.1 HLT3.out.2.1 HLT3.out.2.2)
      clear hK K
      (try simp only[Act.put,z1,z2,z3])
      refine readyT (rs:=[10]) (by kernel_rfl) (by simp) ?_
      refine AllReadyT.cons rfl (fun K hK=>?_) ?_
      ·go_simp
       (go_at_call 79;refine(HSO.out _ (HeldN.bl (by assumption))).mono ?_;rintro e w10 ⟨rfl,hb10⟩)
       go_wp2_with fail
       refine hK.out _ _ ?_ (fun hHeld=>?_)
       ·(first|assumption|exact HeldN.below (by assumption) hb10 HLT3.out.1 HLT3.out.2.1 HLT3.out.2.2|exact HeldN.start HRS.out hsY HLT3.out.1 HLT3.out.2.1 HLT3.out.2.2)
       clear hK K
       (try simp only[Act.put,z1,z2,z3])
       refine tk 11 83 ?_
       refine tk 12 84 ?_
       refine readyT (rs:=[14]) (by kernel_rfl) (by simp) ?_
       refine AllReadyT.consT rfl rfl (fun K hK=>?_) ?_
       ·refine wp_store_mid 166 (.tmp 18) (.tmp 84) rfl gx 0 #[c0',c1',c2',c3',c4',c5',.string sy] (by rfl) (by rfl) (by first | exact there_new (cs:=#[.int .i64 0,.int .i64 0,.int .i64 0,.int .i64 0,.int .i64 0,.int .i64 0,.string ⟨#[]⟩]) hX (Nat.le_refl 7) | exact there_new (cs:=#[.int .i64 0,.int .i64 0,.int .i64 0,.int .i64 0,.int .i64 0,.int .i64 0,.string ⟨#[]⟩]) ((hb10.block gx hXl).trans hX) (Nat.le_refl 7)) size_fnd HONE.out ?_
        have hthX:(wX.there gx 0 7):=there_new (cs:=#[.int .i64 0,.int .i64 0,.int .i64 0,.int .i64 0,.int .i64 0,.int .i64 0,.string ⟨#[]⟩]) hX (Nat.le_refl 7)
        first|(obtain⟨wY,hwY,hsY,hcY⟩:∃q,Hid (q=World.setCells wX gx 0 [c0',c1',c2',c3',c4',c5',.string sy])∧Below wr.heap.size wr q∧q.rangeAt gx 0 [c0',c1',c2',c3',c4',c5',.string sy]:=⟨_,rfl,below_setCellsV hXg _ _ _ (HeldN.bl hkX),World.rangeAt_setCells_same _ _ _ _ hthX⟩;rw[←hwY.out])|(obtain⟨wY,hwY,hsY,hcY⟩:∃q,Hid (q=World.setCells w10 gx 0 [c0',c1',c2',c3',c4',c5',.string sy])∧Below wr.heap.size wr q∧q.rangeAt gx 0 [c0',c1',c2',c3',c4',c5',.string sy]:=⟨_,rfl,below_setCellsV hXg _ _ _ ((HeldN.bl hkX).trans (hb10.mono (HeldN.bl hkX).size)),World.rangeAt_setCells_same _ _ _ _ (there_new (cs:=#[.int .i64 0,.int .i64 0,.int .i64 0,.int .i64 0,.int .i64 0,.int .i64 0,.string ⟨#[]⟩]) ((hb10.block gx hXl).trans hX) (Nat.le_refl 7))⟩;rw[←hwY.out])
        refine hK.out _ _ ?_
        clear hK K
        (try simp only[Act.put,z1,z2,z3])
        refine doneT (by kernel_rfl) ?_ _
        have HB5:=zh (HBR.out.trans (hsY.mono HBR.out.size))
        have HRW5:=zh hsY
        have HGX:=zh hXg
        have hgxl:gx<wY.heap.size:=World.block_lt_of_cell? wY _ (hcY 6 _ rfl)
        have HGL:=zh (show gb<wY.heap.size∧gx<wY.heap.size from⟨Nat.lt_of_lt_of_le HLT3.out.2.1 hsY.size,hgxl⟩)
        have HS13:=zh (show HeldX2 gb (goff+j) gx 6 (.int .i64 x) (.string sy) wY.drew from⟨(hsY.cell (p:=⟨gb,goff+j,none⟩) HLT3.out.2.1).trans HRS.out.2.2.2.1,hcY 6 _ rfl⟩)
        clear hHeld hsY hcY hwY hXg hgxl hXl hthX hX hkX HWX HGXX
        try clear hb10
        go_upto_region 12 with fail
        refine region_tail (S:=(fun w'=>w'.cell? ⟨gb,goff+j,none⟩=some (.int .i64 x)∧w'.cell? ⟨gx,6,none⟩=some (.string sy))) [] (by kernel_rfl) HS13.out (fun hHeld=>?_)
        refine tk 0 85 ?_
        refine tk 1 86 ?_
        refine tk 2 87 ?_
        refine tk 3 88 ?_
        refine tk 4 89 ?_
        refine tk 5 90 ?_
        refine tk 6 91 ?_
        refine tk 7 92 ?_
        refine readyT (rs:=[8]) (by kernel_rfl) (by simp) ?_
        refine AllReadyT.cons rfl (fun K hK=>?_) ?_
        ·go_simp
         obtain⟨cap,w9,hcv,hb9,hs9,hby⟩:=conv_piece sy wY.drew (by rw[HSY.out];show px.toArray.size≤maxLen;rw[List.size_toArray,HD16.out];decide)
         rw[show wY.drew.heap.size=wY.heap.size from rfl] at hcv hb9 hs9 hby
         rw[hcv]
         simp only[Result.andThen]
         rw[Oper.upon_value]
         have hb9w:=HB5.out.trans ((show Below wY.heap.size wY w9 from⟨hb9.os,hb9.tape,hb9.output,hb9.size,hb9.block⟩).mono HB5.out.size)
         have hO9:=HO.out.below (HRW5.out.trans ((show Below wY.heap.size wY w9 from⟨hb9.os,hb9.tape,hb9.output,hb9.size,hb9.block⟩).mono HRW5.out.size))
         obtain⟨⟨cs,ho9,hc9⟩,hk9⟩:=hO9
         rw[HTJ.out] at ho9
         have HS9:=zh hs9
         have hkp8:HeldX2 gb (goff+j) gx 6 (.int .i64 x) (.string sy) w9:=HeldX2.same (HS13.out) (hb9.block gb HGL.out.1) (hb9.block gx HGL.out.2)
         clear hs9
         refine hK.out _ _ ?_ (fun hHeld=>?_)
         ·(first|assumption|exact hkp8|exact hkp10|exact hkp11)
         clear hK K
         (try simp only[Act.put,z1,z2,z3])
         refine tk 9 94 ?_
         refine readyT (rs:=[10]) (by kernel_rfl) (by simp) ?_
         refine AllReadyT.cons rfl (fun K hK=>?_) ?_
         ·go_simp
          have hkp10:HeldX2 gb (goff+j) gx 6 (.int .i64 x) (.string sy) (w9.alloc (.cells #[.int .i64 x,.slice (some ⟨wY.heap.size,0,none⟩) sy.size cap] 124)):=HeldX2.same hkp8 (Below.heap_alloc w9 _ gb (Nat.lt_of_lt_of_le HGL.out.1 hb9.size)) (Below.heap_alloc w9 _ gx (Nat.lt_of_lt_of_le HGL.out.2 hb9.size))
          refine hK.out _ _ ?_ (fun hHeld=>?_)
          ·(first|assumption|exact hkp8|exact hkp10|exact hkp11)
          clear hK K
          (try simp only[Act.put,z1,z2,z3])
          refine readyT (rs:=[11]) (by kernel_rfl) (by simp) ?_
          refine AllReadyT.cons rfl (fun K hK=>?_) ?_
          ·refine step_append_lies _ (by rfl) _ _ _ (by rfl) w3.heap.size 124 i0 _ 2 32 Tryz.underlying119 hi0 hz0 hz1 hz2 rfl (by decide) (.slice A0 j c0z) j cs (by rfl) (World.ownsRow.alloc ho9 _) ⟨w9.heap.size,0,none⟩ 1 1 [.int .i64 x,.slice (some ⟨wY.heap.size,0,none⟩) sy.size cap] (by rfl) (by rfl) (World.news_of_block (cs:=#[.int .i64 x,.slice (some ⟨wY.heap.size,0,none⟩) sy.size cap]) (t:=124) (fr:=(0,0)) (heap_alloc_new w9 _)) (by simp[Value.oneCell']) (by omega) (by unfold maxLen;omega) (by omega) (Nat.le_trans hb9w.size (by simp)) (w9.heap.size+1) (by simp) ?_
           intro gg cap2 wA hown5 hg5 hat5 hlt5
           have hkp11:HeldX2 gb (goff+j) gx 6 (.int .i64 x) (.string sy) wA:=HeldX2.same hkp10 (hg5.block gb (Nat.lt_of_lt_of_le HGL.out.1 (Nat.le_trans hb9.size (by simp))) (fun e=>by have h1:=HOB2.out gb e.symm;have h2:=HGB3.out;omega)) (hg5.block gx (Nat.lt_of_lt_of_le HGL.out.2 (Nat.le_trans hb9.size (by simp))) (fun e=>by have h1:=HOB.out gx e.symm;have h2:=HGX.out;omega))
           refine hK.out _ _ ?_ (fun hHeld=>?_)
           ·(first|assumption|exact hkp8|exact hkp10|exact hkp11)
           clear hK K
           (try simp only[Act.put,z1,z2,z3])
           refine tk 12 16 ?_
           refine doneT (by kernel_rfl) ?_ _
           have HHB:=zh (And.intro hb9w (And.intro HS9.out hby))
           have HCC:=zh (And.intro ho9 (And.intro hc9 hk9))
           have HAA:=zh (And.intro hown5 (And.intro hg5 hat5))
           clear hHeld hb9 hcv hb9w hby ho9 hc9 hk9 hown5 hg5 hat5 hlt5
           go_wp2_with fail
           go_roundg (KN - (j+1))
           case measure=>have:=HLJ.out;omega
           case rel =>
            obtain⟨hb9w,hs9,hby⟩:=HHB.out
            obtain⟨ho9,hc9,hk9⟩:=HCC.out
            obtain⟨hown5,hg5,hat5⟩:=HAA.out
            have hg9:w9.grownBy wA (Value.slice A0 j c0z).ownBlock:=⟨hg5.os,hg5.tape,hg5.output,Nat.le_trans (by simp) hg5.size,fun b hb hn=>(hg5.block b (by simp;omega) hn).trans (Below.heap_alloc w9 _ b hb)⟩
            refine⟨j+1,by have:=HLJ.out;omega,rfl,by go_num,?_,hb9w.grown hg9 hb9w.size (fun b e=>(ho9.lt b e).1)⟩
            have hhj:HV[j]?=some ⟨x,px⟩:=HFD.out
            rw[take_more hhj]
            have hlt13:=ho9.lt
            refine OwnFg.push (h:=⟨x,px⟩) hk9 hc9 (by rw[HTJ.out];exact ho9) HX64.out ?_ (by rw[HTJ.out];exact hown5) hg9 ?_
            ·have hy:sy.data.toList=px:=by rw[HSY.out]
             rw[hy] at hby
             refine hby.mono (fun b hb=>⟨by rw[hs9];exact hb.2,fun e=>?_⟩)
             have h1:=HOB.out b e
             have h2:=HRW5.out.size
             have h3:=hb.1
             omega
            ·rcases hat5 with e | e
             ·exact .inl e.symm
             ·exact .inr (by rw[e];rfl)
          exact AllReadyT.nil
         exact AllReadyT.nil
        exact AllReadyT.nil
       exact AllReadyT.nil
      exact AllReadyT.nil
     exact AllReadyT.nil
    ·-- R1{
     obtain rfl:KN=j:=by omega
     have hfrag:=HO.out.fragS
     rw[List.take_of_length_le (by rw[HHL.out];exact Nat.le_refl _)] at hfrag
     obtain⟨DE,hDE⟩:=zx (decE (KN:Int) MM HV)
     obtain⟨RT,hRT⟩:=zx (decD KN HV)
     have HDC:=zh (fun vh (hh:FragS wr (Bl wr.heap.size) vh HV)=>(show Calls Tryz.prog 84 #[.int .i64 (KN:Int),.int .i64 MM,vh] wr (fun e w'=>∃v,e=.returned (.tuple #[v,.int .i64 DE])∧(DE=0→MatS w' (Bl w'.heap.size) v RT)∧(DE≠0→v=.slice none 0 0)∧Below wr.heap.size wr w') from by
      have hd:=refdecode_any (KN:Int) MM vh HV wr (by unfold I64;omega) (by have:=HKM.out;unfold I64;omega) hh (by rw[HHL.out];omega) HDL.out
      rw[←hDE,show((KN:Int)).toNat=KN from by omega,←hRT] at hd
      exact hd))
     have HFG:=zh hfrag
     have HRT:=zh (show RT.length=KN∧(∀x∈RT,x.length=16) from by
      rw[hRT]
      exact⟨decD_length KN HV,fun x hx=>by rw[decD_wide KN HV x hx,HROW.out]⟩)
     have HCS2:=zh (show(conS r v s up KN KM=if DE=0 then RT.flatten else [])∧conE r v s up KN KM=DE from by
      have h1:(wordT KN KM (decD KN HV) (rowLen HV)).take KN=decD KN HV:=wordT_take KN KM (rowLen HV) (decD KN HV) (decD_length KN HV) (decD_wide KN HV) (by have:=HKM.out;omega)
      have h2:=HCS.out
      rw[h1] at h2
      rw[hDE,hRT];exact h2)
     clear hfrag hDE hRT
     go_wp2_with fail
     refine(HDC.out _ HFG.out).mono ?_
     rintro e w5 ⟨vr,rfl,hmat,hnil,hb5⟩
     have HB5:=zh (HR3.out.trans (hb5.mono HR3.out.size))
     clear p1 p2
     by_cases hde:DE=0
     ·-- D{
      have HMT:=zh (hmat hde)
      obtain⟨Av,cv',hvr,-,-⟩:=(hmat hde).form
      rw[HRT.out.1] at hvr
      subst hvr
      have HDE:=zh hde
      subst hde
      clear hmat hnil hb5
      go_wp2_with fail
      go_loopg [21,22] KN (fun z v21 v22 wr=>w5=wr∧∃(j:Nat) (sx:ByteArray),j≤KN∧z=KN - j∧v21=.string sx∧v22=.int .i64 (j:Int)∧Hid (sx=⟨((RT.take j).flatten).toArray⟩))
      case atStart=>exact⟨rfl,0,⟨#[]⟩,by omega,rfl,rfl,rfl,rfl⟩
      case round =>
       obtain⟨rfl,j,sx,hj,rfl,rfl,rfl,HSX⟩:=hrel
       by_cases hlj:j<KN
       ·-- L2{
        have hjl:j<RT.length:=by rw[HRT.out.1];exact hlj
        obtain⟨b2,off2,va,hAv,hR2,hc2,hva⟩:=HMT.out.at_ (k:=j) hjl
        subst hAv
        obtain⟨row,hrow⟩:=zx (RT[j])
        rw[←hrow] at hva
        have hr16:row.length=16:=by rw[hrow];exact HRT.out.2 _ (List.getElem_mem hjl)
        have hcv:=conv_bytes hva
        have htk:(⟨((RT.take (j+1)).flatten).toArray⟩:ByteArray)=sx++⟨row.toArray⟩:=by
         rw[HSX.out,List.take_succ_eq_append_getElem hjl,←hrow];exact(cat_flat _ _).symm
        have HTK:=zh htk
        have hsz:sx.size=j * 16:=by
         have h:=wide_sum (RT.take j) 16 (fun x hx=>HRT.out.2 x (List.mem_of_mem_take hx))
         rw[HSX.out]
         show(RT.take j).flatten.toArray.size=_
         rw[List.size_toArray,List.length_flatten,h,List.length_take,HRT.out.1];congr 1;omega
        obtain⟨ry,hry⟩:∃q:ByteArray,q=⟨row.toArray⟩:=⟨_,rfl⟩
        have hrs:ry.size=16:=by rw[hry];show row.toArray.size=16;rw[List.size_toArray,hr16]
        rw[←hry] at hcv
        have HRY:=zh hry
        have hlim:¬9223372036854775807<sx.size+ry.size:=by omega
        have HLJ:=zh hlj
        clear hR2 hva hrow hr16 htk hry hjl
        go_wp2_with fail
        go_roundg (KN - (j+1))
        case measure=>have:=HLJ.out;omega
        case rel=>exact⟨rfl,j+1,_,by have:=HLJ.out;omega,rfl,rfl,by go_num,by rw[HTK.out,HRY.out];exact rfl⟩
       ·obtain rfl:KN=j:=by omega
        have hsx:=HSX.out
        rw[List.take_of_length_le (by rw[HRT.out.1];exact Nat.le_refl _)] at hsx
        have HSX2:=zh hsx
        clear hsx
        go_wp2_with fail
        go_ret2
        refine⟨?_,HB5.out⟩
        first|(rw[HCS2.out.1,HCS2.out.2,if_pos rfl,HSX2.out];rfl)|(rw[HCS2.out.1,HCS2.out.2,HSX2.out];rfl)
     ·-- E{
      have HDE:=zh hde
      clear hmat hnil hb5
      go_wp2_with fail
      go_ret2
      refine⟨?_,HB5.out⟩
      first|(rw[HCS2.out.1,HCS2.out.2,if_neg HDE.out];rfl)|(rw[HCS2.out.1,HCS2.out.2];rfl)
 exact AllReadyT.nil
end Go.Proofs.YtmehadfhcdpfcaaGreat
