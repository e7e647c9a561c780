/- The law TruthHarms, walked. -/
import Derived.Test.YtmehadfhcdpfcaaGreatMf25
import Derived.Test.YtmehadfhcdpfcaaGreatMf12
import Derived.Test.YtmehadfhcdpfcaaGreatMf01
set_option maxRecDepth 100000
set_option maxHeartbeats 12800000
namespace Go.Proofs.YtmehadfhcdpfcaaGreat
open Go.RowKit
set_option linter.unusedVariables false
set_option linter.unusedSimpArgs false
theorem acks_i64{w:World} {R:Nat→Prop} {v:Value} {l:List Ac} (h:SlS 4 AcK w R v l):∀a∈l,I64 a.vol∧I64 a.stripe∧I64 a.ver∧I64 a.side:=fun a ha=>by
 obtain⟨k,hk,rfl⟩:=List.getElem_of_mem ha
 obtain⟨A,c,rfl,-,-⟩:=h.form
 obtain⟨b,off,cs,-,-,-,-,-,h1,h2,h3,h4⟩:=h.at_ hk
 exact⟨h1,h2,h3,h4⟩
theorem harms_any(HMade:∀(vt:Value) (xs:List Int) (w:World) (R:Nat→Prop),IntS w R vt xs→(∀b,R b→b<w.heap.size)→Calls Tryz.prog 11 #[vt] w (MadePost w)) (vl ve:Value) (zs xs:List Int) (w:World) (hl:IntS w (Bl w.heap.size) vl zs) (he:IntS w (Bl w.heap.size) ve xs) :
  Calls Tryz.prog 4 #[vl,ve] w fun e w'=>e=.returned (.bool true)∧Below w.heap.size w w':=by
 have HAW:=zh (fun w1=>awake_any w1)
 have HMD:=zh HMade
 obtain⟨Al,nl,cl,rfl⟩:=hl.form3
 obtain⟨Ae,ce,rfl,-,-⟩:=he.form7
 obtain⟨NE,hNE⟩:=zx xs.length
 rw[←hNE] at he ⊢
 obtain⟨vt,hvt⟩:=zx (Value.slice Ae NE ce)
 have HL:=zh hl
 have HE:=zh he
 have HNE:=zh hNE
 have HVT:=zh hvt
 clear hl he hNE HMade hvt
 by_cases hlen:30<NE
 ·go_enter Tryz.func4,Tryz.ntmps4
  go_wp2_with fail
  refine(HAW.out _).mono ?_
  rintro e w2 ⟨rfl,hb2⟩
  have HB2:=zh hb2
  clear hb2
  go_wp2_with fail
  go_ret
  exact⟨rfl,HB2.out⟩
 ·go_enter Tryz.func4,Tryz.ntmps4
  go_wp2_with fail
  refine(HMD.out _ zs w _ HL.out (fun b h=>h)).mono ?_
  rintro e w2 ⟨fl,fm,fd,fv,fp,fo,F,zp,zo,za,r,gM,n,f,st,rfl,hfs,hok,hre,hmo,hmp,hdo,hgM,hb2⟩
  obtain⟨A1,c1,hf1,-⟩:=SlS.form hfs.1
  obtain⟨A2,c2,hf2,-⟩:=SlS.form hfs.2.1
  obtain⟨A3,c3,hf3,-⟩:=SlS.form hfs.2.2.1
  obtain⟨A4,c4,hf4,-⟩:=SlS.form hfs.2.2.2.1
  obtain⟨A5,c5,hf5,-⟩:=SlS.form hfs.2.2.2.2.1
  obtain⟨A6,c6x,hf6,-⟩:=SlS.form hfs.2.2.2.2.2
  obtain⟨B1,d1,hz1,-⟩:=SlS.form hre.1
  obtain⟨B2,d2,hz2,-⟩:=SlS.form hre.2.1
  obtain⟨B3,d3,hz3,-⟩:=SlS.form hre.2.2
  obtain⟨n1,hn1⟩:=zx F.laws.length
  obtain⟨n2,hn2⟩:=zx F.models.length
  obtain⟨n3,hn3⟩:=zx F.doms.length
  obtain⟨n4,hn4⟩:=zx F.dves.length
  obtain⟨n5,hn5⟩:=zx F.pols.length
  obtain⟨n6,hn6⟩:=zx F.vols.length
  obtain⟨m1,hm1⟩:=zx r.plat.length
  obtain⟨m2,hm2⟩:=zx r.on.length
  obtain⟨m3,hm3⟩:=zx r.acks.length
  rw[←hn1] at hf1
  rw[←hn2] at hf2
  rw[←hn3] at hf3
  rw[←hn4] at hf4
  rw[←hn5] at hf5
  rw[←hn6] at hf6
  rw[←hm1] at hz1
  rw[←hm2] at hz2
  rw[←hm3] at hz3
  have HFS2:=zh (hfs.mono Fr.bl)
  rw[hf6] at HFS2
  have HOK:=zh hok
  have HRE:=zh (hre.mono Fr.bl)
  have HPL:=zh (show r.plat.length≤9 from by rw[hmo.plat];have:=hok.dveN;omega)
  have HLEN:=zh hmo.len
  have HL5:=zh hmo.len5
  have HON:=zh (show r.on.length=r.plat.length∧1≤r.plat.length from⟨by rw[hmo.on,hmo.plat],by rw[hmo.plat];exact hok.dve1⟩)
  have HA1:=zh (show 1≤r.acks.length from by
   rw[hmo.acks,List.length_map]
   have h1:=congrArg List.length hmo.keys
   rw[List.length_map] at h1
   have h2:=keysTo_len F.ext.toNat F.vols.length 0
   have he:=hok.ext
   have h3:1 * 1≤F.vols.length * F.ext.toNat:=Nat.mul_le_mul hok.vol1 (by omega)
   omega)
  have hak:r.acks.length≤1000000:=by
   have h1:=congrArg List.length hmo.keys
   rw[List.length_map] at h1
   have h2:=keysTo_le F.ext.toNat F.vols.length 0 (by have:=hok.ext;omega) hok.volN (by omega)
   rw[hmo.acks,List.length_map];omega
  have HAK:=zh hak
  have HB2:=zh hb2
  obtain⟨EX,hEX⟩:=zx F.ext
  rw[←hEX]
  have HEX:=zh hEX
  have HEX2:=zh (show(EX=1∨EX=2)∧n6≤2 from⟨by rw[hEX];exact hok.ext,by rw[hn6];exact hok.volN⟩)
  have HN6:=zh hn6
  clear hfs hok hre hmo hmp hdo hgM hb2 hEX hak hn1 hn2 hn3 hn4 hn5 hn6 hm1 hm2 hm3
  rw[hf1,hf2,hf3,hf4,hf5,hf6,hz1,hz2,hz3]
  have HEF:=zh (And.intro hf1 (And.intro hf2 (And.intro hf3 (And.intro hf4 (And.intro hf5 hf6)))))
  have HEZ:=zh (And.intro hz1 (And.intro hz2 hz3))
  clear hf1 hf2 hf3 hf4 hf5 hf6 hz1 hz2 hz3
  have HVW:=zh (show EX=F.ext from HEX.out)
  go_upto_region 4 with fail
  rw[←HEF.out.1,←HEF.out.2.1,←HEF.out.2.2.1,←HEF.out.2.2.2.1,←HEF.out.2.2.2.2.1,←HEZ.out.1,←HEZ.out.2.1,←HEZ.out.2.2]
  clear HEF HEZ
  obtain⟨g,hg⟩:=zx w2.heap.size
  obtain⟨p,hp⟩:=zx (w2.heap.size+1)
  obtain⟨WM,hWM⟩:=zx (((w2.alloc (.cells #[.int .i64 EX,fl,fm,fd,fv,fp,.slice A6 n6 c6x] 37)).alloc (.cells #[zp,zo,za] 27)))
  rw[←hWM,←hp,←hg]
  have hsz4:WM.heap.size=w2.heap.size+1+1:=by rw[hWM];simp
  have hb4:Below w2.heap.size w2 WM:=by rw[hWM];exact((Below.refl _ _).alloc (Nat.le_refl _) _).alloc (by simp) _
  have hbR:WM.heap[p]?=some (.cells #[zp,zo,za] 27 (0,0)):=by
   rw[hWM];exact heap_alloc_at _ _ _ (by rw[hp];simp)
  have hbF:WM.heap[g]?=some (.cells #[.int .i64 EX,fl,fm,fd,fv,fp,.slice A6 n6 c6x] 37 (0,0)):=by
   rw[hWM,hg];exact(Below.heap_alloc _ _ _ (by simp)).trans (heap_alloc_new w2 _)
  have HGP:=zh (show g<WM.heap.size∧p<WM.heap.size from⟨by omega,by omega⟩)
  have HC:=zh (fun(W:World) (hb:Below WM.heap.size WM W)=>And.intro (cells7 ((hb.block g (by omega)).trans hbF)) (cells3v ((hb.block p (by omega)).trans hbR)))
  have HBM:=zh (HB2.out.trans (hb4.mono HB2.out.size))
  have HFS:=zh (HFS2.out.below hb4)
  have HM4:=zh (HRE.out.below hb4)
  have HNU:=zh (show Nums WM WM vt xs from .inl (by have h:=(HE.out.keep (kept_below HBM.out)).mono (Bl.mono HBM.out.size);rw[HVT.out];exact h))
  have HAC:=zh (acks_i64 HM4.out.2.2)
  obtain⟨-,z0,z1,z2⟩:=HC.out WM (Below.refl _ _)
  have HCP:=zh (copy_any zp zo za r WM HM4.out (by have:=HPL.out;omega) HLEN.out (by have:=HON.out;have:=HPL.out;omega) HAK.out)
  clear hWM hg hp hsz4 hb4 hbR hbF
  go_wp2_with fail
  refine HCP.out.mono ?_
  rintro e w5 ⟨vp',vo',va',rs0,rfl,hRQ,hrs,hon,hak,hb5⟩
  obtain⟨ND,hND⟩:=zx r.plat.length
  obtain⟨NA,hNA⟩:=zx r.acks.length
  have hl0:rs0.length=ND:=by rw[hND,←hrs,List.length_map]
  have hND1:1≤ND:=by rw[hND];exact HON.out.2
  have hND9:ND≤9:=by rw[hND];exact HPL.out
  have hNA1:1≤NA:=by rw[hNA];exact HA1.out
  have hNA9:NA≤1000000:=by rw[hNA];exact HAK.out
  have hon1:r.on.length=ND:=by rw[hND];exact HON.out.1
  obtain⟨gv,cw,hvp⟩:=own_block hRQ.top (by omega)
  obtain⟨go,co',hvo⟩:=own_block hon (by omega)
  obtain⟨ga,ca',hva⟩:=own_block hak (by omega)
  rw[hl0] at hvp
  rw[hon1] at hvo
  rw[←hNA] at hva
  subst hvp
  subst hvo
  subst hva
  have HLR:=zh (show rs0.length=ND∧r.on.length=ND∧r.acks.length=NA∧(∀(i:Nat) (x:Value×List ByteArray),rs0[i]?=some x→x.2.length≤500) from⟨hl0,hon1,hNA.symm,fun i x hx=>by
   have h1:x.2∈r.plat:=by rw[←hrs];exact List.mem_map.2 ⟨x,List.mem_of_getElem? hx,rfl⟩
   exact HL5.out _ h1⟩)
  have HRS:=zh hrs
  have HN1:=zh (show(1≤ND∧ND≤9)∧1≤NA∧NA≤1000000 from⟨⟨hND1,hND9⟩,hNA1,hNA9⟩)
  obtain⟨gX,hgX⟩:=zx w5.heap.size
  obtain⟨gT,hgT⟩:=zx (w5.heap.size+1)
  obtain⟨W6,hW6⟩:=zx ((w5.alloc (.cells #[(.slice (some ⟨gv,0,none⟩) ND cw),(.slice (some ⟨go,0,none⟩) ND co'),(.slice (some ⟨ga,0,none⟩) NA ca')] 27)).alloc (.cells #[.slice Ae NE ce,.int .i64 0] 48))
  have hcp:CpT WM gX (w5.alloc (.cells #[(.slice (some ⟨gv,0,none⟩) ND cw),(.slice (some ⟨go,0,none⟩) ND co'),(.slice (some ⟨ga,0,none⟩) NA ca')] 27)) (.slice (some ⟨gv,0,none⟩) ND cw) (.slice (some ⟨go,0,none⟩) ND co') (.slice (some ⟨ga,0,none⟩) NA ca') rs0 r.on r.acks :=
   ⟨hb5.alloc hb5.size _,by rw[hgX];exact heap_alloc_new w5 _,hRQ.stay (HotBy.alloc [] _ _) (fun b hb=>by simp at hb),hon.alloc _,hak.alloc _,by rw[hgX];exact hb5.size⟩
  have hed:EdT gT vt xs WM gX W6 0 (.slice (some ⟨gv,0,none⟩) ND cw) (.slice (some ⟨go,0,none⟩) ND co') (.slice (some ⟨ga,0,none⟩) NA ca') rs0 r.on r.acks:=by
   rw[hW6]
   refine⟨hcp.below ((Below.refl _ _).alloc (Nat.le_refl _) _),?_,?_,by rw[hgT];have:=hb5.size;omega⟩
   ·unfold TapeB
    rw[HVT.out]
    exact heap_alloc_at _ _ _ (by rw[hgT];simp)
   ·rcases HNU.out with h | ⟨h,h2⟩
    ·exact .inl h
    ·exact .inr ⟨own_below h (hcp.hot.alloc hcp.hot.size _),h2⟩
  have HED0:=zh hed
  have HW6:=zh hW6
  have HGX:=zh hgX
  have HGT:=zh hgT
  clear hRQ hrs hon hak hb5 hND hNA hl0 hND1 hND9 hNA1 hNA9 hon1 hgX hgT hW6 hcp hed z0 z1 z2
  go_wp2_with fail
  rw[←HW6.out,←HGT.out,←HGX.out]
  obtain⟨K0,hK0⟩:∃q:Nat,(NE:Int) / 4=(q:Int):=⟨NE / 4,by omega⟩
  have hK7:K0≤7:=by omega
  rw[hK0]
  obtain⟨XB,hXB⟩:∃X:ByteArray,X=⟨(List.replicate 36 (0:UInt8)).toArray⟩:=⟨_,rfl⟩
  have hbl:=fun w=>blank_any w
  rw[←hXB] at hbl
  have HBL:=zh hbl
  have HXB:=zh (show XB.size≤maxLen from by rw[hXB];show(List.replicate 36 (0:UInt8)).toArray.size≤maxLen;unfold maxLen;simp)
  clear hbl hXB
  go_loopg [10] K0 (fun z v10 wr=>∃(k I:Nat) (rs:List (Value×List ByteArray)) (on:List Bool) (acks:List Ac),v10=.int .i64 (k:Int)∧z=0+k∧k≤7∧I+6 * k≤42∧Hid (EdT gT vt xs WM gX wr I (.slice (some ⟨gv,0,none⟩) ND cw) (.slice (some ⟨go,0,none⟩) ND co') (.slice (some ⟨ga,0,none⟩) NA ca') rs on acks)∧Hid (rs.length=ND∧on.length=ND∧acks.length=NA∧(∀(i:Nat) (x:Value×List ByteArray),rs[i]?=some x→x.2.length+k≤507)∧(∀a∈acks,I64 a.vol∧I64 a.stripe∧I64 a.ver∧I64 a.side)))
  case atStart=>exact⟨K0,0,rs0,r.on,r.acks,rfl,by omega,hK7,by omega,HED0.out,HLR.out.1,HLR.out.2.1,HLR.out.2.2.1,fun i x hx=>by have:=HLR.out.2.2.2 i x hx;omega,HAC.out⟩
  case round =>
   clear HED0 hK0 hK7
   obtain⟨k,I,rs,on,acks,rfl,rfl,hk7,hI,HED,HBN⟩:=hrel
   by_cases hk:0<k
   ·-- L1{
    obtain⟨vo,hvo⟩:=zx (Value.slice (some ⟨go,0,none⟩) ND co')
    obtain⟨va,hva⟩:=zx (Value.slice (some ⟨ga,0,none⟩) NA ca')
    rw[←hvo,←hva] at HED
    have HVO:=zh hvo
    have HVA:=zh hva
    clear hvo hva
    have HLN:=zh HBN.out.1
    have hkI:(0:Int)<(k:Int):=by omega
    have HKI:=zh (And.intro hk (And.intro hk7 hI))
    obtain⟨k0,-,-,-,-⟩:=HED.out.cells
    go_wp2_with fail
    refine(HED.out.next_any (by omega) ND HN1.out.1.1 (by have:=HN1.out.1.2;omega) _ rfl).mono ?_
    rintro e w11 ⟨d,rfl,hdN,hE,-⟩
    clear HED k0
    have HED:=zh hE
    clear hE
    obtain⟨k0,-,-,-,-⟩:=HED.out.cells
    go_wp2_with fail
    refine(HED.out.next_any (by omega) ND HN1.out.1.1 (by have:=HN1.out.1.2;omega) _ rfl).mono ?_
    rintro e w12 ⟨t,rfl,htN,hE,-⟩
    clear HED k0
    have HED:=zh hE
    clear hE
    obtain⟨k0,-,-,-,-⟩:=HED.out.cells
    obtain⟨⟨xv,ld⟩,hx⟩:∃x,rs[d]?=some x:=⟨_,List.getElem?_eq_getElem (by rw[HLN.out];exact hdN)⟩
    obtain⟨Ad,cd,hxv⟩:=own_form (HED.out.plat.row d _ hx)
    simp only at hxv
    subst hxv
    obtain⟨Ld,hLd⟩:=zx ld.length
    rw[←hLd] at hx
    have kd:=(HED.out.toCpT.drive HLN.out hx).1
    simp only at kd
    have hdI:(d:Int)<(ND:Int):=by omega
    have htI:(t:Int)<(ND:Int):=by omega
    have HLD:=zh hLd.symm
    by_cases hL0:Ld=0
    ·-- Z{
     have hq:((Ld:Int)==0)=true:=by rw[hL0];rfl
     clear hx hLd hL0
     go_wp2_with fail
     go_roundg (k - 1)
     case measure=>have:=HKI.out.1;omega
     case rel=>exact⟨k - 1,I+1+1,rs,on,acks,by have:=HKI.out;go_num,by omega,by have:=HKI.out;omega,by have:=HKI.out;(try have:=HJ.out);omega,(by rw[←HVO.out,←HVA.out];exact HED.out),⟨HBN.out.1,HBN.out.2.1,HBN.out.2.2.1,fun j x hx=>by have:=HBN.out.2.2.2.1 j x hx;have:=HKI.out;omega,HBN.out.2.2.2.2⟩⟩
    ·-- P{
     have hq:((Ld:Int)==0)=false:=by simpa using hL0
     obtain⟨gi,cd',hA⟩:=own_block (HED.out.plat.row d _ hx) (by simp only;omega)
     simp only[Value.slice.injEq] at hA
     obtain⟨rfl,-,rfl⟩:=hA
     have HDD:=zh hx
     have hL5:Ld≤507:=by have:=HBN.out.2.2.2.1 d _ hx;simp only at this;omega
     have hL1:1≤Ld:=by omega
     clear hLd hL0 hx
     go_wp2_with fail
     refine(HED.out.next_any (by omega) Ld hL1 (by omega) _ rfl).mono ?_
     rintro e w13 ⟨i,rfl,hiL,hE,-⟩
     clear HED k0 kd hq
     have HED:=zh hE
     clear hE
     obtain⟨X,hX⟩:∃X,ld[i]?=some X:=⟨_,List.getElem?_eq_getElem (by rw[HLD.out];exact hiL)⟩
     have HXI:=zh hX
     obtain⟨⟨xt,lt⟩,hxt⟩:∃x,rs[t]?=some x:=⟨_,List.getElem?_eq_getElem (by rw[HLN.out];exact htN)⟩
     obtain⟨At,ct,hxv⟩:=own_form (HED.out.plat.row t _ hxt)
     simp only at hxv
     subst hxv
     obtain⟨Lt,hLt⟩:=zx lt.length
     rw[←hLt] at hxt
     have HTT:=zh hxt
     have HLT2:=zh hLt.symm
     have HLTB:=zh (show Lt+k≤507 from by have:=HBN.out.2.2.2.1 t _ hxt;simp only at this;omega)
     have hiI:(i:Int)<(Ld:Int):=by omega
     have HB3:=zh (And.intro hdN (And.intro htN hiL))
     clear hX hxt hLt
     go_wp2_with fail
     refine(HED.out.next_any (by omega) 5 (by omega) (by omega) _ rfl).mono ?_
     rintro e w14 ⟨s5,rfl,hs5,hE,-⟩
     clear HED
     obtain⟨J,hJ⟩:=zx (I+1+1+1+1)
     rw[←hJ] at hE
     have HJ:=zh hJ
     clear hJ
     have HED:=zh hE
     clear hE
     rcases (show s5=0∨s5=1∨s5=2∨s5=3∨s5=4 from by omega) with h5 | h5 | h5 | h5 | h5
     ·-- K0{
      have f0:((s5:Int)==0)=true:=by rw[h5];rfl
      have f1:((s5:Int)==1)=false:=by rw[h5];rfl
      have f2:((s5:Int)==2)=false:=by rw[h5];rfl
      have f3:((s5:Int)==3)=false:=by rw[h5];rfl
      have f4:((s5:Int)==4)=false:=by rw[h5];rfl
      clear h5
      go_upto_region 15 with fail
      have hC0:=HED.out.drew.toCpT
      have HS0:=zh (show w14.drew.cell? ⟨gX,0,none⟩=some (.slice (some ⟨gv,0,none⟩) ND cw)∧w14.drew.cell? ⟨gv,d,none⟩=some (.slice (some ⟨gi,0,none⟩) Ld cd) from⟨hC0.cells.1,(hC0.look HLN.out HDD.out HLD.out HXI.out).1⟩)
      clear hC0
      refine region_tail (S:=(fun w'=>w'.cell? ⟨gX,0,none⟩=some (.slice (some ⟨gv,0,none⟩) ND cw)∧w'.cell? ⟨gv,d,none⟩=some (.slice (some ⟨gi,0,none⟩) Ld cd))) [8] (by kernel_rfl) HS0.out (fun hHeld=>?_)
      refine tk 0 65 ?_
      refine tk 1 66 ?_
      refine tk 2 67 ?_
      refine tk 3 68 ?_
      refine tk 4 69 ?_
      refine tk 5 70 ?_
      refine readyT (rs:=[6]) (by kernel_rfl) (by simp) ?_
      refine AllReadyT.cons rfl (fun K hK=>?_) ?_
      ·go_simp
       (go_at_call 19;refine(HBL.out _).mono ?_;rintro e w7 ⟨rfl,hb7⟩)
       go_wp2_with fail
       have hE7:=HED.out.drew.below hb7
       have hC7:=hE7.toCpT
       have hS7:w7.cell? ⟨gX,0,none⟩=some (.slice (some ⟨gv,0,none⟩) ND cw)∧w7.cell? ⟨gv,d,none⟩=some (.slice (some ⟨gi,0,none⟩) Ld cd):=⟨hC7.cells.1,(hC7.look HLN.out HDD.out HLD.out HXI.out).1⟩
       obtain⟨-,-,m0,m1⟩:=hC7.look HLN.out HDD.out HLD.out HXI.out
       refine hK.out _ _ ?_ (fun hHeld=>?_)
       ·assumption
       clear hK K
       (try simp only[Act.put,z1,z2,z3])
       refine tk 7 72 ?_
       refine readyT (rs:=[8]) (by kernel_rfl) (by simp) ?_
       refine AllReadyT.consT rfl rfl (fun K hK=>?_) ?_
       ·go_simp
        refine hK.out _ _ ?_
        clear hK K
        (try simp only[Act.put,z1,z2,z3])
        refine doneT (by kernel_rfl) ?_ _
        obtain⟨w15,hw15⟩:=zx (w7.setCell ⟨gi,i,none⟩ (.string XB):World)
        have HE15:=zh (show EdT gT vt xs WM gX w15 J (.slice (some ⟨gv,0,none⟩) ND cw) vo va (rs.set d (.slice (some ⟨gi,0,none⟩) Ld cd,ld.set i XB)) on acks from by rw[hw15];exact EdT.setS hE7 HDD.out XB HXB.out)
        rw[←hw15]
        clear hHeld hb7 hE7 hC7 hS7 m0 m1 HS0 hw15
        clear f0 f1 f2 f3 f4
        go_wp2_with fail
        go_roundg (k - 1)
        case measure=>have:=HKI.out.1;omega
        case rel=>exact⟨k - 1,J,_,on,acks,by have:=HKI.out;go_num,by omega,by have:=HKI.out;omega,by have:=HKI.out;(try have:=HJ.out);omega,(by rw[←HVO.out,←HVA.out];exact HE15.out),⟨by rw[List.length_set];exact HBN.out.1,HBN.out.2.1,HBN.out.2.2.1,fun j x hx=>by
          have:=HKI.out
          rcases getSome_set hx with ⟨rfl,rfl⟩ | ⟨_,h2⟩
          ·have h3:=HBN.out.2.2.2.1 d _ HDD.out
           simp only[List.length_set] at h3 ⊢
           omega
          ·have:=HBN.out.2.2.2.1 j x h2
           omega,HBN.out.2.2.2.2⟩⟩
       exact AllReadyT.nil
      exact AllReadyT.nil
     ·-- K1{
      have f0:((s5:Int)==0)=false:=by rw[h5];rfl
      have f1:((s5:Int)==1)=true:=by rw[h5];rfl
      have f2:((s5:Int)==2)=false:=by rw[h5];rfl
      have f3:((s5:Int)==3)=false:=by rw[h5];rfl
      have f4:((s5:Int)==4)=false:=by rw[h5];rfl
      clear h5
      go_upto_region 17 with fail
      have hC0:=HED.out.drew.toCpT
      have hS0:w14.drew.cell? ⟨gX,0,none⟩=some (.slice (some ⟨gv,0,none⟩) ND cw)∧w14.drew.cell? ⟨gv,d,none⟩=some (.slice (some ⟨gi,0,none⟩) Ld cd)∧w14.drew.cell? ⟨gv,t,none⟩=some (.slice At Lt ct)∧w14.drew.cell? ⟨gi,i,none⟩=some (.string X):=⟨(hC0).cells.1,((hC0).look HLN.out HDD.out HLD.out HXI.out).1,((hC0).drive HLN.out HTT.out).1,((hC0).look HLN.out HDD.out HLD.out HXI.out).2.2.1⟩
      have HS0:=zh hS0
      have HROW:=zh (show w14.drew.ownsRow WM.heap.size 9 1 (.slice At Lt ct) Lt (lt.map Value.string) from by have h:=hC0.plat.row t _ HTT.out;simp only at h;rw[HLT2.out] at h;exact h)
      have HWS:=zh (show WM.heap.size≤w14.drew.heap.size from hC0.hot.size)
      clear hC0 hS0
      refine region_tail (S:=(fun w'=>w'.cell? ⟨gX,0,none⟩=some (.slice (some ⟨gv,0,none⟩) ND cw)∧w'.cell? ⟨gv,d,none⟩=some (.slice (some ⟨gi,0,none⟩) Ld cd)∧w'.cell? ⟨gv,t,none⟩=some (.slice At Lt ct)∧w'.cell? ⟨gi,i,none⟩=some (.string X))) [19] (by kernel_rfl) HS0.out (fun hHeld=>?_)
      refine tk 0 75 ?_
      refine tk 1 76 ?_
      refine tk 2 77 ?_
      refine tk 3 78 ?_
      refine tk 4 79 ?_
      refine tk 5 80 ?_
      refine tk 6 81 ?_
      refine tk 7 82 ?_
      refine tk 8 83 ?_
      refine tk 9 84 ?_
      refine tk 10 85 ?_
      refine tk 11 86 ?_
      refine tk 12 87 ?_
      refine tk 13 88 ?_
      refine tk 14 89 ?_
      refine tk 15 90 ?_
      refine readyT (rs:=[16]) (by kernel_rfl) (by simp) ?_
      refine AllReadyT.cons rfl (fun K hK=>?_) ?_
      ·go_simp
       have hE5:=HED.out.drew.alloc (.cells #[.string X] 9)
       have hC5:=hE5.toCpT
       have hS5:(w14.drew.alloc (.cells #[.string X] 9)).cell? ⟨gX,0,none⟩=some (.slice (some ⟨gv,0,none⟩) ND cw)∧(w14.drew.alloc (.cells #[.string X] 9)).cell? ⟨gv,d,none⟩=some (.slice (some ⟨gi,0,none⟩) Ld cd)∧(w14.drew.alloc (.cells #[.string X] 9)).cell? ⟨gv,t,none⟩=some (.slice At Lt ct)∧(w14.drew.alloc (.cells #[.string X] 9)).cell? ⟨gi,i,none⟩=some (.string X):=⟨(hC5).cells.1,((hC5).look HLN.out HDD.out HLD.out HXI.out).1,((hC5).drive HLN.out HTT.out).1,((hC5).look HLN.out HDD.out HLD.out HXI.out).2.2.1⟩
       refine hK.out _ _ ?_ (fun hHeld=>?_)
       ·assumption
       clear hK K
       (try simp only[Act.put,z1,z2,z3])
       refine readyT (rs:=[17]) (by kernel_rfl) (by simp) ?_
       refine AllReadyT.cons rfl (fun K hK=>?_) ?_
       ·refine step_app_both X (.tmp 82) (.tmp 91) rfl rfl WM.heap.size (.slice At Lt ct) Lt (lt.map Value.string) (by rfl) HROW.out w14.heap.size (by rfl) rfl (by have:=HLTB.out;omega) HWS.out ?_
        intro v6 w6 ho6 hg6 hold6 hat6
        obtain⟨A6,c6,rfl⟩:=own_form ho6
        have hC6:=hC5.after HTT.out hg6 (by simp only;rw[HLT2.out];exact hold6)
        have hS6:w6.cell? ⟨gX,0,none⟩=some (.slice (some ⟨gv,0,none⟩) ND cw)∧w6.cell? ⟨gv,d,none⟩=some (.slice (some ⟨gi,0,none⟩) Ld cd)∧w6.cell? ⟨gv,t,none⟩=some (.slice At Lt ct)∧w6.cell? ⟨gi,i,none⟩=some (.string X):=⟨(hC6).cells.1,((hC6).look HLN.out HDD.out HLD.out HXI.out).1,((hC6).drive HLN.out HTT.out).1,((hC6).look HLN.out HDD.out HLD.out HXI.out).2.2.1⟩
        have m1:=(hC6.drive HLN.out HTT.out).2
        refine hK.out _ _ ?_ (fun hHeld=>?_)
        ·assumption
        clear hK K
        (try simp only[Act.put,z1,z2,z3])
        refine tk 18 93 ?_
        refine readyT (rs:=[19]) (by kernel_rfl) (by simp) ?_
        refine AllReadyT.consT rfl rfl (fun K hK=>?_) ?_
        ·go_simp
         refine hK.out _ _ ?_
         clear hK K
         (try simp only[Act.put,z1,z2,z3])
         refine doneT (by kernel_rfl) ?_ _
         obtain⟨w17,hw17⟩:=zx (w6.setCell ⟨gv,t,none⟩ (.slice A6 (Lt+1) c6):World)
         have HE17:=zh (show EdT gT vt xs WM gX w17 J (.slice (some ⟨gv,0,none⟩) ND cw) vo va (rs.set t (.slice A6 (Lt+1) c6,lt++[X])) on acks from by
          rw[hw17]
          refine EdT.putP HLN.out.symm hE5 HTT.out hg6 (by rw[List.length_append,HLT2.out,List.map_append];exact ho6) (fun b e=>?_) (fun s hs=>?_)
          ·rcases hat6 with h | h
           ·left;rw[←h];exact e
           ·right
            rw[h] at e
            injection e with e
            have hd:w14.drew.heap.size=w14.heap.size:=rfl
            rw[size_al]
            omega
          ·rcases List.mem_append.1 hs with h | h
           ·exact hC5.plat.size t _ HTT.out s h
           ·rw[List.mem_singleton.1 h];exact hC5.plat.size d _ HDD.out X (List.mem_of_getElem? HXI.out))
         rw[←hw17]
         clear hHeld hE5 hC5 hS5 hC6 hS6 m1 ho6 hg6 hold6 hat6 HS0 HROW HWS hw17
         clear f0 f1 f2 f3 f4
         go_wp2_with fail
         go_roundg (k - 1)
         case measure=>have:=HKI.out.1;omega
         case rel=>exact⟨k - 1,J,_,on,acks,by have:=HKI.out;go_num,by omega,by have:=HKI.out;omega,by have:=HKI.out;(try have:=HJ.out);omega,(by rw[←HVO.out,←HVA.out];exact HE17.out),⟨by rw[List.length_set];exact HBN.out.1,HBN.out.2.1,HBN.out.2.2.1,fun j x hx=>by
           have:=HKI.out
           rcases getSome_set hx with ⟨rfl,rfl⟩ | ⟨_,h2⟩
           ·have h3:=HBN.out.2.2.2.1 t _ HTT.out
            simp only[List.length_append,List.length_singleton] at h3 ⊢
            omega
           ·have:=HBN.out.2.2.2.1 j x h2
            omega,HBN.out.2.2.2.2⟩⟩
        exact AllReadyT.nil
       exact AllReadyT.nil
      exact AllReadyT.nil
     ·-- K2{
      have f0:((s5:Int)==0)=false:=by rw[h5];rfl
      have f1:((s5:Int)==1)=false:=by rw[h5];rfl
      have f2:((s5:Int)==2)=true:=by rw[h5];rfl
      have f3:((s5:Int)==3)=false:=by rw[h5];rfl
      have f4:((s5:Int)==4)=false:=by rw[h5];rfl
      clear h5
      go_upto_region 19 with fail
      have hC0:=HED.out.drew.toCpT
      have hS0:w14.drew.cell? ⟨gX,0,none⟩=some (.slice (some ⟨gv,0,none⟩) ND cw)∧w14.drew.cell? ⟨gv,d,none⟩=some (.slice (some ⟨gi,0,none⟩) Ld cd)∧w14.drew.cell? ⟨gv,t,none⟩=some (.slice At Lt ct)∧w14.drew.cell? ⟨gi,i,none⟩=some (.string X):=⟨(hC0).cells.1,((hC0).look HLN.out HDD.out HLD.out HXI.out).1,((hC0).drive HLN.out HTT.out).1,((hC0).look HLN.out HDD.out HLD.out HXI.out).2.2.1⟩
      have HS0:=zh hS0
      have HROW:=zh (show w14.drew.ownsRow WM.heap.size 9 1 (.slice At Lt ct) Lt (lt.map Value.string) from by have h:=hC0.plat.row t _ HTT.out;simp only at h;rw[HLT2.out] at h;exact h)
      have HWS:=zh (show WM.heap.size≤w14.drew.heap.size from hC0.hot.size)
      clear hC0 hS0
      refine region_tail (S:=(fun w'=>w'.cell? ⟨gX,0,none⟩=some (.slice (some ⟨gv,0,none⟩) ND cw)∧w'.cell? ⟨gv,d,none⟩=some (.slice (some ⟨gi,0,none⟩) Ld cd)∧w'.cell? ⟨gv,t,none⟩=some (.slice At Lt ct)∧w'.cell? ⟨gi,i,none⟩=some (.string X))) [19] (by kernel_rfl) HS0.out (fun hHeld=>?_)
      refine tk 0 96 ?_
      refine tk 1 97 ?_
      refine tk 2 98 ?_
      refine tk 3 99 ?_
      refine tk 4 100 ?_
      refine tk 5 101 ?_
      refine tk 6 102 ?_
      refine tk 7 103 ?_
      refine tk 8 104 ?_
      refine tk 9 105 ?_
      refine tk 10 106 ?_
      refine tk 11 107 ?_
      refine tk 12 108 ?_
      refine tk 13 109 ?_
      refine tk 14 110 ?_
      refine tk 15 111 ?_
      refine readyT (rs:=[16]) (by kernel_rfl) (by simp) ?_
      refine AllReadyT.cons rfl (fun K hK=>?_) ?_
      ·go_simp
       have hE5:=HED.out.drew.alloc (.cells #[.string X] 9)
       have hC5:=hE5.toCpT
       have hS5:(w14.drew.alloc (.cells #[.string X] 9)).cell? ⟨gX,0,none⟩=some (.slice (some ⟨gv,0,none⟩) ND cw)∧(w14.drew.alloc (.cells #[.string X] 9)).cell? ⟨gv,d,none⟩=some (.slice (some ⟨gi,0,none⟩) Ld cd)∧(w14.drew.alloc (.cells #[.string X] 9)).cell? ⟨gv,t,none⟩=some (.slice At Lt ct)∧(w14.drew.alloc (.cells #[.string X] 9)).cell? ⟨gi,i,none⟩=some (.string X):=⟨(hC5).cells.1,((hC5).look HLN.out HDD.out HLD.out HXI.out).1,((hC5).drive HLN.out HTT.out).1,((hC5).look HLN.out HDD.out HLD.out HXI.out).2.2.1⟩
       refine hK.out _ _ ?_ (fun hHeld=>?_)
       ·assumption
       clear hK K
       (try simp only[Act.put,z1,z2,z3])
       refine readyT (rs:=[17]) (by kernel_rfl) (by simp) ?_
       refine AllReadyT.cons rfl (fun K hK=>?_) ?_
       ·refine step_app_both X (.tmp 103) (.tmp 112) rfl rfl WM.heap.size (.slice At Lt ct) Lt (lt.map Value.string) (by rfl) HROW.out w14.heap.size (by rfl) rfl (by have:=HLTB.out;omega) HWS.out ?_
        intro v6 w6 ho6 hg6 hold6 hat6
        obtain⟨A6,c6,rfl⟩:=own_form ho6
        have hC6:=hC5.after HTT.out hg6 (by simp only;rw[HLT2.out];exact hold6)
        have hS6:w6.cell? ⟨gX,0,none⟩=some (.slice (some ⟨gv,0,none⟩) ND cw)∧w6.cell? ⟨gv,d,none⟩=some (.slice (some ⟨gi,0,none⟩) Ld cd)∧w6.cell? ⟨gv,t,none⟩=some (.slice At Lt ct)∧w6.cell? ⟨gi,i,none⟩=some (.string X):=⟨(hC6).cells.1,((hC6).look HLN.out HDD.out HLD.out HXI.out).1,((hC6).drive HLN.out HTT.out).1,((hC6).look HLN.out HDD.out HLD.out HXI.out).2.2.1⟩
        have m1:=(hC6.drive HLN.out HTT.out).2
        refine hK.out _ _ ?_ (fun hHeld=>?_)
        ·assumption
        clear hK K
        (try simp only[Act.put,z1,z2,z3])
        refine tk 18 114 ?_
        refine readyT (rs:=[19]) (by kernel_rfl) (by simp) ?_
        refine AllReadyT.consT rfl rfl (fun K hK=>?_) ?_
        ·go_simp
         refine hK.out _ _ ?_
         clear hK K
         (try simp only[Act.put,z1,z2,z3])
         refine doneT (by kernel_rfl) ?_ _
         obtain⟨w19,hw19⟩:=zx (w6.setCell ⟨gv,t,none⟩ (.slice A6 (Lt+1) c6):World)
         have HE19:=zh (show EdT gT vt xs WM gX w19 J (.slice (some ⟨gv,0,none⟩) ND cw) vo va (rs.set t (.slice A6 (Lt+1) c6,lt++[X])) on acks from by
          rw[hw19]
          refine EdT.putP HLN.out.symm hE5 HTT.out hg6 (by rw[List.length_append,HLT2.out,List.map_append];exact ho6) (fun b e=>?_) (fun s hs=>?_)
          ·rcases hat6 with h | h
           ·left;rw[←h];exact e
           ·right
            rw[h] at e
            injection e with e
            have hd:w14.drew.heap.size=w14.heap.size:=rfl
            rw[size_al]
            omega
          ·rcases List.mem_append.1 hs with h | h
           ·exact hC5.plat.size t _ HTT.out s h
           ·rw[List.mem_singleton.1 h];exact hC5.plat.size d _ HDD.out X (List.mem_of_getElem? HXI.out))
         rw[←hw19]
         clear hHeld hE5 hC5 hS5 hC6 hS6 m1 ho6 hg6 hold6 hat6 HS0 HROW HWS hw19
         obtain⟨rs2,hrs2⟩:=zx (rs.set t (Value.slice A6 (Lt+1) c6,lt++[X]))
         have HED2:=HE19
         rw[←hrs2] at HED2
         have HLN2:=zh (show rs2.length=ND from by rw[hrs2,List.length_set];exact HLN.out)
         have HBN2:=zh (show ∀(j:Nat) (x:Value×List ByteArray),rs2[j]?=some x→x.2.length+(k - 1)≤507 from fun j x hx=>by
          have:=HKI.out
          rw[hrs2] at hx
          rcases getSome_set hx with ⟨rfl,rfl⟩ | ⟨_,h2⟩
          ·have h3:=HBN.out.2.2.2.1 t _ HTT.out
           simp only[List.length_append,List.length_singleton] at h3 ⊢
           omega
          ·have:=HBN.out.2.2.2.1 j x h2
           omega)
         obtain⟨⟨yv,ld2⟩,hy⟩:∃x,rs2[d]?=some x:=⟨_,List.getElem?_eq_getElem (by rw[HLN2.out];exact HB3.out.1)⟩
         have hil:i<ld2.length:=by
          have h1:=HB3.out.2.2
          rw[hrs2] at hy
          rcases getSome_set hy with ⟨e1,e2⟩ | ⟨_,h2⟩
          ·subst e1
           have h3:=HDD.out
           rw[HTT.out] at h3
           injection h3 with h3
           injection h3 with h4 h5
           injection e2 with e3 e4
           rw[e4,List.length_append,h5,HLD.out]
           omega
          ·rw[HDD.out] at h2
           injection h2 with h2
           injection h2 with h3 h4
           rw[←h4,HLD.out]
           exact h1
         obtain⟨gi2,cd2,hA⟩:=own_block (HED2.out.plat.row d _ hy) (by simp only;omega)
         simp only at hA
         subst hA
         obtain⟨Ld2,hLd2⟩:=zx ld2.length
         rw[←hLd2] at hy hil
         have HDD2:=zh hy
         have HLD2:=zh hLd2.symm
         have hX2:∃X2,ld2[i]?=some X2:=⟨_,List.getElem?_eq_getElem (by rw[←hLd2];exact hil)⟩
         obtain⟨X2,hX2⟩:=hX2
         have HXI2:=zh hX2
         have hiI2:(i:Int)<(Ld2:Int):=by omega
         clear hrs2 hy hil hLd2 hX2
         go_upto_region 20 with fail
         have hC0:=HED2.out.drew.toCpT
         have HS0:=zh (show w19.drew.cell? ⟨gX,0,none⟩=some (.slice (some ⟨gv,0,none⟩) ND cw)∧w19.drew.cell? ⟨gv,d,none⟩=some (.slice (some ⟨gi2,0,none⟩) Ld2 cd2) from⟨hC0.cells.1,(hC0.look HLN2.out HDD2.out HLD2.out HXI2.out).1⟩)
         clear hC0
         refine region_tail (S:=(fun w'=>w'.cell? ⟨gX,0,none⟩=some (.slice (some ⟨gv,0,none⟩) ND cw)∧w'.cell? ⟨gv,d,none⟩=some (.slice (some ⟨gi2,0,none⟩) Ld2 cd2))) [8] (by kernel_rfl) HS0.out (fun hHeld=>?_)
         refine tk 0 115 ?_
         refine tk 1 116 ?_
         refine tk 2 117 ?_
         refine tk 3 118 ?_
         refine tk 4 119 ?_
         refine tk 5 120 ?_
         refine readyT (rs:=[6]) (by kernel_rfl) (by simp) ?_
         refine AllReadyT.cons rfl (fun K hK=>?_) ?_
         ·go_simp
          (go_at_call 19;refine(HBL.out _).mono ?_;rintro e w7 ⟨rfl,hb7⟩)
          go_wp2_with fail
          have hE7:=HED2.out.drew.below hb7
          have hC7:=hE7.toCpT
          have hS7:w7.cell? ⟨gX,0,none⟩=some (.slice (some ⟨gv,0,none⟩) ND cw)∧w7.cell? ⟨gv,d,none⟩=some (.slice (some ⟨gi2,0,none⟩) Ld2 cd2):=⟨hC7.cells.1,(hC7.look HLN2.out HDD2.out HLD2.out HXI2.out).1⟩
          obtain⟨-,-,m0,m1⟩:=hC7.look HLN2.out HDD2.out HLD2.out HXI2.out
          refine hK.out _ _ ?_ (fun hHeld=>?_)
          ·assumption
          clear hK K
          (try simp only[Act.put,z1,z2,z3])
          refine tk 7 122 ?_
          refine readyT (rs:=[8]) (by kernel_rfl) (by simp) ?_
          refine AllReadyT.consT rfl rfl (fun K hK=>?_) ?_
          ·go_simp
           refine hK.out _ _ ?_
           clear hK K
           (try simp only[Act.put,z1,z2,z3])
           refine doneT (by kernel_rfl) ?_ _
           obtain⟨w20,hw20⟩:=zx (w7.setCell ⟨gi2,i,none⟩ (.string XB):World)
           have HE20:=zh (show EdT gT vt xs WM gX w20 J (.slice (some ⟨gv,0,none⟩) ND cw) vo va (rs2.set d (.slice (some ⟨gi2,0,none⟩) Ld2 cd2,ld2.set i XB)) on acks from by rw[hw20];exact EdT.setS hE7 HDD2.out XB HXB.out)
           rw[←hw20]
           clear hHeld hb7 hE7 hC7 hS7 m0 m1 HS0 hw20
           clear f0 f1 f2 f3 f4
           go_wp2_with fail
           go_roundg (k - 1)
           case measure=>have:=HKI.out.1;omega
           case rel=>exact⟨k - 1,J,_,on,acks,by have:=HKI.out;go_num,by omega,by have:=HKI.out;omega,by have:=HKI.out;(try have:=HJ.out);omega,(by rw[←HVO.out,←HVA.out];exact HE20.out),⟨by rw[List.length_set];exact HLN2.out,HBN.out.2.1,HBN.out.2.2.1,fun j x hx=>by
             have:=HKI.out
             rcases getSome_set hx with ⟨rfl,rfl⟩ | ⟨_,h2⟩
             ·have h3:=HBN2.out d _ HDD2.out
              simp only[List.length_set] at h3 ⊢
              omega
             ·exact HBN2.out j x h2,HBN.out.2.2.2.2⟩⟩
          exact AllReadyT.nil
         exact AllReadyT.nil
        exact AllReadyT.nil
       exact AllReadyT.nil
      exact AllReadyT.nil
     ·-- K3{
      have f0:((s5:Int)==0)=false:=by rw[h5];rfl
      have f1:((s5:Int)==1)=false:=by rw[h5];rfl
      have f2:((s5:Int)==2)=false:=by rw[h5];rfl
      have f3:((s5:Int)==3)=true:=by rw[h5];rfl
      have f4:((s5:Int)==4)=false:=by rw[h5];rfl
      clear h5
      go_upto_region 22 with fail
      have HED3:=HED
      rw[HVA.out] at HED3
      have hC0:=HED3.out.drew.toCpT
      have HS0:=zh (show w14.drew.cell? ⟨gX,2,none⟩=some (.slice (some ⟨ga,0,none⟩) NA ca')∧∀(j:Nat) (a:Ac),acks[j]?=some a→w14.drew.cell? ⟨ga,j * 4+2,none⟩=some (.int .i64 a.ver) from⟨(hC0).cells.2.2.1,fun j a hj=>((hC0).ack HBN.out.2.2.1 hj).1⟩)
      clear hC0
      have HAC2:=zh HBN.out.2.2.2.2
      refine region_tail (S:=(fun w'=>w'.cell? ⟨gX,2,none⟩=some (.slice (some ⟨ga,0,none⟩) NA ca')∧∀(j:Nat) (a:Ac),acks[j]?=some a→w'.cell? ⟨ga,j * 4+2,none⟩=some (.int .i64 a.ver))) [15] (by kernel_rfl) HS0.out (fun hHeld=>?_)
      refine tk 0 125 ?_
      refine tk 1 126 ?_
      refine tk 2 127 ?_
      refine tk 3 128 ?_
      refine tk 4 129 ?_
      refine tk 5 130 ?_
      refine tk 10 135 ?_
      refine readyT (rs:=[6]) (by kernel_rfl) (by simp) ?_
      refine AllReadyT.cons rfl (fun K hK=>?_) ?_
      ·go_simp
       (go_at_call 18;refine(HED3.out.drew.next_any (by have:=HJ.out;have:=HKI.out;omega) NA HN1.out.2.1 HN1.out.2.2 _ rfl).mono ?_;rintro e w21 ⟨q,rfl,hqN,hE21,-⟩)
       go_wp2_with fail
       have hC21:=hE21.toCpT
       have hS21:w21.cell? ⟨gX,2,none⟩=some (.slice (some ⟨ga,0,none⟩) NA ca')∧∀(j:Nat) (a:Ac),acks[j]?=some a→w21.cell? ⟨ga,j * 4+2,none⟩=some (.int .i64 a.ver):=⟨(hC21).cells.2.2.1,fun j a hj=>((hC21).ack HBN.out.2.2.1 hj).1⟩
       obtain⟨aq,haq⟩:∃a,acks[q]?=some a:=⟨_,List.getElem?_eq_getElem (by rw[HBN.out.2.2.1];exact hqN)⟩
       have hqI:(q:Int)<(NA:Int):=by omega
       refine hK.out _ _ ?_ (fun hHeld=>?_)
       ·assumption
       clear hK K
       (try simp only[Act.put,z1,z2,z3])
       refine tk 7 132 ?_
       refine tk 8 133 ?_
       refine takeT (i:=9) (d:=134) (v:=?_) rfl rfl (by kernel_rfl) (by kernel_rfl) (by kernel_rfl) (by kernel_rfl) (fun _ _ _ h=>h) (Or.inl ⟨by rfl,?_⟩) (by assumption) ?_
       rotate_left
       ·(intro w hSw;(try dsimp only at hSw);have hq9:=hSw.2 q aq haq;go_simp;first | done | with_reducible rfl)
       (try simp only[Act.put,z1,z2,z3])
       refine readyT (rs:=[11]) (by kernel_rfl) (by simp) ?_
       refine AllReadyT.cons rfl (fun K hK=>?_) ?_
       ·go_simp
        (go_at_call 18;refine(hE21.next_any (by have:=HJ.out;have:=HKI.out;omega) 2 (by omega) (by omega) _ rfl).mono ?_;rintro e w22 ⟨q2,rfl,hq2,hE22,-⟩)
        go_wp2_with fail
        have hC22:=hE22.toCpT
        have hS22:w22.cell? ⟨gX,2,none⟩=some (.slice (some ⟨ga,0,none⟩) NA ca')∧∀(j:Nat) (a:Ac),acks[j]?=some a→w22.cell? ⟨ga,j * 4+2,none⟩=some (.int .i64 a.ver):=⟨(hC22).cells.2.2.1,fun j a hj=>((hC22).ack HBN.out.2.2.1 hj).1⟩
        obtain⟨m0,m1⟩:=hC22.ack HBN.out.2.2.1 haq
        refine hK.out _ _ ?_ (fun hHeld=>?_)
        ·assumption
        clear hK K
        (try simp only[Act.put,z1,z2,z3])
        refine tk 12 137 ?_
        refine tk 13 138 ?_
        refine tk 14 139 ?_
        refine readyT (rs:=[15]) (by kernel_rfl) (by simp) ?_
        refine AllReadyT.consT rfl rfl (fun K hK=>?_) ?_
        ·go_simp
         refine hK.out _ _ ?_
         clear hK K
         (try simp only[Act.put,z1,z2,z3])
         refine doneT (by kernel_rfl) ?_ _
         have HE30:=zh (show EdT gT vt xs WM gX (w22.setCell ⟨ga,q * 4+2,none⟩ (.int .i64 (IntKind.i64.wrap (aq.ver+(q2:Int))))) (J+1+1) (.slice (some ⟨gv,0,none⟩) ND cw) vo (.slice (some ⟨ga,0,none⟩) NA ca') rs on (acks.set q { aq with ver:=IntKind.i64.wrap (aq.ver+(q2:Int)) }) from EdT.setV HBN.out.2.2.1.symm hE22 haq)
         obtain⟨w30,hw30⟩:=zx (w22.setCell ⟨ga,q * 4+2,none⟩ (.int .i64 (IntKind.i64.wrap (aq.ver+(q2:Int)))):World)
         rw[←hw30] at HE30 ⊢
         have HAQ:=zh (HAC2.out aq (List.mem_of_getElem? haq))
         clear hHeld hw30 hE21 hE22 hC21 hC22 hS21 hS22 haq m0 m1
         clear f0 f1 f2 f3 f4
         go_wp2_with fail
         go_roundg (k - 1)
         case measure=>have:=HKI.out.1;omega
         case rel=>exact⟨k - 1,J+1+1,rs,on,acks.set q { aq with ver:=IntKind.i64.wrap (aq.ver+(q2:Int)) },by have:=HKI.out;go_num,by omega,by have:=HKI.out;omega,by have:=HKI.out;(try have:=HJ.out);omega,(by rw[←HVO.out];exact HE30.out),⟨HBN.out.1,HBN.out.2.1,by rw[List.length_set];exact HBN.out.2.2.1,fun j x hx=>by have:=HBN.out.2.2.2.1 j x hx;have:=HKI.out;omega,set_len (P:=fun(a:Ac)=>I64 a.vol∧I64 a.stripe∧I64 a.ver∧I64 a.side) HAC2.out ⟨HAQ.out.1,HAQ.out.2.1,wrap_i _,HAQ.out.2.2.2⟩⟩⟩
        exact AllReadyT.nil
       exact AllReadyT.nil
      exact AllReadyT.nil
     ·-- K4{
      have f0:((s5:Int)==0)=false:=by rw[h5];rfl
      have f1:((s5:Int)==1)=false:=by rw[h5];rfl
      have f2:((s5:Int)==2)=false:=by rw[h5];rfl
      have f3:((s5:Int)==3)=false:=by rw[h5];rfl
      have f4:((s5:Int)==4)=true:=by rw[h5];rfl
      clear h5
      go_upto_region 24 with fail
      have HUP:=zh (show ∃b0,on[d]?=some b0 from⟨_,List.getElem?_eq_getElem (by rw[HBN.out.2.1];exact HB3.out.1)⟩)
      obtain⟨b0,hb0⟩:=HUP.out
      have hC0:CpT WM gX w14.drew (.slice (some ⟨gv,0,none⟩) ND cw) (.slice (some ⟨go,0,none⟩) ND co') va rs on acks:=by have h:=HED.out.drew.toCpT;rw[HVO.out] at h;exact h
      obtain⟨-,c1,-,-,-⟩:=hC0.cells
      obtain⟨u0,u1⟩:=hC0.up HBN.out.2.1 hb0
      have HB0:=zh hb0
      have HS0:=zh (show w14.drew.cell? ⟨gX,1,none⟩=some (.slice (some ⟨go,0,none⟩) ND co')∧w14.drew.cell? ⟨go,d,none⟩=some (.bool b0) from⟨c1,u0⟩)
      clear hC0 c1 u0 hb0 HUP
      refine region_tail (S:=(fun w'=>w'.cell? ⟨gX,1,none⟩=some (.slice (some ⟨go,0,none⟩) ND co')∧w'.cell? ⟨go,d,none⟩=some (.bool b0))) [10] (by kernel_rfl) HS0.out (fun hHeld=>?_)
      refine tk 0 142 ?_
      refine tk 1 143 ?_
      refine tk 2 144 ?_
      refine tk 3 145 ?_
      refine tk 4 146 ?_
      refine tk 5 147 ?_
      refine tk 6 148 ?_
      refine tk 7 149 ?_
      refine tk 8 150 ?_
      refine tk 9 151 ?_
      refine readyT (rs:=[10]) (by kernel_rfl) (by simp) ?_
      refine AllReadyT.consT rfl rfl (fun K hK=>?_) ?_
      ·go_simp
       refine hK.out _ _ ?_
       clear hK K
       (try simp only[Act.put,z1,z2,z3])
       refine doneT (by kernel_rfl) ?_ _
       have HE31:=zh (show EdT gT vt xs WM gX (w14.setCell ⟨go,d,none⟩ (.bool !b0)).drew J (.slice (some ⟨gv,0,none⟩) ND cw) (.slice (some ⟨go,0,none⟩) ND co') va rs (on.set d (!b0)) acks from by
        have h:=HED.out
        rw[HVO.out] at h
        exact(EdT.setO HBN.out.2.1.symm h).drew)
       obtain⟨w31,hw31⟩:=zx ((w14.setCell ⟨go,d,none⟩ (.bool !b0)).drew:World)
       rw[←hw31] at HE31 ⊢
       clear hHeld u1 hw31
       clear f0 f1 f2 f3 f4
       go_wp2_with fail
       go_roundg (k - 1)
       case measure=>have:=HKI.out.1;omega
       case rel=>exact⟨k - 1,J,rs,_,acks,by have:=HKI.out;go_num,by omega,by have:=HKI.out;omega,by have:=HKI.out;(try have:=HJ.out);omega,(by rw[←HVA.out];exact HE31.out),⟨HBN.out.1,by rw[List.length_set];exact HBN.out.2.1,HBN.out.2.2.1,fun j x hx=>by have:=HBN.out.2.2.2.1 j x hx;have:=HKI.out;omega,HBN.out.2.2.2.2⟩⟩
      exact AllReadyT.nil
   ·-- L2{
    obtain rfl:k=0:=by omega
    clear hk hk7
    obtain⟨x,hxx⟩:∃q:Re,q=⟨rs.map (·.2),on,acks⟩:=⟨_,rfl⟩
    have hrx:ReS wr (Bl wr.heap.size) (.slice (some ⟨gv,0,none⟩) ND cw) (.slice (some ⟨go,0,none⟩) ND co') (.slice (some ⟨ga,0,none⟩) NA ca') x:=by rw[hxx];exact(HED.out.reS HBN.out.2.2.2.2).mono Fr.bl
    have hxp:x.plat.length≤1000:=by rw[hxx];simp only[List.length_map];have:=HBN.out.1;have:=HN1.out.1.2;omega
    have hxl:∀l∈x.plat,l.length≤1000:=fun l hl=>by
     rw[hxx] at hl
     obtain⟨y,hy,rfl⟩:=List.mem_map.1 hl
     obtain⟨j,hj⟩:=List.getElem?_of_mem hy
     have:=HBN.out.2.2.2.1 j y hj
     omega
    have hxa:x.acks.length≤1000000:=by rw[hxx];have:=HBN.out.2.2.1;have:=HN1.out.2.2;simp only;omega
    have hb:=HED.out.hot
    have hrr:=HM4.out.below hb
    have hp9:r.plat.length≤1000:=by have:=HPL.out;omega
    have hEX:=HEX.out
    have hfs:=HFS.out.below hb
    obtain⟨B1,hB1⟩:=zx (harmB F r x F.ext.toNat F.vols.length)
    obtain⟨B2,hB2⟩:=zx (harmB F x r F.ext.toNat F.vols.length)
    have HP1:=zh (fun W (hb:Below wr.heap.size wr W)=>harmless_any 2 (by omega) fl fm fd fv fp (.slice A6 n6 c6x) zp zo za (.slice (some ⟨gv,0,none⟩) ND cw) (.slice (some ⟨go,0,none⟩) ND co') (.slice (some ⟨ga,0,none⟩) NA ca') F r x W (hfs.below hb) HOK.out (hrr.below hb) hp9 HLEN.out HAK.out (hrx.below hb) hxp hxl hxa)
    have HP2:=zh (fun W (hb:Below wr.heap.size wr W)=>rharmless_any 2 (by omega) fl fm fd fv fp (.slice A6 n6 c6x) zp zo za (.slice (some ⟨gv,0,none⟩) ND cw) (.slice (some ⟨go,0,none⟩) ND co') (.slice (some ⟨ga,0,none⟩) NA ca') F r x W (hfs.below hb) HOK.out (hrr.below hb) hp9 HLEN.out (hrx.below hb) hxp hxl)
    have HP3:=zh (fun W (hb:Below wr.heap.size wr W)=>harmless_any 2 (by omega) fl fm fd fv fp (.slice A6 n6 c6x) (.slice (some ⟨gv,0,none⟩) ND cw) (.slice (some ⟨go,0,none⟩) ND co') (.slice (some ⟨ga,0,none⟩) NA ca') zp zo za F x r W (hfs.below hb) HOK.out (hrx.below hb) hxp hxl hxa (hrr.below hb) hp9 HLEN.out HAK.out)
    have HP4:=zh (fun W (hb:Below wr.heap.size wr W)=>rharmless_any 2 (by omega) fl fm fd fv fp (.slice A6 n6 c6x) (.slice (some ⟨gv,0,none⟩) ND cw) (.slice (some ⟨go,0,none⟩) ND co') (.slice (some ⟨ga,0,none⟩) NA ca') zp zo za F x r W (hfs.below hb) HOK.out (hrx.below hb) hxp hxl (hrr.below hb) hp9 HLEN.out)
    have HP5:=zh (fun W (hb:Below wr.heap.size wr W)=>harmless_any 2 (by omega) fl fm fd fv fp (.slice A6 n6 c6x) zp zo za zp zo za F r r W (hfs.below hb) HOK.out (hrr.below hb) hp9 HLEN.out HAK.out (hrr.below hb) hp9 HLEN.out HAK.out)
    have HP6:=zh (fun W (hb:Below wr.heap.size wr W)=>harmless_empty zp zo za (.slice (some ⟨gv,0,none⟩) ND cw) (.slice (some ⟨go,0,none⟩) ND co') (.slice (some ⟨ga,0,none⟩) NA ca') W)
    rw[←hB1] at HP1 HP2
    rw[←hB2] at HP3 HP4
    rw[harm_self] at HP5
    rw[←hEX] at HP1 HP2 HP3 HP4 HP5
    obtain⟨⟨c0,c1,c2,c3,c4,c5,c6⟩,z0,z1,z2⟩:=HC.out wr.drew hb.drew
    obtain⟨x0,x1,x2,-,hXl⟩:=HED.out.drew.cells
    have HQ4:=zh (show g<wr.heap.size∧p<wr.heap.size∧gX<wr.heap.size from⟨Nat.lt_of_lt_of_le HGP.out.1 hb.size,Nat.lt_of_lt_of_le HGP.out.2 hb.size,hXl⟩)
    have HS4:=zh (show HeldL wr g p gX (.int .i64 EX) fl fm fd fv fp (.slice A6 n6 c6x) zp zo za (.slice (some ⟨gv,0,none⟩) ND cw) (.slice (some ⟨go,0,none⟩) ND co') (.slice (some ⟨ga,0,none⟩) NA ca') wr.drew from⟨c0,c1,c2,c3,c4,c5,c6,z0,z1,z2,x0,x1,x2,(Below.refl _ _).drew⟩)
    have HBW:=zh (HBM.out.trans (hb.mono HBM.out.size))
    clear hxx hrx hxp hxl hxa hb hrr hp9 hEX hfs hB1 hB2 c0 c1 c2 c3 c4 c5 c6 z0 z1 z2 x0 x1 x2 hXl HED
    go_upto_region 25 with fail
    refine region_tail (S:=(fun w'=>w'.cell? ⟨g,0,none⟩=some (.int .i64 EX)∧w'.cell? ⟨g,1,none⟩=some fl∧w'.cell? ⟨g,2,none⟩=some fm∧w'.cell? ⟨g,3,none⟩=some fd∧w'.cell? ⟨g,4,none⟩=some fv∧w'.cell? ⟨g,5,none⟩=some fp∧w'.cell? ⟨g,6,none⟩=some (.slice A6 n6 c6x)∧w'.cell? ⟨p,0,none⟩=some zp∧w'.cell? ⟨p,1,none⟩=some zo∧w'.cell? ⟨p,2,none⟩=some za∧w'.cell? ⟨gX,0,none⟩=some (.slice (some ⟨gv,0,none⟩) ND cw)∧w'.cell? ⟨gX,1,none⟩=some (.slice (some ⟨go,0,none⟩) ND co')∧w'.cell? ⟨gX,2,none⟩=some (.slice (some ⟨ga,0,none⟩) NA ca')∧Below wr.heap.size wr w')) [] (by kernel_rfl) HS4.out (fun hHeld=>?_)
    refine readyT (rs:=[0]) (by kernel_rfl) (by simp) ?_
    refine AllReadyT.cons rfl (fun K hK=>?_) ?_
    ·go_simp
     (go_at_call 10;refine(HAW.out _).mono ?_;rintro e w50 ⟨rfl,hb50⟩)
     go_wp2_with fail
     refine hK.out _ _ ?_ (fun hHeld=>?_)
     ·(first|exact HeldL.below (by assumption) hb83 HQ4.out.1 HQ4.out.2.1 HQ4.out.2.2|exact HeldL.below (by assumption) hb77 HQ4.out.1 HQ4.out.2.1 HQ4.out.2.2|exact HeldL.below (by assumption) hb70 HQ4.out.1 HQ4.out.2.1 HQ4.out.2.2|exact HeldL.below (by assumption) hb66 HQ4.out.1 HQ4.out.2.1 HQ4.out.2.2|exact HeldL.below (by assumption) hb59 HQ4.out.1 HQ4.out.2.1 HQ4.out.2.2|exact HeldL.below (by assumption) hb55 HQ4.out.1 HQ4.out.2.1 HQ4.out.2.2|exact HeldL.below (by assumption) hb50 HQ4.out.1 HQ4.out.2.1 HQ4.out.2.2)
     clear hK K
     (try simp only[Act.put,z1,z2,z3])
     refine tk 1 153 ?_
     refine tk 2 154 ?_
     refine tk 3 155 ?_
     refine tk 4 156 ?_
     refine tk 6 158 ?_
     refine tk 7 159 ?_
     refine tk 8 160 ?_
     refine readyT (rs:=[5]) (by kernel_rfl) (by simp) ?_
     refine AllReadyT.cons rfl (fun K hK=>?_) ?_
     ·go_simp
      (go_at_call 20;refine(HP1.out _ (HeldL.bl (by assumption))).mono ?_;rintro e w55 ⟨rfl,hb55⟩)
      go_wp2_with fail
      refine hK.out _ _ ?_ (fun hHeld=>?_)
      ·(first|exact HeldL.below (by assumption) hb83 HQ4.out.1 HQ4.out.2.1 HQ4.out.2.2|exact HeldL.below (by assumption) hb77 HQ4.out.1 HQ4.out.2.1 HQ4.out.2.2|exact HeldL.below (by assumption) hb70 HQ4.out.1 HQ4.out.2.1 HQ4.out.2.2|exact HeldL.below (by assumption) hb66 HQ4.out.1 HQ4.out.2.1 HQ4.out.2.2|exact HeldL.below (by assumption) hb59 HQ4.out.1 HQ4.out.2.1 HQ4.out.2.2|exact HeldL.below (by assumption) hb55 HQ4.out.1 HQ4.out.2.1 HQ4.out.2.2|exact HeldL.below (by assumption) hb50 HQ4.out.1 HQ4.out.2.1 HQ4.out.2.2)
      clear hK K
      (try simp only[Act.put,z1,z2,z3])
      refine readyT (rs:=[9]) (by kernel_rfl) (by simp) ?_
      refine AllReadyT.cons rfl (fun K hK=>?_) ?_
      ·go_simp
       (go_at_call 21;refine(HP2.out _ (HeldL.bl (by assumption))).mono ?_;rintro e w59 ⟨rfl,hb59⟩)
       go_wp2_with fail
       refine hK.out _ _ ?_ (fun hHeld=>?_)
       ·(first|exact HeldL.below (by assumption) hb83 HQ4.out.1 HQ4.out.2.1 HQ4.out.2.2|exact HeldL.below (by assumption) hb77 HQ4.out.1 HQ4.out.2.1 HQ4.out.2.2|exact HeldL.below (by assumption) hb70 HQ4.out.1 HQ4.out.2.1 HQ4.out.2.2|exact HeldL.below (by assumption) hb66 HQ4.out.1 HQ4.out.2.1 HQ4.out.2.2|exact HeldL.below (by assumption) hb59 HQ4.out.1 HQ4.out.2.1 HQ4.out.2.2|exact HeldL.below (by assumption) hb55 HQ4.out.1 HQ4.out.2.1 HQ4.out.2.2|exact HeldL.below (by assumption) hb50 HQ4.out.1 HQ4.out.2.1 HQ4.out.2.2)
       clear hK K
       (try simp only[Act.put,z1,z2,z3])
       refine tk 10 162 ?_
       refine tk 11 163 ?_
       refine tk 12 164 ?_
       refine tk 13 165 ?_
       refine tk 14 166 ?_
       refine tk 15 167 ?_
       refine tk 17 169 ?_
       refine tk 18 170 ?_
       refine tk 19 171 ?_
       refine readyT (rs:=[16]) (by kernel_rfl) (by simp) ?_
       refine AllReadyT.cons rfl (fun K hK=>?_) ?_
       ·go_simp
        (go_at_call 20;refine(HP3.out _ (HeldL.bl (by assumption))).mono ?_;rintro e w66 ⟨rfl,hb66⟩)
        go_wp2_with fail
        refine hK.out _ _ ?_ (fun hHeld=>?_)
        ·(first|exact HeldL.below (by assumption) hb83 HQ4.out.1 HQ4.out.2.1 HQ4.out.2.2|exact HeldL.below (by assumption) hb77 HQ4.out.1 HQ4.out.2.1 HQ4.out.2.2|exact HeldL.below (by assumption) hb70 HQ4.out.1 HQ4.out.2.1 HQ4.out.2.2|exact HeldL.below (by assumption) hb66 HQ4.out.1 HQ4.out.2.1 HQ4.out.2.2|exact HeldL.below (by assumption) hb59 HQ4.out.1 HQ4.out.2.1 HQ4.out.2.2|exact HeldL.below (by assumption) hb55 HQ4.out.1 HQ4.out.2.1 HQ4.out.2.2|exact HeldL.below (by assumption) hb50 HQ4.out.1 HQ4.out.2.1 HQ4.out.2.2)
        clear hK K
        (try simp only[Act.put,z1,z2,z3])
        refine readyT (rs:=[20]) (by kernel_rfl) (by simp) ?_
        refine AllReadyT.cons rfl (fun K hK=>?_) ?_
        ·go_simp
         (go_at_call 21;refine(HP4.out _ (HeldL.bl (by assumption))).mono ?_;rintro e w70 ⟨rfl,hb70⟩)
         go_wp2_with fail
         refine hK.out _ _ ?_ (fun hHeld=>?_)
         ·(first|exact HeldL.below (by assumption) hb83 HQ4.out.1 HQ4.out.2.1 HQ4.out.2.2|exact HeldL.below (by assumption) hb77 HQ4.out.1 HQ4.out.2.1 HQ4.out.2.2|exact HeldL.below (by assumption) hb70 HQ4.out.1 HQ4.out.2.1 HQ4.out.2.2|exact HeldL.below (by assumption) hb66 HQ4.out.1 HQ4.out.2.1 HQ4.out.2.2|exact HeldL.below (by assumption) hb59 HQ4.out.1 HQ4.out.2.1 HQ4.out.2.2|exact HeldL.below (by assumption) hb55 HQ4.out.1 HQ4.out.2.1 HQ4.out.2.2|exact HeldL.below (by assumption) hb50 HQ4.out.1 HQ4.out.2.1 HQ4.out.2.2)
         clear hK K
         (try simp only[Act.put,z1,z2,z3])
         refine tk 21 173 ?_
         refine tk 22 174 ?_
         refine tk 23 175 ?_
         refine tk 24 176 ?_
         refine tk 25 177 ?_
         refine tk 26 178 ?_
         refine readyT (rs:=[27]) (by kernel_rfl) (by simp) ?_
         refine AllReadyT.cons rfl (fun K hK=>?_) ?_
         ·go_simp
          (go_at_call 20;refine(HP5.out _ (HeldL.bl (by assumption))).mono ?_;rintro e w77 ⟨rfl,hb77⟩)
          go_wp2_with fail
          refine hK.out _ _ ?_ (fun hHeld=>?_)
          ·(first|exact HeldL.below (by assumption) hb83 HQ4.out.1 HQ4.out.2.1 HQ4.out.2.2|exact HeldL.below (by assumption) hb77 HQ4.out.1 HQ4.out.2.1 HQ4.out.2.2|exact HeldL.below (by assumption) hb70 HQ4.out.1 HQ4.out.2.1 HQ4.out.2.2|exact HeldL.below (by assumption) hb66 HQ4.out.1 HQ4.out.2.1 HQ4.out.2.2|exact HeldL.below (by assumption) hb59 HQ4.out.1 HQ4.out.2.1 HQ4.out.2.2|exact HeldL.below (by assumption) hb55 HQ4.out.1 HQ4.out.2.1 HQ4.out.2.2|exact HeldL.below (by assumption) hb50 HQ4.out.1 HQ4.out.2.1 HQ4.out.2.2)
          clear hK K
          (try simp only[Act.put,z1,z2,z3])
          refine tk 28 180 ?_
          refine tk 29 181 ?_
          refine tk 30 182 ?_
          refine tk 31 183 ?_
          refine tk 32 184 ?_
          refine readyT (rs:=[33]) (by kernel_rfl) (by simp) ?_
          refine AllReadyT.cons rfl (fun K hK=>?_) ?_
          ·go_simp
           (go_at_call 20;refine(HP6.out _ (HeldL.bl (by assumption))).mono ?_;rintro e w83 ⟨rfl,hb83⟩)
           go_wp2_with fail
           refine hK.out _ _ ?_ (fun hHeld=>?_)
           ·(first|exact HeldL.below (by assumption) hb83 HQ4.out.1 HQ4.out.2.1 HQ4.out.2.2|exact HeldL.below (by assumption) hb77 HQ4.out.1 HQ4.out.2.1 HQ4.out.2.2|exact HeldL.below (by assumption) hb70 HQ4.out.1 HQ4.out.2.1 HQ4.out.2.2|exact HeldL.below (by assumption) hb66 HQ4.out.1 HQ4.out.2.1 HQ4.out.2.2|exact HeldL.below (by assumption) hb59 HQ4.out.1 HQ4.out.2.1 HQ4.out.2.2|exact HeldL.below (by assumption) hb55 HQ4.out.1 HQ4.out.2.1 HQ4.out.2.2|exact HeldL.below (by assumption) hb50 HQ4.out.1 HQ4.out.2.1 HQ4.out.2.2)
           clear hK K
           (try simp only[Act.put,z1,z2,z3])
           refine tk 34 186 ?_
           refine tk 35 187 ?_
           refine tk 36 4 ?_
           refine doneT (by kernel_rfl) ?_ _
           have hbz:=HeldL.bl hHeld
           go_wp2_with fail
           go_ret
           exact⟨rfl,HBW.out.trans (hbz.mono HBW.out.size)⟩
          exact AllReadyT.nil
         exact AllReadyT.nil
        exact AllReadyT.nil
       exact AllReadyT.nil
      exact AllReadyT.nil
     exact AllReadyT.nil
    exact AllReadyT.nil
end Go.Proofs.YtmehadfhcdpfcaaGreat
