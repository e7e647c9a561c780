/- The law TruthTransfers, walked. -/
import Derived.Test.YtmehadfhcdpfcaaGreatMg20
import Derived.Test.YtmehadfhcdpfcaaGreatMg10
import Derived.Test.YtmehadfhcdpfcaaGreatMg01
set_option maxRecDepth 100000
set_option maxHeartbeats 12800000
namespace Go.Proofs.YtmehadfhcdpfcaaGreat
open Go.RowKit
set_option linter.unusedVariables false
set_option linter.unusedSimpArgs false
def HeldQ(W0:World) (g gs:Nat) (a b c d e f h p0 o0 e0 p1 o1 e1 p2 o2 e2:Value) (w':World):Prop :=
 w'.cell? ⟨g,0,none⟩=some a∧w'.cell? ⟨g,1,none⟩=some b∧w'.cell? ⟨g,2,none⟩=some c∧w'.cell? ⟨g,3,none⟩=some d∧w'.cell? ⟨g,4,none⟩=some e∧w'.cell? ⟨g,5,none⟩=some f∧w'.cell? ⟨g,6,none⟩=some h ∧
 w'.cell? ⟨gs,0,none⟩=some p0∧w'.cell? ⟨gs,1,none⟩=some o0∧w'.cell? ⟨gs,2,none⟩=some e0∧w'.cell? ⟨gs,3,none⟩=some p1∧w'.cell? ⟨gs,4,none⟩=some o1∧w'.cell? ⟨gs,5,none⟩=some e1∧w'.cell? ⟨gs,6,none⟩=some p2∧w'.cell? ⟨gs,7,none⟩=some o2∧w'.cell? ⟨gs,8,none⟩=some e2∧Below W0.heap.size W0 w'
section
variable {W0 wc w2 : World} {g gs : Nat} {a b c d e f h p0 o0 e0 p1 o1 e1 p2 o2 e2 : Value}
theorem HeldQ.bl(k:HeldQ W0 g gs a b c d e f h p0 o0 e0 p1 o1 e1 p2 o2 e2 wc):Below W0.heap.size W0 wc:=k.2.2.2.2.2.2.2.2.2.2.2.2.2.2.2.2
theorem HeldQ.below(k:HeldQ W0 g gs a b c d e f h p0 o0 e0 p1 o1 e1 p2 o2 e2 wc) (hb:Below wc.heap.size wc w2) (hg:g<W0.heap.size) (hp:gs<W0.heap.size):HeldQ W0 g gs a b c d e f h p0 o0 e0 p1 o1 e1 p2 o2 e2 w2:=by
 have hs:=k.bl.size
 have hB:=k.bl
 obtain⟨c0,c1,c2,c3,c4,c5,c6,d0,d1,d2,d3,d4,d5,d6,d7,d8,-⟩:=k
 have m:∀b,b<W0.heap.size→∀i x,wc.cell? ⟨b,i,none⟩=some x→w2.cell? ⟨b,i,none⟩=some x:=fun b h1 i x hx=>(hb.cell (p:=⟨b,i,none⟩) (Nat.lt_of_lt_of_le h1 hs)).trans hx
 exact⟨m g hg _ _ c0,m g hg _ _ c1,m g hg _ _ c2,m g hg _ _ c3,m g hg _ _ c4,m g hg _ _ c5,m g hg _ _ c6,m gs hp _ _ d0,m gs hp _ _ d1,m gs hp _ _ d2,m gs hp _ _ d3,m gs hp _ _ d4,m gs hp _ _ d5,m gs hp _ _ d6,m gs hp _ _ d7,m gs hp _ _ d8,hB.trans (hb.mono hs)⟩
theorem HeldQ.start(k:HeldQ W0 g gs a b c d e f h p0 o0 e0 p1 o1 e1 p2 o2 e2 wc):HeldQ wc g gs a b c d e f h p0 o0 e0 p1 o1 e1 p2 o2 e2 wc.drew:=by
 obtain⟨c0,c1,c2,c3,c4,c5,c6,d0,d1,d2,d3,d4,d5,d6,d7,d8,-⟩:=k
 exact⟨c0,c1,c2,c3,c4,c5,c6,d0,d1,d2,d3,d4,d5,d6,d7,d8,(Below.refl _ _).drew⟩
end
theorem acks_i64{w:World} {R:Nat→Prop} {v:Value} {l:List Ac} (h:SlS 4 AcK w R v l):∀a∈l,I64 a.vol∧I64 a.stripe∧I64 a.ver∧I64 a.side:=fun a ha=>by
 obtain⟨k,hk,rfl⟩:=List.getElem_of_mem ha
 obtain⟨A,c,rfl,-,-⟩:=h.form
 obtain⟨b,off,cs,-,-,-,-,-,h1,h2,h3,h4⟩:=h.at_ hk
 exact⟨h1,h2,h3,h4⟩
theorem transfers_any(HMade:∀(vt:Value) (xs:List Int) (w:World) (R:Nat→Prop),IntS w R vt xs→(∀b,R b→b<w.heap.size)→Calls Tryz.prog 11 #[vt] w (MadePost w)) (vl v1 v2:Value) (zs us ys:List Int) (w:World) (hl:IntS w (Bl w.heap.size) vl zs) (h1:IntS w (Bl w.heap.size) v1 us) (h2:IntS w (Bl w.heap.size) v2 ys) :
  Calls Tryz.prog 6 #[vl,v1,v2] w fun e w'=>e=.returned (.bool true)∧Below w.heap.size w w':=by
 have HAW:=zh (fun w1=>awake_any w1)
 have HMD:=zh HMade
 obtain⟨Al,nl,cl,rfl⟩:=hl.form3
 obtain⟨Au,cu,rfl,-,-⟩:=h1.form7
 obtain⟨Ay,cy,rfl,-,-⟩:=h2.form7
 obtain⟨NU,hNU⟩:=zx us.length
 obtain⟨NY,hNY⟩:=zx ys.length
 rw[←hNU] at h1 ⊢
 rw[←hNY] at h2 ⊢
 have HL:=zh hl
 have HU:=zh h1
 have HY:=zh h2
 have HNU:=zh hNU
 have HNY:=zh hNY
 clear hl h1 h2 hNU hNY HMade
 by_cases hbig:24<NU∨24<NY
 ·have HBW:∀w2,Below w.heap.size w w2→True:=fun _ _=>trivial
  by_cases hu:24<NU
  ·clear hbig
   go_enter Tryz.func6,Tryz.ntmps6
   go_wp2_with fail
   refine(HAW.out _).mono ?_
   rintro e w2 ⟨rfl,hb2⟩
   have HB2:=zh hb2
   clear hb2
   go_wp2_with fail
   go_ret
   exact⟨rfl,HB2.out⟩
  ·have hy:24<NY:=by omega
   clear hbig
   go_enter Tryz.func6,Tryz.ntmps6
   go_wp2_with fail
   refine(HAW.out _).mono ?_
   rintro e w2 ⟨rfl,hb2⟩
   have HB2:=zh hb2
   clear hb2
   go_wp2_with fail
   go_ret
   exact⟨rfl,HB2.out⟩
 ·have hu:¬(24<NU):=by omega
  have hy:¬(24<NY):=by omega
  have HUY:=zh (And.intro hu hy)
  clear hbig
  go_enter Tryz.func6,Tryz.ntmps6
  go_wp2_with fail
  refine(HMD.out _ zs w _ HL.out (fun b h=>h)).mono ?_
  rintro e w2 ⟨fl,fm,fd,fv,fp,fo,F,zp,zo,za,r,gM,n,f,st,rfl,hfs,hok,hre,hmo,hmp,hdo,hgM,hb2⟩
  obtain⟨A1,c1,hf1,-⟩:=SlS.form hfs.1
  obtain⟨A2,c2,hf2,-⟩:=SlS.form hfs.2.1
  obtain⟨A3,c3,hf3,-⟩:=SlS.form hfs.2.2.1
  obtain⟨A4,c4,hf4,-⟩:=SlS.form hfs.2.2.2.1
  obtain⟨A5,c5,hf5,-⟩:=SlS.form hfs.2.2.2.2.1
  obtain⟨A6,c6x,hf6,-⟩:=SlS.form hfs.2.2.2.2.2
  obtain⟨B1,d1,hz1,-⟩:=SlS.form hre.1
  obtain⟨B2,d2,hz2,-⟩:=SlS.form hre.2.1
  obtain⟨B3,d3,hz3,-⟩:=SlS.form hre.2.2
  obtain⟨n1,hn1⟩:=zx F.laws.length
  obtain⟨n2,hn2⟩:=zx F.models.length
  obtain⟨n3,hn3⟩:=zx F.doms.length
  obtain⟨n4,hn4⟩:=zx F.dves.length
  obtain⟨n5,hn5⟩:=zx F.pols.length
  obtain⟨n6,hn6⟩:=zx F.vols.length
  obtain⟨m1,hm1⟩:=zx r.plat.length
  obtain⟨m2,hm2⟩:=zx r.on.length
  obtain⟨m3,hm3⟩:=zx r.acks.length
  rw[←hn1] at hf1
  rw[←hn2] at hf2
  rw[←hn3] at hf3
  rw[←hn4] at hf4
  rw[←hn5] at hf5
  rw[←hn6] at hf6
  rw[←hm1] at hz1
  rw[←hm2] at hz2
  rw[←hm3] at hz3
  have HFS2:=zh (hfs.mono Fr.bl)
  rw[hf6] at HFS2
  have HOK:=zh hok
  have HRE:=zh (hre.mono Fr.bl)
  have HPL:=zh (show r.plat.length≤9 from by rw[hmo.plat];have:=hok.dveN;omega)
  have HLEN:=zh hmo.len
  have HL5:=zh hmo.len5
  have HON:=zh (show r.on.length=r.plat.length∧1≤r.plat.length from⟨by rw[hmo.on,hmo.plat],by rw[hmo.plat];exact hok.dve1⟩)
  have HA1:=zh (show 1≤r.acks.length from by
   rw[hmo.acks,List.length_map]
   have h1:=congrArg List.length hmo.keys
   rw[List.length_map] at h1
   have h2:=keysTo_len F.ext.toNat F.vols.length 0
   have he:=hok.ext
   have h3:1 * 1≤F.vols.length * F.ext.toNat:=Nat.mul_le_mul hok.vol1 (by omega)
   omega)
  have hak:r.acks.length≤1000000:=by
   have h1:=congrArg List.length hmo.keys
   rw[List.length_map] at h1
   have h2:=keysTo_le F.ext.toNat F.vols.length 0 (by have:=hok.ext;omega) hok.volN (by omega)
   rw[hmo.acks,List.length_map];omega
  have HAK:=zh hak
  have HB2:=zh hb2
  obtain⟨EX,hEX⟩:=zx F.ext
  rw[←hEX]
  have HEX:=zh hEX
  have HEX2:=zh (show(EX=1∨EX=2)∧n6≤2 from⟨by rw[hEX];exact hok.ext,by rw[hn6];exact hok.volN⟩)
  have HN6:=zh hn6
  clear hfs hok hre hmo hmp hdo hgM hb2 hEX hak hn1 hn2 hn3 hn4 hn5 hn6 hm1 hm2 hm3
  rw[hf1,hf2,hf3,hf4,hf5,hf6,hz1,hz2,hz3]
  have HEF:=zh (And.intro hf1 (And.intro hf2 (And.intro hf3 (And.intro hf4 (And.intro hf5 hf6)))))
  have HEZ:=zh (And.intro hz1 (And.intro hz2 hz3))
  clear hf1 hf2 hf3 hf4 hf5 hf6 hz1 hz2 hz3
  have HVW:=zh (show EX=F.ext from HEX.out)
  go_upto_region 4 with fail
  rw[←HEF.out.1,←HEF.out.2.1,←HEF.out.2.2.1,←HEF.out.2.2.2.1,←HEF.out.2.2.2.2.1,←HEZ.out.1,←HEZ.out.2.1,←HEZ.out.2.2]
  clear HEF HEZ
  obtain⟨g,hg⟩:=zx w2.heap.size
  obtain⟨p,hp⟩:=zx (w2.heap.size+1)
  obtain⟨W4,hW4⟩:=zx (((w2.alloc (.cells #[.int .i64 EX,fl,fm,fd,fv,fp,.slice A6 n6 c6x] 37)).alloc (.cells #[zp,zo,za] 27)))
  rw[←hW4,←hp,←hg]
  have hsz4:W4.heap.size=w2.heap.size+1+1:=by rw[hW4];simp
  have hb4:Below w2.heap.size w2 W4:=by rw[hW4];exact((Below.refl _ _).alloc (Nat.le_refl _) _).alloc (by simp) _
  have hbR:W4.heap[p]?=some (.cells #[zp,zo,za] 27 (0,0)):=by
   rw[hW4];exact heap_alloc_at _ _ _ (by rw[hp];simp)
  have hbF:W4.heap[g]?=some (.cells #[.int .i64 EX,fl,fm,fd,fv,fp,.slice A6 n6 c6x] 37 (0,0)):=by
   rw[hW4,hg];exact(Below.heap_alloc _ _ _ (by simp)).trans (heap_alloc_new w2 _)
  have HGP:=zh (show g<W4.heap.size∧p<W4.heap.size from⟨by omega,by omega⟩)
  have HC:=zh (fun(W:World) (hb:Below W4.heap.size W4 W)=>And.intro (cells7 ((hb.block g (by omega)).trans hbF)) (cells3v ((hb.block p (by omega)).trans hbR)))
  have HB4M:=zh (HB2.out.trans (hb4.mono HB2.out.size))
  have HFS:=zh (HFS2.out.below hb4)
  have HM4:=zh (HRE.out.below hb4)
  have HAC:=zh (acks_i64 HM4.out.2.2)
  obtain⟨-,z0,z1,z2⟩:=HC.out W4 (Below.refl _ _)
  clear hW4 hg hp hsz4 hb4 hbR hbF
  obtain⟨ND,hND⟩:=zx r.plat.length
  obtain⟨NA,hNA⟩:=zx r.acks.length
  have HN1:=zh (show(1≤ND∧ND≤9)∧(1≤NA∧NA≤1000000)∧r.on.length=ND∧r.acks.length=NA from⟨⟨by rw[hND];exact HON.out.2,by rw[hND];exact HPL.out⟩,⟨by rw[hNA];exact HA1.out,by rw[hNA];exact HAK.out⟩,by rw[hND];exact HON.out.1,hNA.symm⟩)
  have hsu:∀(ws:List Int) (A:Option Addr) (N c:Nat),IntS w (Bl w.heap.size) (.slice A N c) ws→N=ws.length→¬24<N→(ws.length=N∧N≤24∧∀(W:World),Below W4.heap.size W4 W→0<N→∃b off,A=some ⟨b,off,none⟩∧∀j u,(ws.map (Value.int .i64))[j]?=some u→W.cell? ⟨b,off+j,none⟩=some u):=fun ws A N c hi hn hs =>
   ⟨hn.symm,by omega,fun W hb hp=>by
    obtain⟨b,off,e,hR,hc⟩:=ints_cells hi hp
    exact⟨b,off,e,fun j u hu=>((HB4M.out.trans (hb.mono HB4M.out.size)).cell (p:=⟨b,off+j,none⟩) hR).trans (hc j u hu)⟩⟩
  have HSU:=zh (hsu us Au NU cu HU.out HNU.out HUY.out.1)
  have HSY:=zh (hsu ys Ay NY cy HY.out HNY.out HUY.out.2)
  have HU64:=zh (And.intro HU.out.2 HY.out.2)
  have HOC:=zh (show zp.oneCell'=true∧zo.oneCell'=true∧za.oneCell'=true from by
   obtain⟨X1,y1,e1,-⟩:=SlS.form HM4.out.1
   obtain⟨X2,y2,e2,-⟩:=SlS.form HM4.out.2.1
   obtain⟨X3,y3,e3,-⟩:=SlS.form HM4.out.2.2
   rw[e1,e2,e3]
   exact⟨rfl,rfl,rfl⟩)
  obtain⟨gs0,hgs0⟩:=zx W4.heap.size
  obtain⟨W5,hW5⟩:=zx (W4.alloc (.cells #[zp,zo,za] 27))
  have hst5:StsS W5 W4.heap.size (.slice (some ⟨gs0,0,none⟩) 1 1) [⟨zp,zo,za,r⟩]:=by
   rw[hW5,hgs0]
   refine⟨World.ownsRow_lit W4 #[zp,zo,za] 1 (Nat.le_refl _) (by unfold maxLen;omega) rfl,fun s hs=>?_,fun s hs=>?_⟩
   ·rw[List.mem_singleton.1 hs]
    exact(HM4.out.keep (fun b hb=>Below.heap_alloc _ _ b hb)).mono (fun b hb=>⟨by have h:b<W4.heap.size:=hb;simp;omega,fun e=>by have h:b<W4.heap.size:=hb;simp[Value.ownBlock] at e;omega⟩)
   ·rw[List.mem_singleton.1 hs];exact HOC.out
  have HST5:=zh hst5
  have HB5:=zh (show Below W4.heap.size W4 W5 from by rw[hW5];exact(Below.refl _ _).alloc (Nat.le_refl _) _)
  have HOK5:=zh (show ∀s∈[(⟨zp,zo,za,r⟩:Stt)],SttOk r ND 0 s.x from fun s hs=>by
   rw[List.mem_singleton.1 hs]
   exact⟨SameHeld.refl r,hND.symm,rfl,fun l hl=>by have:=HL5.out l hl;omega⟩)
  have HW5:=zh hW5
  have HGS:=zh hgs0
  obtain⟨XB,hXB⟩:∃X:ByteArray,X=⟨(List.replicate 36 (0:UInt8)).toArray⟩:=⟨_,rfl⟩
  have hbl:=fun w=>blank_any w
  rw[←hXB] at hbl
  have HBL:=zh hbl
  have HXB:=zh (show XB.size≤maxLen from by rw[hXB];show(List.replicate 36 (0:UInt8)).toArray.size≤maxLen;unfold maxLen;simp)
  have HXZ:=zh (show XB.data.toList=blankB from by rw[hXB];simp[blankB])
  clear hND hNA hsu hW5 hgs0 hst5 hbl hXB hu hy
  go_wp2_with fail
  rw[←HW5.out,←HGS.out]
  clear z0 z1 z2
  go_loopg [10,11] 2 (fun z v10 v11 wr=>∃(n:Nat) (L:List Stt),v11=.int .i64 (n:Int)∧z+n=2∧L.length=n+1∧Hid (StsS wr W4.heap.size v10 L)∧Hid (Below W4.heap.size W4 wr)∧Hid (∀s∈L,SttOk r ND n s.x))
  case atStart=>exact⟨0,[⟨zp,zo,za,r⟩],rfl,rfl,rfl,HST5.out,HB5.out,HOK5.out⟩
  case round =>
   clear HST5 HB5 HOK5
   obtain⟨n,L,rfl,hzn,hLL,HST,HBR,HOKS⟩:=hrel
   obtain⟨WM,hWM⟩:=zx (wr:World)
   rw[←hWM] at HST HBR ⊢
   clear hWM
   obtain⟨gs,cs,hv10⟩:=own_block HST.out.row (by omega)
   obtain⟨NS,hNS⟩:=zx L.length
   rw[←hNS] at hv10
   subst hv10
   have hn3:NS=n+1:=by rw[hNS];exact hLL
   have HLL:=zh hLL
   have HN2:=zh (show n≤2 from by omega)
   have HNS:=zh (And.intro hNS hn3)
   clear hLL hn3
   by_cases hlt:n<2
   ·-- L1{
    obtain⟨⟨pp,po,pa,x⟩,hs⟩:∃s,L[n]?=some s:=⟨_,List.getElem?_eq_getElem (by have:=HLL.out;omega)⟩
    have hsm:(⟨pp,po,pa,x⟩:Stt)∈L:=List.mem_of_getElem? hs
    obtain⟨q0,q1,q2⟩:=HST.out.cells hNS.symm hs
    simp only at q0 q1 q2
    have hsk:=HOKS.out _ hsm
    simp only at hsk
    have hrx:=(HST.out.each _ hsm)
    simp only at hrx
    have hnI:(n:Int)<(NS:Int):=by have:=HNS.out.2;omega
    obtain⟨on,hon0⟩:=zx x.on
    obtain⟨acks,hak0⟩:=zx x.acks
    have HOA:=zh (show on=r.on∧acks=r.acks from⟨by rw[hon0];exact hsk.on,by rw[hak0];exact hsk.same.1⟩)
    have HCPY:=zh (copy_any pp po pa x WM (hrx.mono (fun b hb=>hb.1)) (by rw[hsk.plat];have:=HN1.out.1;omega) (fun l hl=>by have:=hsk.len l hl;omega) (by rw[←hon0,HOA.out.1,HN1.out.2.2.1];have:=HN1.out.1;omega) (by rw[←hak0,HOA.out.2,HN1.out.2.2.2];exact HN1.out.2.1.2))
    have HAI:=zh (show ∀a∈acks,I64 a.vol∧I64 a.stripe∧I64 a.ver∧I64 a.side from by rw[hak0];exact acks_i64 hrx.2.2)
    have HSK:=zh hsk
    have HNL:=zh hlt
    rw[←hon0,←hak0] at HCPY
    have HON0:=zh (And.intro hon0 hak0)
    clear hs hsm hsk hrx hon0 hak0 hNS
    go_wp2_with fail
    refine HCPY.out.mono ?_
    rintro e w5 ⟨vp',vo',va',rs0,rfl,hRQ,hrs,hon,hak,hb5⟩
    have hl0:rs0.length=ND:=by rw[←HSK.out.plat,←hrs,List.length_map]
    have hol:on.length=ND:=by rw[HOA.out.1];exact HN1.out.2.2.1
    have hal:acks.length=NA:=by rw[HOA.out.2];exact HN1.out.2.2.2
    obtain⟨gv,cw,hvp⟩:=own_block hRQ.top (by have:=HN1.out;omega)
    obtain⟨go,co',hvo⟩:=own_block hon (by have:=HN1.out;omega)
    obtain⟨ga,ca',hva⟩:=own_block hak (by have:=HN1.out;omega)
    rw[hl0] at hvp
    rw[hol] at hvo
    rw[hal] at hva
    subst hvp
    subst hvo
    subst hva
    obtain⟨M,hM⟩:=zx (500+5 * n)
    have HMN:=zh hM
    have HM505:=zh (show M≤505 from by omega)
    have HLR:=zh (show rs0.length=ND∧∀(i:Nat) (y:Value×List ByteArray),rs0[i]?=some y→y.2.length≤M+0 from⟨hl0,fun i y hy=>by
     have h1:y.2∈x.plat:=by rw[←hrs];exact List.mem_map.2 ⟨y,List.mem_of_getElem? hy,rfl⟩
     have:=HSK.out.len _ h1
     omega⟩)
    have HSM0:=zh (show SameHeld r ⟨rs0.map (·.2),on,r.acks⟩ from⟨rfl,fun s hs=>by have h:=HSK.out.same.2 s hs;rw[hrs];exact h⟩)
    obtain⟨gX,hgX⟩:=zx w5.heap.size
    obtain⟨W6,hW6⟩:=zx (w5.alloc (.cells #[(.slice (some ⟨gv,0,none⟩) ND cw),(.slice (some ⟨go,0,none⟩) ND co'),(.slice (some ⟨ga,0,none⟩) NA ca')] 27))
    have hcp:CpT WM gX W6 (.slice (some ⟨gv,0,none⟩) ND cw) (.slice (some ⟨go,0,none⟩) ND co') (.slice (some ⟨ga,0,none⟩) NA ca') rs0 on acks:=by
     rw[hW6]
     exact⟨hb5.alloc hb5.size _,by rw[hgX];exact heap_alloc_new w5 _,hRQ.stay (HotBy.alloc [] _ _) (fun b hb=>by simp at hb),by rw[hol] at hon ⊢;exact hon.alloc _,by rw[hal] at hak ⊢;exact hak.alloc _,by rw[hgX];exact hb5.size⟩
    have HCP:=zh hcp
    have HW6:=zh hW6
    have HGX:=zh hgX
    clear hRQ hrs hon hak hb5 hl0 hol hal hM hgX hW6 hcp q0 q1 q2
    go_upto_region 9 with fail
    rw[←HW6.out,←HGX.out]
    have HBX:=zh (HBR.out.trans (HCP.out.hot.mono HBR.out.size))
    go_upto_region 10 with (at_builtin;refine list_copy (.const (.slice none 0 0)) (.tmp 47) rfl rfl NU Au cu us (by rfl) (by rfl) HSU.out.1 (HSU.out.2.2 _ HBX.out) (by have:=HSU.out.2.1;omega) ?_;intro vt6 w6 ho6 hb6;obtain⟨At0,ct0,rfl⟩:=own_form ho6)
    obtain⟨gT,hgT⟩:=zx w6.heap.size
    obtain⟨W7,hW7⟩:=zx (w6.alloc (.cells #[.slice At0 us.length ct0,.int .i64 0] 48))
    rw[←hW7,←hgT]
    have hcp7:CpT WM gX W7 (.slice (some ⟨gv,0,none⟩) ND cw) (.slice (some ⟨go,0,none⟩) ND co') (.slice (some ⟨ga,0,none⟩) NA ca') rs0 on acks:=by rw[hW7];exact(HCP.out.below hb6).below ((Below.refl _ _).alloc (Nat.le_refl _) _)
    have hed7:EdT gT (.slice At0 us.length ct0) us WM gX W7 0 (.slice (some ⟨gv,0,none⟩) ND cw) (.slice (some ⟨go,0,none⟩) ND co') (.slice (some ⟨ga,0,none⟩) NA ca') rs0 on acks :=
     ⟨hcp7,by unfold TapeB;rw[hW7,hgT];exact heap_alloc_new w6 _,.inr ⟨by rw[hW7];exact own_below (own_base ho6 HCP.out.hot.size) ((Below.refl _ _).alloc (Nat.le_refl _) _),HU64.out.1⟩,by rw[hgT];exact Nat.le_trans HCP.out.hot.size hb6.size⟩
    have HED7:=zh hed7
    have HB47:=zh (HBR.out.trans (hcp7.hot.mono HBR.out.size))
    clear hW7 hgT hcp7 hed7 ho6 hb6
    by_cases hn0:n=0
    ·-- A{
     have hq1:((n:Int)==1)=false:=by rw[hn0];rfl
     clear hn0
     obtain⟨vt,hvt⟩:=zx (Value.slice At0 us.length ct0)
     rw[←hvt] at HED7
     obtain⟨xs,hxs⟩:∃q:List Int,q=us:=⟨_,rfl⟩
     rw[←hxs] at HED7
     have HED0:=HED7
     clear hvt hxs HED7
     go_wp2_with fail
     go_loopg [14] 5 (fun z v14 wr=>∃(k I:Nat) (rs:List (Value×List ByteArray)),v14=.int .i64 (k:Int)∧z+k=5∧k≤5∧I≤4 * k∧Hid (EdT gT vt xs WM gX wr I (.slice (some ⟨gv,0,none⟩) ND cw) (.slice (some ⟨go,0,none⟩) ND co') (.slice (some ⟨ga,0,none⟩) NA ca') rs on acks)∧Hid (rs.length=ND∧∀(i:Nat) (x:Value×List ByteArray),rs[i]?=some x→x.2.length≤M+k)∧Hid (SameHeld r ⟨rs.map (·.2),on,r.acks⟩))
     case atStart=>exact⟨0,0,rs0,rfl,rfl,by omega,by omega,HED0.out,⟨HLR.out.1,fun i x hx=>HLR.out.2 i x hx⟩,HSM0.out⟩
     case round =>
      clear HED0
      obtain⟨k,I,rs,rfl,hzk,hk5,hI,HED,HBN,HSM⟩:=hrel
      have HKI:=zh (show(k≤5∧I≤4 * k)∧M≤505 from⟨⟨hk5,hI⟩,HM505.out⟩)
      by_cases hk:k<5
      ·-- K{
       obtain⟨vo,hvo⟩:=zx (Value.slice (some ⟨go,0,none⟩) ND co')
       obtain⟨va,hva⟩:=zx (Value.slice (some ⟨ga,0,none⟩) NA ca')
       have HLN:=zh HBN.out.1
       have HZK:=zh hzk
       rw[←hvo,←hva] at HED
       have HVO:=zh hvo
       have HVA:=zh hva
       have HKL:=zh hk
       clear hvo hva
       go_upto_region 15 with fail
       obtain⟨w10,hw10⟩:=zx (wr:World)
       rw[←hw10] at HED ⊢
       clear hw10
       have HS0:=zh (show w10.drew.cell? ⟨gX,0,none⟩=some (.slice (some ⟨gv,0,none⟩) ND cw) from HED.out.drew.cells.1)
       refine region_tail (S:=(fun w'=>w'.cell? ⟨gX,0,none⟩=some (.slice (some ⟨gv,0,none⟩) ND cw))) [] (by kernel_rfl) HS0.out (fun hHeld=>?_)
       refine tk 0 61 ?_
       refine tk 1 62 ?_
       refine tk 2 63 ?_
       refine tk 3 64 ?_
       refine tk 5 66 ?_
       refine tk 6 67 ?_
       refine tk 7 68 ?_
       refine tk 8 69 ?_
       refine readyT (rs:=[4]) (by kernel_rfl) (by simp) ?_
       refine AllReadyT.cons rfl (fun K hK=>?_) ?_
       ·go_simp
        (go_at_call 18;refine(HED.out.drew.next_any (by have:=HKI.out;omega) ND HN1.out.1.1 (by have:=HN1.out.1.2;omega) _ rfl).mono ?_;rintro e w11 ⟨d,rfl,hdN,hE11,-⟩)
        go_wp2_with fail
        have hS11:=hE11.cells.1
        refine hK.out _ _ ?_ (fun hHeld=>?_)
        ·assumption
        clear hK K
        (try simp only[Act.put,z1,z2,z3])
        refine readyT (rs:=[9]) (by kernel_rfl) (by simp) ?_
        refine AllReadyT.cons rfl (fun K hK=>?_) ?_
        ·go_simp
         (go_at_call 18;refine(hE11.next_any (by have:=HKI.out;omega) ND HN1.out.1.1 (by have:=HN1.out.1.2;omega) _ rfl).mono ?_;rintro e w12 ⟨t,rfl,htN,hE12,-⟩)
         go_wp2_with fail
         have hS12:=hE12.cells.1
         refine hK.out _ _ ?_ (fun hHeld=>?_)
         ·assumption
         clear hK K
         (try simp only[Act.put,z1,z2,z3])
         refine tk 10 15 ?_
         refine tk 11 16 ?_
         refine doneT (by kernel_rfl) ?_ _
         clear HED
         have HED:=zh hE12
         clear hHeld hE11 hE12 hS11 hS12 HS0
         obtain⟨k0,-,-,-,-⟩:=HED.out.cells
         obtain⟨⟨xv,ld⟩,hx⟩:∃x,rs[d]?=some x:=⟨_,List.getElem?_eq_getElem (by rw[HLN.out];exact hdN)⟩
         obtain⟨Ad,cd,hxv⟩:=own_form (HED.out.plat.row d _ hx)
         simp only at hxv
         subst hxv
         obtain⟨Ld,hLd⟩:=zx ld.length
         rw[←hLd] at hx
         have kd:=(HED.out.toCpT.drive HLN.out hx).1
         simp only at kd
         have hdI:(d:Int)<(ND:Int):=by omega
         have htI:(t:Int)<(ND:Int):=by omega
         have HLD:=zh hLd.symm
         by_cases hL0:Ld=0
         ·-- Z{
          have hq:((Ld:Int)==0)=true:=by rw[hL0];rfl
          clear hx hLd hL0
          go_wp2_with fail
          go_roundg (5 - (k+1))
          case measure=>have:=HKI.out;omega
          case rel=>exact⟨k+1,I+1+1,rs,by have:=HKI.out;go_num,by have:=HKI.out;omega,by have:=HKI.out;omega,by have:=HKI.out;(try have:=HJ.out);omega,(by rw[←HVO.out,←HVA.out];exact HED.out),⟨HBN.out.1,fun j x hx=>by have:=HBN.out.2 j x hx;omega⟩,HSM.out⟩
         ·-- P{
          have hq:((Ld:Int)==0)=false:=by simpa using hL0
          obtain⟨gi,cd',hA⟩:=own_block (HED.out.plat.row d _ hx) (by simp only;omega)
          simp only[Value.slice.injEq] at hA
          obtain⟨rfl,-,rfl⟩:=hA
          have HDD:=zh hx
          have hL5:Ld≤510:=by have:=HBN.out.2 d _ hx;simp only at this;have:=HKI.out;omega
          have hL1:1≤Ld:=by omega
          clear hLd hL0 hx
          go_wp2_with fail
          refine(HED.out.next_any (by have:=HKI.out;omega) Ld hL1 (by omega) _ rfl).mono ?_
          rintro e w13 ⟨i,rfl,hiL,hE,-⟩
          clear HED k0 kd hq
          obtain⟨J,hJ⟩:=zx (I+1+1+1)
          rw[←hJ] at hE
          have HJ:=zh hJ
          have HED:=zh hE
          clear hE hJ
          obtain⟨X,hX⟩:∃X,ld[i]?=some X:=⟨_,List.getElem?_eq_getElem (by rw[HLD.out];exact hiL)⟩
          have HXI:=zh hX
          obtain⟨⟨xt,lt⟩,hxt⟩:∃x,rs[t]?=some x:=⟨_,List.getElem?_eq_getElem (by rw[HLN.out];exact htN)⟩
          obtain⟨At,ct,hxv⟩:=own_form (HED.out.plat.row t _ hxt)
          simp only at hxv
          subst hxv
          obtain⟨Lt,hLt⟩:=zx lt.length
          rw[←hLt] at hxt
          have HTT:=zh hxt
          have HLT2:=zh hLt.symm
          have HLTB:=zh (show Lt≤510 from by have:=HBN.out.2 t _ hxt;simp only at this;have:=HKI.out;omega)
          have hiI:(i:Int)<(Ld:Int):=by omega
          have HB3:=zh (And.intro hdN (And.intro htN hiL))
          clear hX hxt hLt
          go_upto_region 18 with fail
          have hC0:=HED.out.drew.toCpT
          have hS0:w13.drew.cell? ⟨gX,0,none⟩=some (.slice (some ⟨gv,0,none⟩) ND cw)∧w13.drew.cell? ⟨gv,d,none⟩=some (.slice (some ⟨gi,0,none⟩) Ld cd)∧w13.drew.cell? ⟨gv,t,none⟩=some (.slice At Lt ct)∧w13.drew.cell? ⟨gi,i,none⟩=some (.string X):=⟨(hC0).cells.1,((hC0).look HLN.out HDD.out HLD.out HXI.out).1,((hC0).drive HLN.out HTT.out).1,((hC0).look HLN.out HDD.out HLD.out HXI.out).2.2.1⟩
          have HS0:=zh hS0
          have HROW:=zh (show w13.drew.ownsRow WM.heap.size 9 1 (.slice At Lt ct) Lt (lt.map Value.string) from by have h:=hC0.plat.row t _ HTT.out;simp only at h;rw[HLT2.out] at h;exact h)
          have HWS:=zh (show WM.heap.size≤w13.drew.heap.size from hC0.hot.size)
          clear hC0 hS0
          refine region_tail (S:=(fun w'=>w'.cell? ⟨gX,0,none⟩=some (.slice (some ⟨gv,0,none⟩) ND cw)∧w'.cell? ⟨gv,d,none⟩=some (.slice (some ⟨gi,0,none⟩) Ld cd)∧w'.cell? ⟨gv,t,none⟩=some (.slice At Lt ct)∧w'.cell? ⟨gi,i,none⟩=some (.string X))) [19] (by kernel_rfl) HS0.out (fun hHeld=>?_)
          refine tk 0 86 ?_
          refine tk 1 87 ?_
          refine tk 2 88 ?_
          refine tk 3 89 ?_
          refine tk 4 90 ?_
          refine tk 5 91 ?_
          refine tk 6 92 ?_
          refine tk 7 93 ?_
          refine tk 8 94 ?_
          refine tk 9 95 ?_
          refine tk 10 96 ?_
          refine tk 11 97 ?_
          refine tk 12 98 ?_
          refine tk 13 99 ?_
          refine tk 14 100 ?_
          refine tk 15 101 ?_
          refine readyT (rs:=[16]) (by kernel_rfl) (by simp) ?_
          refine AllReadyT.cons rfl (fun K hK=>?_) ?_
          ·go_simp
           have hE5:=HED.out.drew.alloc (.cells #[.string X] 9)
           have hC5:=hE5.toCpT
           have hS5:(w13.drew.alloc (.cells #[.string X] 9)).cell? ⟨gX,0,none⟩=some (.slice (some ⟨gv,0,none⟩) ND cw)∧(w13.drew.alloc (.cells #[.string X] 9)).cell? ⟨gv,d,none⟩=some (.slice (some ⟨gi,0,none⟩) Ld cd)∧(w13.drew.alloc (.cells #[.string X] 9)).cell? ⟨gv,t,none⟩=some (.slice At Lt ct)∧(w13.drew.alloc (.cells #[.string X] 9)).cell? ⟨gi,i,none⟩=some (.string X):=⟨(hC5).cells.1,((hC5).look HLN.out HDD.out HLD.out HXI.out).1,((hC5).drive HLN.out HTT.out).1,((hC5).look HLN.out HDD.out HLD.out HXI.out).2.2.1⟩
           refine hK.out _ _ ?_ (fun hHeld=>?_)
           ·assumption
           clear hK K
           (try simp only[Act.put,z1,z2,z3])
           refine readyT (rs:=[17]) (by kernel_rfl) (by simp) ?_
           refine AllReadyT.cons rfl (fun K hK=>?_) ?_
           ·refine step_app_both X (.tmp 93) (.tmp 102) rfl rfl WM.heap.size (.slice At Lt ct) Lt (lt.map Value.string) (by rfl) HROW.out w13.heap.size (by rfl) rfl (by have:=HLTB.out;omega) HWS.out ?_
            intro v6 w6 ho6 hg6 hold6 hat6
            obtain⟨A6,c6,rfl⟩:=own_form ho6
            have hC6:=hC5.after HTT.out hg6 (by simp only;rw[HLT2.out];exact hold6)
            have hS6:w6.cell? ⟨gX,0,none⟩=some (.slice (some ⟨gv,0,none⟩) ND cw)∧w6.cell? ⟨gv,d,none⟩=some (.slice (some ⟨gi,0,none⟩) Ld cd)∧w6.cell? ⟨gv,t,none⟩=some (.slice At Lt ct)∧w6.cell? ⟨gi,i,none⟩=some (.string X):=⟨(hC6).cells.1,((hC6).look HLN.out HDD.out HLD.out HXI.out).1,((hC6).drive HLN.out HTT.out).1,((hC6).look HLN.out HDD.out HLD.out HXI.out).2.2.1⟩
            have m1:=(hC6.drive HLN.out HTT.out).2
            refine hK.out _ _ ?_ (fun hHeld=>?_)
            ·assumption
            clear hK K
            (try simp only[Act.put,z1,z2,z3])
            refine tk 18 104 ?_
            refine readyT (rs:=[19]) (by kernel_rfl) (by simp) ?_
            refine AllReadyT.consT rfl rfl (fun K hK=>?_) ?_
            ·go_simp
             refine hK.out _ _ ?_
             clear hK K
             (try simp only[Act.put,z1,z2,z3])
             refine doneT (by kernel_rfl) ?_ _
             obtain⟨w18,hw18⟩:=zx (w6.setCell ⟨gv,t,none⟩ (.slice A6 (Lt+1) c6):World)
             have HE18:=zh (show EdT gT vt xs WM gX w18 J (.slice (some ⟨gv,0,none⟩) ND cw) vo va (rs.set t (.slice A6 (Lt+1) c6,lt++[X])) on acks from by
              rw[hw18]
              refine EdT.putP HLN.out.symm hE5 HTT.out hg6 (by rw[List.length_append,HLT2.out,List.map_append];exact ho6) (fun b e=>?_) (fun s hs=>?_)
              ·rcases hat6 with h | h
               ·left;rw[←h];exact e
               ·right
                rw[h] at e
                injection e with e
                have hd:w13.drew.heap.size=w13.heap.size:=rfl
                rw[size_al]
                omega
              ·rcases List.mem_append.1 hs with h | h
               ·exact hC5.plat.size t _ HTT.out s h
               ·rw[List.mem_singleton.1 h];exact hC5.plat.size d _ HDD.out X (List.mem_of_getElem? HXI.out))
             rw[←hw18]
             clear hHeld hE5 hC5 hS5 hC6 hS6 m1 ho6 hg6 hold6 hat6 HS0 HROW HWS hw18
             go_wp2_with fail
             refine(HE18.out.next_any (by have:=HJ.out;have:=HKI.out;omega) 2 (by omega) (by omega) _ rfl).mono ?_
             rintro e w16 ⟨q2,rfl,hq2,hE,-⟩
             obtain⟨J2,hJ2⟩:=zx (J+1)
             rw[←hJ2] at hE
             have HJ2:=zh hJ2
             have HE19:=zh hE
             clear hE hJ2
             by_cases hz:q2=0
             ·-- U{
              have f0:((q2:Int)==0)=true:=by rw[hz];rfl
              clear hz
              obtain⟨rs2,hrs2⟩:=zx (rs.set t (Value.slice A6 (Lt+1) c6,lt++[X]))
              rw[←hrs2] at HE19
              have HED2:=HE19
              have HLN2:=zh (show rs2.length=ND from by rw[hrs2,List.length_set];exact HLN.out)
              have HBN2:=zh (show ∀(j:Nat) (x:Value×List ByteArray),rs2[j]?=some x→x.2.length≤M+(k+1) from fun j x hx=>by
               rw[hrs2] at hx
               rcases getSome_set hx with ⟨rfl,rfl⟩ | ⟨_,h2⟩
               ·have h3:=HBN.out.2 t _ HTT.out
                simp only[List.length_append,List.length_singleton] at h3 ⊢
                omega
               ·have:=HBN.out.2 j x h2
                omega)
              obtain⟨⟨yv,ld2⟩,hy⟩:∃x,rs2[d]?=some x:=⟨_,List.getElem?_eq_getElem (by rw[HLN2.out];exact HB3.out.1)⟩
              have hil:i<ld2.length:=by
               have h1:=HB3.out.2.2
               rw[hrs2] at hy
               rcases getSome_set hy with ⟨e1,e2⟩ | ⟨_,h2⟩
               ·subst e1
                have h3:=HDD.out
                rw[HTT.out] at h3
                injection h3 with h3
                injection h3 with h4 h5
                injection e2 with e3 e4
                rw[e4,List.length_append,h5,HLD.out]
                omega
               ·rw[HDD.out] at h2
                injection h2 with h2
                injection h2 with h3 h4
                rw[←h4,HLD.out]
                exact h1
              obtain⟨gi2,cd2,hA⟩:=own_block (HED2.out.plat.row d _ hy) (by simp only;omega)
              simp only at hA
              subst hA
              obtain⟨Ld2,hLd2⟩:=zx ld2.length
              rw[←hLd2] at hy hil
              have HDD2:=zh hy
              have HLD2:=zh hLd2.symm
              have hX2:∃X2,ld2[i]?=some X2:=⟨_,List.getElem?_eq_getElem (by rw[←hLd2];exact hil)⟩
              obtain⟨X2,hX2⟩:=hX2
              have HXI2:=zh hX2
              have hiI2:(i:Int)<(Ld2:Int):=by omega
              have HRS2:=zh hrs2
              clear hrs2 hy hil hLd2 hX2
              go_upto_region 20 with fail
              have hC0:=HED2.out.drew.toCpT
              have HS0:=zh (show w16.drew.cell? ⟨gX,0,none⟩=some (.slice (some ⟨gv,0,none⟩) ND cw)∧w16.drew.cell? ⟨gv,d,none⟩=some (.slice (some ⟨gi2,0,none⟩) Ld2 cd2) from⟨hC0.cells.1,(hC0.look HLN2.out HDD2.out HLD2.out HXI2.out).1⟩)
              clear hC0
              refine region_tail (S:=(fun w'=>w'.cell? ⟨gX,0,none⟩=some (.slice (some ⟨gv,0,none⟩) ND cw)∧w'.cell? ⟨gv,d,none⟩=some (.slice (some ⟨gi2,0,none⟩) Ld2 cd2))) [8] (by kernel_rfl) HS0.out (fun hHeld=>?_)
              refine tk 0 108 ?_
              refine tk 1 109 ?_
              refine tk 2 110 ?_
              refine tk 3 111 ?_
              refine tk 4 112 ?_
              refine tk 5 113 ?_
              refine readyT (rs:=[6]) (by kernel_rfl) (by simp) ?_
              refine AllReadyT.cons rfl (fun K hK=>?_) ?_
              ·go_simp
               (go_at_call 19;refine(HBL.out _).mono ?_;rintro e w7 ⟨rfl,hb7⟩)
               go_wp2_with fail
               have hE7:=HED2.out.drew.below hb7
               have hC7:=hE7.toCpT
               have hS7:w7.cell? ⟨gX,0,none⟩=some (.slice (some ⟨gv,0,none⟩) ND cw)∧w7.cell? ⟨gv,d,none⟩=some (.slice (some ⟨gi2,0,none⟩) Ld2 cd2):=⟨hC7.cells.1,(hC7.look HLN2.out HDD2.out HLD2.out HXI2.out).1⟩
               obtain⟨-,-,m0,m1⟩:=hC7.look HLN2.out HDD2.out HLD2.out HXI2.out
               refine hK.out _ _ ?_ (fun hHeld=>?_)
               ·assumption
               clear hK K
               (try simp only[Act.put,z1,z2,z3])
               refine tk 7 115 ?_
               refine readyT (rs:=[8]) (by kernel_rfl) (by simp) ?_
               refine AllReadyT.consT rfl rfl (fun K hK=>?_) ?_
               ·go_simp
                refine hK.out _ _ ?_
                clear hK K
                (try simp only[Act.put,z1,z2,z3])
                refine doneT (by kernel_rfl) ?_ _
                obtain⟨w20,hw20⟩:=zx (w7.setCell ⟨gi2,i,none⟩ (.string XB):World)
                have HE20:=zh (show EdT gT vt xs WM gX w20 J2 (.slice (some ⟨gv,0,none⟩) ND cw) vo va (rs2.set d (.slice (some ⟨gi2,0,none⟩) Ld2 cd2,ld2.set i XB)) on acks from by rw[hw20];exact EdT.setS hE7 HDD2.out XB HXB.out)
                rw[←hw20]
                clear hHeld hb7 hE7 hC7 hS7 m0 m1 HS0 hw20
                clear f0
                go_wp2_with fail
                go_roundg (5 - (k+1))
                case measure=>have:=HKI.out;omega
                case rel=>exact⟨k+1,J+1,_,by have:=HKI.out;go_num,by have:=HKI.out;omega,by have:=HKI.out;omega,by have:=HKI.out;(try have:=HJ.out);omega,(by rw[←HVO.out,←HVA.out,←HJ2.out];exact HE20.out),⟨by rw[List.length_set];exact HLN2.out,fun j x hx=>by
                  rcases getSome_set hx with ⟨rfl,rfl⟩ | ⟨_,h2⟩
                  ·have h3:=HBN2.out d _ HDD2.out
                   simp only[List.length_set] at h3 ⊢
                   omega
                  ·exact HBN2.out j x h2⟩,(by
                  have hm:rs2.map (·.2)=(rs.map (·.2)).set t (lt++[X]):=by rw[HRS2.out,List.map_set]
                  rw[List.map_set,hm]
                  exact HSM.out.move (ld:=ld) (lt:=lt) (by rw[List.getElem?_map,HDD.out];rfl) (by rw[List.getElem?_map,HTT.out];rfl) HXI.out (by rw[←hm,List.getElem?_map,HDD2.out];rfl) HXZ.out)⟩
               exact AllReadyT.nil
              exact AllReadyT.nil
             ·-- V{
              have f0:((q2:Int)==0)=false:=by
               have:¬((q2:Int)=0):=by omega
               simpa using this
              clear hz
              go_wp2_with fail
              go_roundg (5 - (k+1))
              case measure=>have:=HKI.out;omega
              case rel=>exact⟨k+1,J+1,_,by have:=HKI.out;go_num,by have:=HKI.out;omega,by have:=HKI.out;omega,by have:=HKI.out;(try have:=HJ.out);omega,(by rw[←HVO.out,←HVA.out,←HJ2.out];exact HE19.out),⟨by rw[List.length_set];exact HBN.out.1,fun j x hx=>by
                rcases getSome_set hx with ⟨rfl,rfl⟩ | ⟨_,h2⟩
                ·have h3:=HBN.out.2 t _ HTT.out
                 simp only[List.length_append,List.length_singleton] at h3 ⊢
                 omega
                ·have:=HBN.out.2 j x h2
                 omega⟩,(by rw[List.map_set];exact HSM.out.copy (by rw[List.getElem?_map,HDD.out];rfl) (by rw[List.getElem?_map,HTT.out];rfl) HXI.out)⟩
            exact AllReadyT.nil
           exact AllReadyT.nil
          exact AllReadyT.nil
        exact AllReadyT.nil
       exact AllReadyT.nil
      ·-- D{
       obtain rfl:k=5:=by omega
       obtain⟨x',hx'⟩:∃q:Re,q=⟨rs.map (·.2),on,acks⟩:=⟨_,rfl⟩
       have hre:ReS wr (Fr WM.heap.size wr.heap.size) (.slice (some ⟨gv,0,none⟩) ND cw) (.slice (some ⟨go,0,none⟩) ND co') (.slice (some ⟨ga,0,none⟩) NA ca') x':=by rw[hx'];exact HED.out.reS HAI.out
       have hsok:SttOk r ND (n+1) x':=by
        rw[hx']
        refine⟨?_,by rw[List.length_map];exact HBN.out.1,HOA.out.1,fun l hl=>?_⟩
        ·rw[HOA.out.2];exact HSM.out
        ·obtain⟨y,hy,rfl⟩:=List.mem_map.1 hl
         obtain⟨j,hj⟩:=List.getElem?_of_mem hy
         have h1:=HBN.out.2 j y hj
         have h2:=HMN.out
         omega
       have HSOK:=zh hsok
       obtain⟨k0,k1,k2,-,hXl⟩:=HED.out.cells
       obtain⟨gb,hgb⟩:=zx wr.heap.size
       have hst8:=(HST.out.below HED.out.hot).below ((Below.refl wr.heap.size wr).alloc (Nat.le_refl _) (.cells #[(.slice (some ⟨gv,0,none⟩) ND cw),(.slice (some ⟨go,0,none⟩) ND co'),(.slice (some ⟨ga,0,none⟩) NA ca')] 27))
       have hgs:∀b,(Value.slice (some ⟨gs,0,none⟩) NS cs).ownBlock=some b→b<WM.heap.size:=fun b hb=>(HST.out.row.lt b hb).2
       have hre8:ReS (wr.alloc (.cells #[(.slice (some ⟨gv,0,none⟩) ND cw),(.slice (some ⟨go,0,none⟩) ND co'),(.slice (some ⟨ga,0,none⟩) NA ca')] 27)) (fun b=>b<(wr.alloc (.cells #[(.slice (some ⟨gv,0,none⟩) ND cw),(.slice (some ⟨go,0,none⟩) ND co'),(.slice (some ⟨ga,0,none⟩) NA ca')] 27)).heap.size∧(Value.slice (some ⟨gs,0,none⟩) NS cs).ownBlock≠some b) (.slice (some ⟨gv,0,none⟩) ND cw) (.slice (some ⟨go,0,none⟩) ND co') (.slice (some ⟨ga,0,none⟩) NA ca') x' :=
        (hre.keep (fun b hb=>Below.heap_alloc _ _ b hb.2)).mono (fun b hb=>⟨by simp;have:=hb.2;omega,fun e=>by have:=hgs b e;have:=hb.1;omega⟩)
       have HST8:=zh hst8
       have HRE8:=zh hre8
       have HBW:=zh (HBR.out.trans (HED.out.hot.mono HBR.out.size))
       clear hre hsok hst8 hgs hre8 hk5 hI hzk HED HKI hgb
       go_wp2_with (at_builtin;refine app_st ⟨(.slice (some ⟨gv,0,none⟩) ND cw),(.slice (some ⟨go,0,none⟩) ND co'),(.slice (some ⟨ga,0,none⟩) NA ca'),x'⟩ (.tmp 116) (.tmp 118) rfl rfl W4.heap.size (.slice (some ⟨gs,0,none⟩) NS cs) L (by rfl) HST8.out wr.heap.size (by rfl) (heap_alloc_new wr _) ⟨rfl,rfl,rfl⟩ HRE8.out (by have:=HLL.out;omega) (by have:=HBW.out.size;simp;omega) ?_;intro v9 w9 hst9 hg9;have HST9:=zh hst9;have HG9:=zh hg9;clear hst9 hg9)
       go_roundg (2 - (n+1))
       case measure=>have:=HN2.out;omega
       case rel =>
        refine⟨n+1,L++[(⟨(.slice (some ⟨gv,0,none⟩) ND cw),(.slice (some ⟨go,0,none⟩) ND co'),(.slice (some ⟨ga,0,none⟩) NA ca'),x'⟩:Stt)],by have:=HN2.out;go_num,by have:=HN2.out;omega,by rw[List.length_append,HLL.out];rfl,HST9.out,?_,fun s hs=>?_⟩
        ·have hgs:∀b,(Value.slice (some ⟨gs,0,none⟩) NS cs).ownBlock=some b→W4.heap.size≤b:=fun b hb=>(HST.out.row.lt b hb).1
         exact(HBW.out.alloc HBW.out.size _).grown HG9.out (by have:=HBW.out.size;simp;omega) hgs
        ·rcases List.mem_append.1 hs with h | h
         ·have h1:=HOKS.out s h
          exact⟨h1.same,h1.plat,h1.on,fun l hl=>by have:=h1.len l hl;omega⟩
         ·rw[List.mem_singleton.1 h];exact HSOK.out
    ·-- B{
     have hn1:n=1:=by omega
     have hq1:((n:Int)==1)=true:=by rw[hn1];rfl
     clear hn0 hn1
     go_upto_region 12 with (at_builtin;refine list_copy (.const (.slice none 0 0)) (.tmp 53) rfl rfl NY Ay cy ys (by rfl) (by rfl) HSY.out.1 (HSY.out.2.2 _ HB47.out) (by have:=HSY.out.2.1;omega) ?_;intro vt6 w8 ho6 hb6;obtain⟨At1,ct1,rfl⟩:=own_form ho6)
     obtain⟨gT1,hgT⟩:=zx w8.heap.size
     obtain⟨W9,hW9⟩:=zx (w8.alloc (.cells #[.slice At1 ys.length ct1,.int .i64 0] 48))
     rw[←hW9,←hgT]
     have hcp7:CpT WM gX W9 (.slice (some ⟨gv,0,none⟩) ND cw) (.slice (some ⟨go,0,none⟩) ND co') (.slice (some ⟨ga,0,none⟩) NA ca') rs0 on acks:=by rw[hW9];exact(HED7.out.toCpT.below hb6).below ((Below.refl _ _).alloc (Nat.le_refl _) _)
     have hed7:EdT gT1 (.slice At1 ys.length ct1) ys WM gX W9 0 (.slice (some ⟨gv,0,none⟩) ND cw) (.slice (some ⟨go,0,none⟩) ND co') (.slice (some ⟨ga,0,none⟩) NA ca') rs0 on acks :=
      ⟨hcp7,by unfold TapeB;rw[hW9,hgT];exact heap_alloc_new w8 _,.inr ⟨by rw[hW9];exact own_below (own_base ho6 HED7.out.hot.size) ((Below.refl _ _).alloc (Nat.le_refl _) _),HU64.out.2⟩,by rw[hgT];exact Nat.le_trans HED7.out.hot.size hb6.size⟩
     obtain⟨vt,hvt⟩:=zx (Value.slice At1 ys.length ct1)
     obtain⟨gT2,hgT2⟩:=zx gT1
     have HED0:=zh hed7
     rw[←hvt] at HED0
     obtain⟨xs,hxs⟩:∃q:List Int,q=ys:=⟨_,rfl⟩
     rw[←hxs] at HED0
     rw[←hgT2] at HED0 ⊢
     clear hW9 hgT hcp7 hed7 ho6 hb6 hvt hxs HED7 hgT2
     obtain⟨gT,hgT3⟩:=zx gT2
     rw[←hgT3] at HED0 ⊢
     clear hgT3
     go_wp2_with fail
     go_loopg [14] 5 (fun z v14 wr=>∃(k I:Nat) (rs:List (Value×List ByteArray)),v14=.int .i64 (k:Int)∧z+k=5∧k≤5∧I≤4 * k∧Hid (EdT gT vt xs WM gX wr I (.slice (some ⟨gv,0,none⟩) ND cw) (.slice (some ⟨go,0,none⟩) ND co') (.slice (some ⟨ga,0,none⟩) NA ca') rs on acks)∧Hid (rs.length=ND∧∀(i:Nat) (x:Value×List ByteArray),rs[i]?=some x→x.2.length≤M+k)∧Hid (SameHeld r ⟨rs.map (·.2),on,r.acks⟩))
     case atStart=>exact⟨0,0,rs0,rfl,rfl,by omega,by omega,HED0.out,⟨HLR.out.1,fun i x hx=>HLR.out.2 i x hx⟩,HSM0.out⟩
     case round =>
      clear HED0
      obtain⟨k,I,rs,rfl,hzk,hk5,hI,HED,HBN,HSM⟩:=hrel
      have HKI:=zh (show(k≤5∧I≤4 * k)∧M≤505 from⟨⟨hk5,hI⟩,HM505.out⟩)
      by_cases hk:k<5
      ·-- K{
       obtain⟨vo,hvo⟩:=zx (Value.slice (some ⟨go,0,none⟩) ND co')
       obtain⟨va,hva⟩:=zx (Value.slice (some ⟨ga,0,none⟩) NA ca')
       have HLN:=zh HBN.out.1
       have HZK:=zh hzk
       rw[←hvo,←hva] at HED
       have HVO:=zh hvo
       have HVA:=zh hva
       have HKL:=zh hk
       clear hvo hva
       go_upto_region 15 with fail
       obtain⟨w10,hw10⟩:=zx (wr:World)
       rw[←hw10] at HED ⊢
       clear hw10
       have HS0:=zh (show w10.drew.cell? ⟨gX,0,none⟩=some (.slice (some ⟨gv,0,none⟩) ND cw) from HED.out.drew.cells.1)
       refine region_tail (S:=(fun w'=>w'.cell? ⟨gX,0,none⟩=some (.slice (some ⟨gv,0,none⟩) ND cw))) [] (by kernel_rfl) HS0.out (fun hHeld=>?_)
       refine tk 0 61 ?_
       refine tk 1 62 ?_
       refine tk 2 63 ?_
       refine tk 3 64 ?_
       refine tk 5 66 ?_
       refine tk 6 67 ?_
       refine tk 7 68 ?_
       refine tk 8 69 ?_
       refine readyT (rs:=[4]) (by kernel_rfl) (by simp) ?_
       refine AllReadyT.cons rfl (fun K hK=>?_) ?_
       ·go_simp
        (go_at_call 18;refine(HED.out.drew.next_any (by have:=HKI.out;omega) ND HN1.out.1.1 (by have:=HN1.out.1.2;omega) _ rfl).mono ?_;rintro e w11 ⟨d,rfl,hdN,hE11,-⟩)
        go_wp2_with fail
        have hS11:=hE11.cells.1
        refine hK.out _ _ ?_ (fun hHeld=>?_)
        ·assumption
        clear hK K
        (try simp only[Act.put,z1,z2,z3])
        refine readyT (rs:=[9]) (by kernel_rfl) (by simp) ?_
        refine AllReadyT.cons rfl (fun K hK=>?_) ?_
        ·go_simp
         (go_at_call 18;refine(hE11.next_any (by have:=HKI.out;omega) ND HN1.out.1.1 (by have:=HN1.out.1.2;omega) _ rfl).mono ?_;rintro e w12 ⟨t,rfl,htN,hE12,-⟩)
         go_wp2_with fail
         have hS12:=hE12.cells.1
         refine hK.out _ _ ?_ (fun hHeld=>?_)
         ·assumption
         clear hK K
         (try simp only[Act.put,z1,z2,z3])
         refine tk 10 15 ?_
         refine tk 11 16 ?_
         refine doneT (by kernel_rfl) ?_ _
         clear HED
         have HED:=zh hE12
         clear hHeld hE11 hE12 hS11 hS12 HS0
         obtain⟨k0,-,-,-,-⟩:=HED.out.cells
         obtain⟨⟨xv,ld⟩,hx⟩:∃x,rs[d]?=some x:=⟨_,List.getElem?_eq_getElem (by rw[HLN.out];exact hdN)⟩
         obtain⟨Ad,cd,hxv⟩:=own_form (HED.out.plat.row d _ hx)
         simp only at hxv
         subst hxv
         obtain⟨Ld,hLd⟩:=zx ld.length
         rw[←hLd] at hx
         have kd:=(HED.out.toCpT.drive HLN.out hx).1
         simp only at kd
         have hdI:(d:Int)<(ND:Int):=by omega
         have htI:(t:Int)<(ND:Int):=by omega
         have HLD:=zh hLd.symm
         by_cases hL0:Ld=0
         ·-- Z{
          have hq:((Ld:Int)==0)=true:=by rw[hL0];rfl
          clear hx hLd hL0
          go_wp2_with fail
          go_roundg (5 - (k+1))
          case measure=>have:=HKI.out;omega
          case rel=>exact⟨k+1,I+1+1,rs,by have:=HKI.out;go_num,by have:=HKI.out;omega,by have:=HKI.out;omega,by have:=HKI.out;(try have:=HJ.out);omega,(by rw[←HVO.out,←HVA.out];exact HED.out),⟨HBN.out.1,fun j x hx=>by have:=HBN.out.2 j x hx;omega⟩,HSM.out⟩
         ·-- P{
          have hq:((Ld:Int)==0)=false:=by simpa using hL0
          obtain⟨gi,cd',hA⟩:=own_block (HED.out.plat.row d _ hx) (by simp only;omega)
          simp only[Value.slice.injEq] at hA
          obtain⟨rfl,-,rfl⟩:=hA
          have HDD:=zh hx
          have hL5:Ld≤510:=by have:=HBN.out.2 d _ hx;simp only at this;have:=HKI.out;omega
          have hL1:1≤Ld:=by omega
          clear hLd hL0 hx
          go_wp2_with fail
          refine(HED.out.next_any (by have:=HKI.out;omega) Ld hL1 (by omega) _ rfl).mono ?_
          rintro e w13 ⟨i,rfl,hiL,hE,-⟩
          clear HED k0 kd hq
          obtain⟨J,hJ⟩:=zx (I+1+1+1)
          rw[←hJ] at hE
          have HJ:=zh hJ
          have HED:=zh hE
          clear hE hJ
          obtain⟨X,hX⟩:∃X,ld[i]?=some X:=⟨_,List.getElem?_eq_getElem (by rw[HLD.out];exact hiL)⟩
          have HXI:=zh hX
          obtain⟨⟨xt,lt⟩,hxt⟩:∃x,rs[t]?=some x:=⟨_,List.getElem?_eq_getElem (by rw[HLN.out];exact htN)⟩
          obtain⟨At,ct,hxv⟩:=own_form (HED.out.plat.row t _ hxt)
          simp only at hxv
          subst hxv
          obtain⟨Lt,hLt⟩:=zx lt.length
          rw[←hLt] at hxt
          have HTT:=zh hxt
          have HLT2:=zh hLt.symm
          have HLTB:=zh (show Lt≤510 from by have:=HBN.out.2 t _ hxt;simp only at this;have:=HKI.out;omega)
          have hiI:(i:Int)<(Ld:Int):=by omega
          have HB3:=zh (And.intro hdN (And.intro htN hiL))
          clear hX hxt hLt
          go_upto_region 18 with fail
          have hC0:=HED.out.drew.toCpT
          have hS0:w13.drew.cell? ⟨gX,0,none⟩=some (.slice (some ⟨gv,0,none⟩) ND cw)∧w13.drew.cell? ⟨gv,d,none⟩=some (.slice (some ⟨gi,0,none⟩) Ld cd)∧w13.drew.cell? ⟨gv,t,none⟩=some (.slice At Lt ct)∧w13.drew.cell? ⟨gi,i,none⟩=some (.string X):=⟨(hC0).cells.1,((hC0).look HLN.out HDD.out HLD.out HXI.out).1,((hC0).drive HLN.out HTT.out).1,((hC0).look HLN.out HDD.out HLD.out HXI.out).2.2.1⟩
          have HS0:=zh hS0
          have HROW:=zh (show w13.drew.ownsRow WM.heap.size 9 1 (.slice At Lt ct) Lt (lt.map Value.string) from by have h:=hC0.plat.row t _ HTT.out;simp only at h;rw[HLT2.out] at h;exact h)
          have HWS:=zh (show WM.heap.size≤w13.drew.heap.size from hC0.hot.size)
          clear hC0 hS0
          refine region_tail (S:=(fun w'=>w'.cell? ⟨gX,0,none⟩=some (.slice (some ⟨gv,0,none⟩) ND cw)∧w'.cell? ⟨gv,d,none⟩=some (.slice (some ⟨gi,0,none⟩) Ld cd)∧w'.cell? ⟨gv,t,none⟩=some (.slice At Lt ct)∧w'.cell? ⟨gi,i,none⟩=some (.string X))) [19] (by kernel_rfl) HS0.out (fun hHeld=>?_)
          refine tk 0 86 ?_
          refine tk 1 87 ?_
          refine tk 2 88 ?_
          refine tk 3 89 ?_
          refine tk 4 90 ?_
          refine tk 5 91 ?_
          refine tk 6 92 ?_
          refine tk 7 93 ?_
          refine tk 8 94 ?_
          refine tk 9 95 ?_
          refine tk 10 96 ?_
          refine tk 11 97 ?_
          refine tk 12 98 ?_
          refine tk 13 99 ?_
          refine tk 14 100 ?_
          refine tk 15 101 ?_
          refine readyT (rs:=[16]) (by kernel_rfl) (by simp) ?_
          refine AllReadyT.cons rfl (fun K hK=>?_) ?_
          ·go_simp
           have hE5:=HED.out.drew.alloc (.cells #[.string X] 9)
           have hC5:=hE5.toCpT
           have hS5:(w13.drew.alloc (.cells #[.string X] 9)).cell? ⟨gX,0,none⟩=some (.slice (some ⟨gv,0,none⟩) ND cw)∧(w13.drew.alloc (.cells #[.string X] 9)).cell? ⟨gv,d,none⟩=some (.slice (some ⟨gi,0,none⟩) Ld cd)∧(w13.drew.alloc (.cells #[.string X] 9)).cell? ⟨gv,t,none⟩=some (.slice At Lt ct)∧(w13.drew.alloc (.cells #[.string X] 9)).cell? ⟨gi,i,none⟩=some (.string X):=⟨(hC5).cells.1,((hC5).look HLN.out HDD.out HLD.out HXI.out).1,((hC5).drive HLN.out HTT.out).1,((hC5).look HLN.out HDD.out HLD.out HXI.out).2.2.1⟩
           refine hK.out _ _ ?_ (fun hHeld=>?_)
           ·assumption
           clear hK K
           (try simp only[Act.put,z1,z2,z3])
           refine readyT (rs:=[17]) (by kernel_rfl) (by simp) ?_
           refine AllReadyT.cons rfl (fun K hK=>?_) ?_
           ·refine step_app_both X (.tmp 93) (.tmp 102) rfl rfl WM.heap.size (.slice At Lt ct) Lt (lt.map Value.string) (by rfl) HROW.out w13.heap.size (by rfl) rfl (by have:=HLTB.out;omega) HWS.out ?_
            intro v6 w6 ho6 hg6 hold6 hat6
            obtain⟨A6,c6,rfl⟩:=own_form ho6
            have hC6:=hC5.after HTT.out hg6 (by simp only;rw[HLT2.out];exact hold6)
            have hS6:w6.cell? ⟨gX,0,none⟩=some (.slice (some ⟨gv,0,none⟩) ND cw)∧w6.cell? ⟨gv,d,none⟩=some (.slice (some ⟨gi,0,none⟩) Ld cd)∧w6.cell? ⟨gv,t,none⟩=some (.slice At Lt ct)∧w6.cell? ⟨gi,i,none⟩=some (.string X):=⟨(hC6).cells.1,((hC6).look HLN.out HDD.out HLD.out HXI.out).1,((hC6).drive HLN.out HTT.out).1,((hC6).look HLN.out HDD.out HLD.out HXI.out).2.2.1⟩
            have m1:=(hC6.drive HLN.out HTT.out).2
            refine hK.out _ _ ?_ (fun hHeld=>?_)
            ·assumption
            clear hK K
            (try simp only[Act.put,z1,z2,z3])
            refine tk 18 104 ?_
            refine readyT (rs:=[19]) (by kernel_rfl) (by simp) ?_
            refine AllReadyT.consT rfl rfl (fun K hK=>?_) ?_
            ·go_simp
             refine hK.out _ _ ?_
             clear hK K
             (try simp only[Act.put,z1,z2,z3])
             refine doneT (by kernel_rfl) ?_ _
             obtain⟨w18,hw18⟩:=zx (w6.setCell ⟨gv,t,none⟩ (.slice A6 (Lt+1) c6):World)
             have HE18:=zh (show EdT gT vt xs WM gX w18 J (.slice (some ⟨gv,0,none⟩) ND cw) vo va (rs.set t (.slice A6 (Lt+1) c6,lt++[X])) on acks from by
              rw[hw18]
              refine EdT.putP HLN.out.symm hE5 HTT.out hg6 (by rw[List.length_append,HLT2.out,List.map_append];exact ho6) (fun b e=>?_) (fun s hs=>?_)
              ·rcases hat6 with h | h
               ·left;rw[←h];exact e
               ·right
                rw[h] at e
                injection e with e
                have hd:w13.drew.heap.size=w13.heap.size:=rfl
                rw[size_al]
                omega
              ·rcases List.mem_append.1 hs with h | h
               ·exact hC5.plat.size t _ HTT.out s h
               ·rw[List.mem_singleton.1 h];exact hC5.plat.size d _ HDD.out X (List.mem_of_getElem? HXI.out))
             rw[←hw18]
             clear hHeld hE5 hC5 hS5 hC6 hS6 m1 ho6 hg6 hold6 hat6 HS0 HROW HWS hw18
             go_wp2_with fail
             refine(HE18.out.next_any (by have:=HJ.out;have:=HKI.out;omega) 2 (by omega) (by omega) _ rfl).mono ?_
             rintro e w16 ⟨q2,rfl,hq2,hE,-⟩
             obtain⟨J2,hJ2⟩:=zx (J+1)
             rw[←hJ2] at hE
             have HJ2:=zh hJ2
             have HE19:=zh hE
             clear hE hJ2
             by_cases hz:q2=0
             ·-- U{
              have f0:((q2:Int)==0)=true:=by rw[hz];rfl
              clear hz
              obtain⟨rs2,hrs2⟩:=zx (rs.set t (Value.slice A6 (Lt+1) c6,lt++[X]))
              rw[←hrs2] at HE19
              have HED2:=HE19
              have HLN2:=zh (show rs2.length=ND from by rw[hrs2,List.length_set];exact HLN.out)
              have HBN2:=zh (show ∀(j:Nat) (x:Value×List ByteArray),rs2[j]?=some x→x.2.length≤M+(k+1) from fun j x hx=>by
               rw[hrs2] at hx
               rcases getSome_set hx with ⟨rfl,rfl⟩ | ⟨_,h2⟩
               ·have h3:=HBN.out.2 t _ HTT.out
                simp only[List.length_append,List.length_singleton] at h3 ⊢
                omega
               ·have:=HBN.out.2 j x h2
                omega)
              obtain⟨⟨yv,ld2⟩,hy⟩:∃x,rs2[d]?=some x:=⟨_,List.getElem?_eq_getElem (by rw[HLN2.out];exact HB3.out.1)⟩
              have hil:i<ld2.length:=by
               have h1:=HB3.out.2.2
               rw[hrs2] at hy
               rcases getSome_set hy with ⟨e1,e2⟩ | ⟨_,h2⟩
               ·subst e1
                have h3:=HDD.out
                rw[HTT.out] at h3
                injection h3 with h3
                injection h3 with h4 h5
                injection e2 with e3 e4
                rw[e4,List.length_append,h5,HLD.out]
                omega
               ·rw[HDD.out] at h2
                injection h2 with h2
                injection h2 with h3 h4
                rw[←h4,HLD.out]
                exact h1
              obtain⟨gi2,cd2,hA⟩:=own_block (HED2.out.plat.row d _ hy) (by simp only;omega)
              simp only at hA
              subst hA
              obtain⟨Ld2,hLd2⟩:=zx ld2.length
              rw[←hLd2] at hy hil
              have HDD2:=zh hy
              have HLD2:=zh hLd2.symm
              have hX2:∃X2,ld2[i]?=some X2:=⟨_,List.getElem?_eq_getElem (by rw[←hLd2];exact hil)⟩
              obtain⟨X2,hX2⟩:=hX2
              have HXI2:=zh hX2
              have hiI2:(i:Int)<(Ld2:Int):=by omega
              have HRS2:=zh hrs2
              clear hrs2 hy hil hLd2 hX2
              go_upto_region 20 with fail
              have hC0:=HED2.out.drew.toCpT
              have HS0:=zh (show w16.drew.cell? ⟨gX,0,none⟩=some (.slice (some ⟨gv,0,none⟩) ND cw)∧w16.drew.cell? ⟨gv,d,none⟩=some (.slice (some ⟨gi2,0,none⟩) Ld2 cd2) from⟨hC0.cells.1,(hC0.look HLN2.out HDD2.out HLD2.out HXI2.out).1⟩)
              clear hC0
              refine region_tail (S:=(fun w'=>w'.cell? ⟨gX,0,none⟩=some (.slice (some ⟨gv,0,none⟩) ND cw)∧w'.cell? ⟨gv,d,none⟩=some (.slice (some ⟨gi2,0,none⟩) Ld2 cd2))) [8] (by kernel_rfl) HS0.out (fun hHeld=>?_)
              refine tk 0 108 ?_
              refine tk 1 109 ?_
              refine tk 2 110 ?_
              refine tk 3 111 ?_
              refine tk 4 112 ?_
              refine tk 5 113 ?_
              refine readyT (rs:=[6]) (by kernel_rfl) (by simp) ?_
              refine AllReadyT.cons rfl (fun K hK=>?_) ?_
              ·go_simp
               (go_at_call 19;refine(HBL.out _).mono ?_;rintro e w7 ⟨rfl,hb7⟩)
               go_wp2_with fail
               have hE7:=HED2.out.drew.below hb7
               have hC7:=hE7.toCpT
               have hS7:w7.cell? ⟨gX,0,none⟩=some (.slice (some ⟨gv,0,none⟩) ND cw)∧w7.cell? ⟨gv,d,none⟩=some (.slice (some ⟨gi2,0,none⟩) Ld2 cd2):=⟨hC7.cells.1,(hC7.look HLN2.out HDD2.out HLD2.out HXI2.out).1⟩
               obtain⟨-,-,m0,m1⟩:=hC7.look HLN2.out HDD2.out HLD2.out HXI2.out
               refine hK.out _ _ ?_ (fun hHeld=>?_)
               ·assumption
               clear hK K
               (try simp only[Act.put,z1,z2,z3])
               refine tk 7 115 ?_
               refine readyT (rs:=[8]) (by kernel_rfl) (by simp) ?_
               refine AllReadyT.consT rfl rfl (fun K hK=>?_) ?_
               ·go_simp
                refine hK.out _ _ ?_
                clear hK K
                (try simp only[Act.put,z1,z2,z3])
                refine doneT (by kernel_rfl) ?_ _
                obtain⟨w20,hw20⟩:=zx (w7.setCell ⟨gi2,i,none⟩ (.string XB):World)
                have HE20:=zh (show EdT gT vt xs WM gX w20 J2 (.slice (some ⟨gv,0,none⟩) ND cw) vo va (rs2.set d (.slice (some ⟨gi2,0,none⟩) Ld2 cd2,ld2.set i XB)) on acks from by rw[hw20];exact EdT.setS hE7 HDD2.out XB HXB.out)
                rw[←hw20]
                clear hHeld hb7 hE7 hC7 hS7 m0 m1 HS0 hw20
                clear f0
                go_wp2_with fail
                go_roundg (5 - (k+1))
                case measure=>have:=HKI.out;omega
                case rel=>exact⟨k+1,J+1,_,by have:=HKI.out;go_num,by have:=HKI.out;omega,by have:=HKI.out;omega,by have:=HKI.out;(try have:=HJ.out);omega,(by rw[←HVO.out,←HVA.out,←HJ2.out];exact HE20.out),⟨by rw[List.length_set];exact HLN2.out,fun j x hx=>by
                  rcases getSome_set hx with ⟨rfl,rfl⟩ | ⟨_,h2⟩
                  ·have h3:=HBN2.out d _ HDD2.out
                   simp only[List.length_set] at h3 ⊢
                   omega
                  ·exact HBN2.out j x h2⟩,(by
                  have hm:rs2.map (·.2)=(rs.map (·.2)).set t (lt++[X]):=by rw[HRS2.out,List.map_set]
                  rw[List.map_set,hm]
                  exact HSM.out.move (ld:=ld) (lt:=lt) (by rw[List.getElem?_map,HDD.out];rfl) (by rw[List.getElem?_map,HTT.out];rfl) HXI.out (by rw[←hm,List.getElem?_map,HDD2.out];rfl) HXZ.out)⟩
               exact AllReadyT.nil
              exact AllReadyT.nil
             ·-- V{
              have f0:((q2:Int)==0)=false:=by
               have:¬((q2:Int)=0):=by omega
               simpa using this
              clear hz
              go_wp2_with fail
              go_roundg (5 - (k+1))
              case measure=>have:=HKI.out;omega
              case rel=>exact⟨k+1,J+1,_,by have:=HKI.out;go_num,by have:=HKI.out;omega,by have:=HKI.out;omega,by have:=HKI.out;(try have:=HJ.out);omega,(by rw[←HVO.out,←HVA.out,←HJ2.out];exact HE19.out),⟨by rw[List.length_set];exact HBN.out.1,fun j x hx=>by
                rcases getSome_set hx with ⟨rfl,rfl⟩ | ⟨_,h2⟩
                ·have h3:=HBN.out.2 t _ HTT.out
                 simp only[List.length_append,List.length_singleton] at h3 ⊢
                 omega
                ·have:=HBN.out.2 j x h2
                 omega⟩,(by rw[List.map_set];exact HSM.out.copy (by rw[List.getElem?_map,HDD.out];rfl) (by rw[List.getElem?_map,HTT.out];rfl) HXI.out)⟩
            exact AllReadyT.nil
           exact AllReadyT.nil
          exact AllReadyT.nil
        exact AllReadyT.nil
       exact AllReadyT.nil
      ·-- D{
       obtain rfl:k=5:=by omega
       obtain⟨x',hx'⟩:∃q:Re,q=⟨rs.map (·.2),on,acks⟩:=⟨_,rfl⟩
       have hre:ReS wr (Fr WM.heap.size wr.heap.size) (.slice (some ⟨gv,0,none⟩) ND cw) (.slice (some ⟨go,0,none⟩) ND co') (.slice (some ⟨ga,0,none⟩) NA ca') x':=by rw[hx'];exact HED.out.reS HAI.out
       have hsok:SttOk r ND (n+1) x':=by
        rw[hx']
        refine⟨?_,by rw[List.length_map];exact HBN.out.1,HOA.out.1,fun l hl=>?_⟩
        ·rw[HOA.out.2];exact HSM.out
        ·obtain⟨y,hy,rfl⟩:=List.mem_map.1 hl
         obtain⟨j,hj⟩:=List.getElem?_of_mem hy
         have h1:=HBN.out.2 j y hj
         have h2:=HMN.out
         omega
       have HSOK:=zh hsok
       obtain⟨k0,k1,k2,-,hXl⟩:=HED.out.cells
       obtain⟨gb,hgb⟩:=zx wr.heap.size
       have hst8:=(HST.out.below HED.out.hot).below ((Below.refl wr.heap.size wr).alloc (Nat.le_refl _) (.cells #[(.slice (some ⟨gv,0,none⟩) ND cw),(.slice (some ⟨go,0,none⟩) ND co'),(.slice (some ⟨ga,0,none⟩) NA ca')] 27))
       have hgs:∀b,(Value.slice (some ⟨gs,0,none⟩) NS cs).ownBlock=some b→b<WM.heap.size:=fun b hb=>(HST.out.row.lt b hb).2
       have hre8:ReS (wr.alloc (.cells #[(.slice (some ⟨gv,0,none⟩) ND cw),(.slice (some ⟨go,0,none⟩) ND co'),(.slice (some ⟨ga,0,none⟩) NA ca')] 27)) (fun b=>b<(wr.alloc (.cells #[(.slice (some ⟨gv,0,none⟩) ND cw),(.slice (some ⟨go,0,none⟩) ND co'),(.slice (some ⟨ga,0,none⟩) NA ca')] 27)).heap.size∧(Value.slice (some ⟨gs,0,none⟩) NS cs).ownBlock≠some b) (.slice (some ⟨gv,0,none⟩) ND cw) (.slice (some ⟨go,0,none⟩) ND co') (.slice (some ⟨ga,0,none⟩) NA ca') x' :=
        (hre.keep (fun b hb=>Below.heap_alloc _ _ b hb.2)).mono (fun b hb=>⟨by simp;have:=hb.2;omega,fun e=>by have:=hgs b e;have:=hb.1;omega⟩)
       have HST8:=zh hst8
       have HRE8:=zh hre8
       have HBW:=zh (HBR.out.trans (HED.out.hot.mono HBR.out.size))
       clear hre hsok hst8 hgs hre8 hk5 hI hzk HED HKI hgb
       go_wp2_with (at_builtin;refine app_st ⟨(.slice (some ⟨gv,0,none⟩) ND cw),(.slice (some ⟨go,0,none⟩) ND co'),(.slice (some ⟨ga,0,none⟩) NA ca'),x'⟩ (.tmp 116) (.tmp 118) rfl rfl W4.heap.size (.slice (some ⟨gs,0,none⟩) NS cs) L (by rfl) HST8.out wr.heap.size (by rfl) (heap_alloc_new wr _) ⟨rfl,rfl,rfl⟩ HRE8.out (by have:=HLL.out;omega) (by have:=HBW.out.size;simp;omega) ?_;intro v9 w9 hst9 hg9;have HST9:=zh hst9;have HG9:=zh hg9;clear hst9 hg9)
       go_roundg (2 - (n+1))
       case measure=>have:=HN2.out;omega
       case rel =>
        refine⟨n+1,L++[(⟨(.slice (some ⟨gv,0,none⟩) ND cw),(.slice (some ⟨go,0,none⟩) ND co'),(.slice (some ⟨ga,0,none⟩) NA ca'),x'⟩:Stt)],by have:=HN2.out;go_num,by have:=HN2.out;omega,by rw[List.length_append,HLL.out];rfl,HST9.out,?_,fun s hs=>?_⟩
        ·have hgs:∀b,(Value.slice (some ⟨gs,0,none⟩) NS cs).ownBlock=some b→W4.heap.size≤b:=fun b hb=>(HST.out.row.lt b hb).1
         exact(HBW.out.alloc HBW.out.size _).grown HG9.out (by have:=HBW.out.size;simp;omega) hgs
        ·rcases List.mem_append.1 hs with h | h
         ·have h1:=HOKS.out s h
          exact⟨h1.same,h1.plat,h1.on,fun l hl=>by have:=h1.len l hl;omega⟩
         ·rw[List.mem_singleton.1 h];exact HSOK.out
   ·-- L2{
    obtain rfl:n=2:=by omega
    obtain⟨WZ,hWZ⟩:=zx (WM:World)
    rw[←hWZ] at HST HBR ⊢
    have HBZ:=zh HBR.out
    clear hWZ
    obtain⟨⟨p0,o0,e0,x0⟩,hs0⟩:∃s,L[0]?=some s:=⟨_,List.getElem?_eq_getElem (by have:=HLL.out;omega)⟩
    obtain⟨⟨p1,o1,e1,x1⟩,hs1⟩:∃s,L[1]?=some s:=⟨_,List.getElem?_eq_getElem (by have:=HLL.out;omega)⟩
    obtain⟨⟨p2,o2,e2,x2⟩,hs2⟩:∃s,L[2]?=some s:=⟨_,List.getElem?_eq_getElem (by have:=HLL.out;omega)⟩
    obtain⟨a0,a1,a2⟩:=HST.out.cells hNS.symm hs0
    obtain⟨b0,b1,b2⟩:=HST.out.cells hNS.symm hs1
    obtain⟨d0,d1,d2⟩:=HST.out.cells hNS.symm hs2
    simp only at a0 a1 a2 b0 b1 b2 d0 d1 d2
    have r0:=(HST.out.each _ (List.mem_of_getElem? hs0)).mono (fun b hb=>(show Bl WZ.heap.size b from hb.1))
    have r1:=(HST.out.each _ (List.mem_of_getElem? hs1)).mono (fun b hb=>(show Bl WZ.heap.size b from hb.1))
    have r2:=(HST.out.each _ (List.mem_of_getElem? hs2)).mono (fun b hb=>(show Bl WZ.heap.size b from hb.1))
    have k0:=HOKS.out _ (List.mem_of_getElem? hs0)
    have k1:=HOKS.out _ (List.mem_of_getElem? hs1)
    have k2:=HOKS.out _ (List.mem_of_getElem? hs2)
    simp only at r0 r1 r2 k0 k1 k2
    have sz:∀{x:Re},SttOk r ND 2 x→x.plat.length≤1000∧(∀l∈x.plat,l.length≤1000)∧x.acks.length≤1000000:=fun {x} h =>
     ⟨by rw[h.plat];have:=HN1.out.1;omega,fun l hl=>by have:=h.len l hl;omega,by rw[h.same.1,HN1.out.2.2.2];exact HN1.out.2.1.2⟩
    have hb:=HBZ.out
    have hfs:=HFS.out.below hb
    have hEX:=HEX.out
    have hp:∀(pa oa ea pb ob eb:Value) (xa xb:Re),ReS WZ (Bl WZ.heap.size) pa oa ea xa→ReS WZ (Bl WZ.heap.size) pb ob eb xb→SttOk r ND 2 xa→SttOk r ND 2 xb→∀W (hb:Below WZ.heap.size WZ W),Calls Tryz.prog 20 #[.agg #[.int .i64 EX,fl,fm,fd,fv,fp,.slice A6 n6 c6x],.agg #[pa,oa,ea],.agg #[pb,ob,eb]] W fun e w'=>e=.returned (.bool true)∧Below W.heap.size W w':=fun pa oa ea pb ob eb xa xb ra rb ka kb W hb=>by
     have h:=harmless_any 2 (by omega) fl fm fd fv fp (.slice A6 n6 c6x) pa oa ea pb ob eb F xa xb W (hfs.below hb) HOK.out (ra.below hb) (sz ka).1 (sz ka).2.1 (sz ka).2.2 (rb.below hb) (sz kb).1 (sz kb).2.1 (sz kb).2.2
     rw[(ka.same.symm.trans kb.same).harm,←hEX] at h
     exact h
    have HP01:=zh (hp _ _ _ _ _ _ _ _ r0 r1 k0 k1)
    have HP12:=zh (hp _ _ _ _ _ _ _ _ r1 r2 k1 k2)
    have HP02:=zh (hp _ _ _ _ _ _ _ _ r0 r2 k0 k2)
    obtain⟨NLS,hNLS⟩:=zx ((keyL F r (condR true) F.ext.toNat F.vols.length 0).length)
    have hlo:∀(pa oa ea:Value) (xa:Re),ReS WZ (Bl WZ.heap.size) pa oa ea xa→SttOk r ND 2 xa→∀W (hb:Below WZ.heap.size WZ W),Calls Tryz.prog 13 #[.agg #[.int .i64 EX,fl,fm,fd,fv,fp,.slice A6 n6 c6x],.agg #[pa,oa,ea]] W fun e w'=>∃A c,e=.returned (.slice A NLS c)∧Below W.heap.size W w':=fun pa oa ea xa ra ka W hb=>by
     have h:=lost_any 2 (by omega) fl fm fd fv fp (.slice A6 n6 c6x) pa oa ea F xa W (hfs.below hb) HOK.out (ra.below hb) (sz ka).1 (sz ka).2.1 (sz ka).2.2
     rw[←hEX] at h
     refine h.mono (fun e w' ⟨u,he,ho,hbb⟩=>?_)
     obtain⟨A,c,hu⟩:=ho.form
     refine⟨A,c,?_,hbb⟩
     rw[he,hu,hNLS]
     rw[show EX=F.ext from hEX,ka.same.lost]
    have HL1:=zh (hlo _ _ _ _ r1 k1)
    have HL2:=zh (hlo _ _ _ _ r2 k2)
    obtain⟨⟨c0,c1,c2,c3,c4,c5,c6⟩,-⟩:=HC.out WZ.drew hb.drew
    have HQ4:=zh (show g<WZ.heap.size∧gs<WZ.heap.size from⟨Nat.lt_of_lt_of_le HGP.out.1 hb.size,World.block_lt_of_cell? WZ _ a0⟩)
    have HS22:=zh (show HeldQ WZ g gs (.int .i64 EX) fl fm fd fv fp (.slice A6 n6 c6x) p0 o0 e0 p1 o1 e1 p2 o2 e2 WZ.drew from⟨c0,c1,c2,c3,c4,c5,c6,a0,a1,a2,b0,b1,b2,d0,d1,d2,(Below.refl _ _).drew⟩)
    obtain rfl:NS=3:=by have:=HNS.out.2;omega
    clear hs0 hs1 hs2 a0 a1 a2 b0 b1 b2 d0 d1 d2 r0 r1 r2 k0 k1 k2 sz hb hfs hEX hp hlo hNLS hNS HNS HLL c0 c1 c2 c3 c4 c5 c6
    go_upto_region 22 with fail
    refine region_tail (S:=(fun w'=>w'.cell? ⟨g,0,none⟩=some (.int .i64 EX)∧w'.cell? ⟨g,1,none⟩=some fl∧w'.cell? ⟨g,2,none⟩=some fm∧w'.cell? ⟨g,3,none⟩=some fd∧w'.cell? ⟨g,4,none⟩=some fv∧w'.cell? ⟨g,5,none⟩=some fp∧w'.cell? ⟨g,6,none⟩=some (.slice A6 n6 c6x)∧w'.cell? ⟨gs,0,none⟩=some p0∧w'.cell? ⟨gs,1,none⟩=some o0∧w'.cell? ⟨gs,2,none⟩=some e0∧w'.cell? ⟨gs,3,none⟩=some p1∧w'.cell? ⟨gs,4,none⟩=some o1∧w'.cell? ⟨gs,5,none⟩=some e1∧w'.cell? ⟨gs,6,none⟩=some p2∧w'.cell? ⟨gs,7,none⟩=some o2∧w'.cell? ⟨gs,8,none⟩=some e2∧Below WZ.heap.size WZ w')) [] (by kernel_rfl) HS22.out (fun hHeld=>?_)
    refine tk 0 120 ?_
    refine tk 1 121 ?_
    refine tk 2 122 ?_
    refine tk 3 123 ?_
    refine tk 4 124 ?_
    refine tk 5 125 ?_
    refine tk 6 126 ?_
    refine tk 8 128 ?_
    refine tk 9 129 ?_
    refine tk 10 130 ?_
    refine tk 11 131 ?_
    refine tk 12 132 ?_
    refine tk 13 133 ?_
    refine tk 14 134 ?_
    refine tk 16 136 ?_
    refine tk 17 137 ?_
    refine tk 18 138 ?_
    refine tk 19 139 ?_
    refine tk 20 140 ?_
    refine tk 21 141 ?_
    refine tk 22 142 ?_
    refine readyT (rs:=[7]) (by kernel_rfl) (by simp) ?_
    refine AllReadyT.cons rfl (fun K hK=>?_) ?_
    ·go_simp
     (go_at_call 20;refine(HP01.out _ (HeldQ.bl (by assumption))).mono ?_;rintro e w77 ⟨rfl,hb77⟩)
     go_wp2_with fail
     refine hK.out _ _ ?_ (fun hHeld=>?_)
     ·(first|assumption|exact HeldQ.below (by assumption) hb93 HQ4.out.1 HQ4.out.2|exact HeldQ.below (by assumption) hb85 HQ4.out.1 HQ4.out.2|exact HeldQ.below (by assumption) hb77 HQ4.out.1 HQ4.out.2)
     clear hK K
     (try simp only[Act.put,z1,z2,z3])
     refine readyT (rs:=[15]) (by kernel_rfl) (by simp) ?_
     refine AllReadyT.cons rfl (fun K hK=>?_) ?_
     ·go_simp
      (go_at_call 20;refine(HP12.out _ (HeldQ.bl (by assumption))).mono ?_;rintro e w85 ⟨rfl,hb85⟩)
      go_wp2_with fail
      refine hK.out _ _ ?_ (fun hHeld=>?_)
      ·(first|assumption|exact HeldQ.below (by assumption) hb93 HQ4.out.1 HQ4.out.2|exact HeldQ.below (by assumption) hb85 HQ4.out.1 HQ4.out.2|exact HeldQ.below (by assumption) hb77 HQ4.out.1 HQ4.out.2)
      clear hK K
      (try simp only[Act.put,z1,z2,z3])
      refine readyT (rs:=[23]) (by kernel_rfl) (by simp) ?_
      refine AllReadyT.cons rfl (fun K hK=>?_) ?_
      ·go_simp
       (go_at_call 20;refine(HP02.out _ (HeldQ.bl (by assumption))).mono ?_;rintro e w93 ⟨rfl,hb93⟩)
       go_wp2_with fail
       refine hK.out _ _ ?_ (fun hHeld=>?_)
       ·(first|assumption|exact HeldQ.below (by assumption) hb93 HQ4.out.1 HQ4.out.2|exact HeldQ.below (by assumption) hb85 HQ4.out.1 HQ4.out.2|exact HeldQ.below (by assumption) hb77 HQ4.out.1 HQ4.out.2)
       clear hK K
       (try simp only[Act.put,z1,z2,z3])
       refine tk 24 18 ?_
       refine tk 25 19 ?_
       refine tk 26 20 ?_
       refine doneT (by kernel_rfl) ?_ _
       obtain⟨WY,hWY⟩:=zx (w93:World)
       have HBY:=zh (show Below WZ.heap.size WZ WY from by rw[hWY];exact HeldQ.bl hHeld)
       rw[←hWY] at hHeld ⊢
       have HQ5:=zh (show g<WY.heap.size∧gs<WY.heap.size from⟨Nat.lt_of_lt_of_le HQ4.out.1 HBY.out.size,Nat.lt_of_lt_of_le HQ4.out.2 HBY.out.size⟩)
       have HS23:=zh (HeldQ.start hHeld)
       clear hWY hHeld hb77 hb85 hb93
       go_upto_region 23 with fail
       refine region_tail (S:=(fun w'=>w'.cell? ⟨g,0,none⟩=some (.int .i64 EX)∧w'.cell? ⟨g,1,none⟩=some fl∧w'.cell? ⟨g,2,none⟩=some fm∧w'.cell? ⟨g,3,none⟩=some fd∧w'.cell? ⟨g,4,none⟩=some fv∧w'.cell? ⟨g,5,none⟩=some fp∧w'.cell? ⟨g,6,none⟩=some (.slice A6 n6 c6x)∧w'.cell? ⟨gs,0,none⟩=some p0∧w'.cell? ⟨gs,1,none⟩=some o0∧w'.cell? ⟨gs,2,none⟩=some e0∧w'.cell? ⟨gs,3,none⟩=some p1∧w'.cell? ⟨gs,4,none⟩=some o1∧w'.cell? ⟨gs,5,none⟩=some e1∧w'.cell? ⟨gs,6,none⟩=some p2∧w'.cell? ⟨gs,7,none⟩=some o2∧w'.cell? ⟨gs,8,none⟩=some e2∧Below WY.heap.size WY w')) [] (by kernel_rfl) HS23.out (fun hHeld=>?_)
       refine readyT (rs:=[0]) (by kernel_rfl) (by simp) ?_
       refine AllReadyT.cons rfl (fun K hK=>?_) ?_
       ·go_simp
        (go_at_call 10;refine(HAW.out _).mono ?_;rintro e w50 ⟨rfl,hb50⟩)
        go_wp2_with fail
        refine hK.out _ _ ?_ (fun hHeld=>?_)
        ·(first|assumption|exact HeldQ.below (by assumption) hb69 HQ5.out.1 HQ5.out.2|exact HeldQ.below (by assumption) hb63 HQ5.out.1 HQ5.out.2|exact HeldQ.below (by assumption) hb50 HQ5.out.1 HQ5.out.2)
        clear hK K
        (try simp only[Act.put,z1,z2,z3])
        refine tk 1 145 ?_
        refine tk 2 146 ?_
        refine tk 3 147 ?_
        refine tk 4 148 ?_
        refine tk 5 149 ?_
        refine tk 6 150 ?_
        refine tk 7 151 ?_
        refine tk 8 152 ?_
        refine tk 9 153 ?_
        refine tk 10 154 ?_
        refine tk 11 155 ?_
        refine tk 12 156 ?_
        refine tk 13 157 ?_
        refine tk 14 158 ?_
        refine tk 15 159 ?_
        refine tk 16 160 ?_
        refine tk 17 161 ?_
        refine tk 18 162 ?_
        refine tk 21 165 ?_
        refine tk 22 166 ?_
        refine tk 23 167 ?_
        refine tk 24 168 ?_
        refine readyT (rs:=[19]) (by kernel_rfl) (by simp) ?_
        refine AllReadyT.cons rfl (fun K hK=>?_) ?_
        ·go_simp
         (go_at_call 13;refine(HL2.out _ (HBY.out.trans ((HeldQ.bl (by assumption)).mono HBY.out.size))).mono ?_;rintro e w63 ⟨AA63,cc63,rfl,hb63⟩)
         go_wp2_with fail
         refine hK.out _ _ ?_ (fun hHeld=>?_)
         ·(first|assumption|exact HeldQ.below (by assumption) hb69 HQ5.out.1 HQ5.out.2|exact HeldQ.below (by assumption) hb63 HQ5.out.1 HQ5.out.2|exact HeldQ.below (by assumption) hb50 HQ5.out.1 HQ5.out.2)
         clear hK K
         (try simp only[Act.put,z1,z2,z3])
         refine tk 20 164 ?_
         refine readyT (rs:=[25]) (by kernel_rfl) (by simp) ?_
         refine AllReadyT.cons rfl (fun K hK=>?_) ?_
         ·go_simp
          (go_at_call 13;refine(HL1.out _ (HBY.out.trans ((HeldQ.bl (by assumption)).mono HBY.out.size))).mono ?_;rintro e w69 ⟨AA69,cc69,rfl,hb69⟩)
          go_wp2_with fail
          refine hK.out _ _ ?_ (fun hHeld=>?_)
          ·(first|assumption|exact HeldQ.below (by assumption) hb69 HQ5.out.1 HQ5.out.2|exact HeldQ.below (by assumption) hb63 HQ5.out.1 HQ5.out.2|exact HeldQ.below (by assumption) hb50 HQ5.out.1 HQ5.out.2)
          clear hK K
          (try simp only[Act.put,z1,z2,z3])
          refine tk 26 170 ?_
          refine tk 27 171 ?_
          refine tk 28 172 ?_
          refine tk 29 173 ?_
          refine tk 30 6 ?_
          refine doneT (by kernel_rfl) ?_ _
          have hbz:=HeldQ.bl hHeld
          go_wp2_with fail
          go_ret
          exact⟨rfl,HB4M.out.trans ((HBZ.out.trans ((HBY.out.trans (hbz.mono HBY.out.size)).mono HBZ.out.size)).mono HB4M.out.size)⟩
         exact AllReadyT.nil
        exact AllReadyT.nil
       exact AllReadyT.nil
      exact AllReadyT.nil
     exact AllReadyT.nil
    exact AllReadyT.nil
end Go.Proofs.YtmehadfhcdpfcaaGreat
