/- The index of the good pieces, walked. -/
import Derived.Test.YtcfkllnpkmebpaaGreatDoorMj04
import Derived.Test.YtcfkllnpkmebpaaGreatDoorMj01
set_option maxRecDepth 100000
set_option maxHeartbeats 12800000
namespace Go.Proofs.YtcfkllnpkmebpaaGreatDoor
open Go.RowKit
open Go.Maps (Keyed)
set_option linter.unusedVariables false
set_option linter.unusedSimpArgs false
theorem zero_int19(u:World):(zeroValue 3).run Tryz.prog u=.ok (.int .i64 0) u:=by kernel_rfl
theorem key_law19:Keyed Tryz.prog 147:=Keyed.of_law key_law
theorem zero_fds(u:World):(zeroValue 143).run Tryz.prog u=.ok (.slice none 0 0) u:=by kernel_rfl
def verF(l:List Ac):Int→Int→Option Value:=fun x y=>(verOf l x y).map (Value.int .i64)
theorem verOf_have{l:List Ac} {j:Nat} (hj:j<l.length) {x y:Int} (h:(verOf (l.take j) x y).isSome=true):verOf (l.take (j+1)) x y=verOf (l.take j) x y:=by
 unfold verOf at h ⊢
 rw[List.take_succ_eq_append_getElem hj,List.find?_append]
 cases e:(l.take j).find? fun a=>a.vol==x&&a.stripe==y with
 | none=>rw[e] at h;cases h
 | some a=>rfl
theorem verOf_new{l:List Ac} {j:Nat} (hj:j<l.length) (h:verOf (l.take j) l[j].vol l[j].stripe=none):verOf (l.take (j+1)) l[j].vol l[j].stripe=some l[j].ver:=by
 unfold verOf at h ⊢
 rw[Option.map_eq_none_iff] at h
 rw[List.take_succ_eq_append_getElem hj,List.find?_append,h]
 simp[List.find?]
theorem verF_old{l:List Ac} {j:Nat} (hj:j<l.length) (h:(verOf (l.take j) l[j].vol l[j].stripe).isSome=true):∀x y,verF (l.take (j+1)) x y=verF (l.take j) x y:=by
 intro x y
 unfold verF
 by_cases e:l[j].vol=x∧l[j].stripe=y
 ·obtain⟨rfl,rfl⟩:=e
  rw[verOf_have hj h]
 ·cases hv:verOf (l.take j) x y with
  | none=>rw[verOf_take hv hj e]
  | some u=>rw[verOf_have hj (by rw[hv];rfl),hv]
theorem verF_upd{l:List Ac} {j:Nat} (hj:j<l.length) (h:verOf (l.take j) l[j].vol l[j].stripe=none):∀x y,upd (verF (l.take j)) l[j].vol l[j].stripe (.int .i64 l[j].ver) x y=verF (l.take (j+1)) x y:=by
 intro x y
 by_cases e:x=l[j].vol∧y=l[j].stripe
 ·obtain⟨rfl,rfl⟩:=e
  rw[upd_same]
  unfold verF
  rw[verOf_new hj h];rfl
 ·rw[upd_other e]
  unfold verF
  cases hv:verOf (l.take j) x y with
  | none=>rw[verOf_take hv hj (fun e2=>e ⟨e2.1.symm,e2.2.symm⟩)]
  | some u=>rw[verOf_have hj (by rw[hv];rfl),hv]
theorem index_any(vp vo va:Value) (r:Re) (w:World) (h:ReS w (Bl w.heap.size) vp vo va r) (hp:r.plat.length≤1000) (hl:∀l∈r.plat,l.length≤1000) (hac:r.acks.length≤1000000) :
  Calls Tryz.prog 70 #[.agg #[vp,vo,va]] w fun e w'=>∃b n f,e=.returned (.map (some b))∧w.heap.size≤b∧MapKV w' 147 b n f∧Groups w' (b+1) r.acks f (pieces r)∧Below w.heap.size w w':=by
 obtain⟨Ap,cp,rfl,-,hmp⟩:=h.1.form
 obtain⟨Aa,ca,rfl,-,hma⟩:=h.2.2.form
 have HR:=zh h
 have HPL:=zh hl
 have HTO:=zh (piecesTo_length r 1000 hl)
 obtain⟨W0,hW0⟩:=zx (w.alloc (.cells #[.slice Ap r.plat.length cp,vo,.slice Aa r.acks.length ca] 40))
 obtain⟨q,hq⟩:=zx w.heap.size
 have c0:W0.cell? ⟨q,0,none⟩=some (.slice Ap r.plat.length cp):=by rw[hW0,hq];simp
 have hb0:Below w.heap.size w W0:=by rw[hW0];exact(Below.refl _ _).alloc (Nat.le_refl _) _
 have hq0:q<W0.heap.size:=by rw[hW0,hq];simp
 obtain⟨Bv,hBv⟩:=zx W0.heap.size
 obtain⟨W1,hW1⟩:=zx (W0.alloc (.map #[] 0))
 have hM0:MapKV W1 147 Bv 0 (fun _ _=>none):=by rw[hW1,hBv];exact MapKV.made _ _
 have hb1:Below Bv W0 W1:=by rw[hW1,hBv];exact(Below.refl _ _).alloc (Nat.le_refl _) _
 have HQ:=zh hq
 have HW0:=zh hW0
 have HB0:=zh hb0
 have HC0:=zh c0
 have HBV:=zh hBv
 have hBq:Bv=q+1:=by rw[hBv,hW0,hq];simp
 have HBQ:=zh hBq
 have HW1:=zh hW1
 have HM0:=zh hM0
 have HB1:=zh hb1
 obtain⟨D,hD⟩:=zx r.plat.length
 obtain⟨N,hN⟩:=zx r.acks.length
 rw[←hD,←hN] at HW0
 rw[←hD] at HC0 hp ⊢
 rw[←hN] at hac ⊢
 have HD:=zh hD
 have HN:=zh hN
 have hmm:=@run_makeMap Tryz.prog
 clear h hl hW0 hq hb0 c0 hD hN hBv hW1 hM0 hb1 hBq
 go_enter Tryz.func70,Tryz.ntmps70
 go_wp2_with fail
 clear hmm
 rw[←HW0.out,←HQ.out,←HBQ.out,←HW1.out]
 have hBw:w.heap.size≤Bv:=by rw[HBV.out];exact HB0.out.size
 have hW1s:Bv<W1.heap.size:=HM0.out.lt
 go_loopg [24] N (fun z v24 wr=>∃j:Nat,j≤N∧z=N - j∧v24=.int .i64 (j:Int)∧Hid (∃n,n≤j∧MapKV wr 147 Bv n (verF (r.acks.take j)))∧Below Bv W0 wr)
 case atStart=>exact⟨0,by omega,rfl,rfl,⟨0,by omega,HM0.out⟩,HB1.out⟩
 case round =>
  obtain⟨j,hj,rfl,rfl,HM,hbr⟩:=hrel
  have hbw:=HB0.out.trans (hbr.mono hBw)
  have hsz:Bv≤wr.heap.size:=by rw[HBV.out];exact hbr.size
  by_cases hlt:j<N
  ·-- L1{
   have hjl:j<r.acks.length:=by rw[←HN.out];exact hlt
   obtain⟨n,hn,hM⟩:=HM.out
   obtain⟨b,off,cs,rfl,hRb,-,hcs,hk,i1,i2,i3,i4⟩:=HR.out.2.2.at_ hjl
   obtain⟨d0,d1,d2,d3⟩:=four hcs hk
   have k0:=(hbw.cell (p:=⟨b,off+j * 4,none⟩) hRb).trans d0
   have k1:=(hbw.cell (p:=⟨b,off+j * 4+1,none⟩) hRb).trans d1
   have k2:=(hbw.cell (p:=⟨b,off+j * 4+2,none⟩) hRb).trans d2
   have k3:=(hbw.cell (p:=⟨b,off+j * 4+3,none⟩) hRb).trans d3
   have hold:=fun hs=>verF_old (l:=r.acks) hjl hs
   have hnew:=fun hs=>verF_upd (l:=r.acks) hjl hs
   generalize r.acks[j]=x at *
   have HOLD:=zh hold
   have HNEW:=zh hnew
   have HMJ:=zh hM
   have hblt:b<wr.heap.size:=Nat.lt_of_lt_of_le hRb hbw.size
   clear hcs hk d0 d1 d2 d3 hold hnew hM HM cs
   cases hv:verOf (r.acks.take j) x.vol x.stripe with
   | none =>
    have hu:verF (r.acks.take j) x.vol x.stripe=none:=by unfold verF;rw[hv];rfl
    have HNW:=zh (HNEW.out hv)
    have HU:=zh hu
    clear hv hu
    go_wp2_with (first
     | (at_lookup;refine kv_look_ok rfl _ _ _ 147 3 rfl key_two Tryz.underlying206 Bv n (verF (r.acks.take j)) x.vol x.stripe (.int .i64 0) (by rfl) (by rfl) ((HMJ.out.kept (World.grownBy_alloc _ _ none) (by simp)).kept (World.grownBy_alloc _ _ none) (by simp)) (zero_int19 _) i1 i2 _ HU.out ?_)
     | (at_mapUpdate;refine kv_store rfl _ _ _ _ 147 3 rfl key_two Tryz.underlying206 Bv n (verF (r.acks.take j)) x.vol x.stripe _ (by rfl) (by rfl) (by rfl) ((HMJ.out.kept (World.grownBy_alloc _ _ none) (by simp)).kept (World.grownBy_alloc _ _ none) (by simp)) (by unfold maxLen;omega) i1 i2 ?_;intro w4 hM4 hg4))
    go_roundg (N - (j+1))
    case measure=>omega
    case rel=>exact⟨j+1,by omega,rfl,by go_num,⟨n+1,by omega,MapKV.congr key_two hM4 (fun x y _ _=>HNW.out x y)⟩,((hbr.alloc hsz _).alloc (by simp;omega) _).grown hg4 (by simp;omega) (fun b e=>by injection e with e;omega)⟩
   | some u =>
    have hu:verF (r.acks.take j) x.vol x.stripe=some (.int .i64 u):=by unfold verF;rw[hv];rfl
    have HOD:=zh (HOLD.out (by rw[hv];rfl))
    have HU:=zh hu
    clear hv hu
    go_wp2_with (at_lookup;refine kv_look_ok rfl _ _ _ 147 3 rfl key_two Tryz.underlying206 Bv n (verF (r.acks.take j)) x.vol x.stripe (.int .i64 0) (by rfl) (by rfl) ((HMJ.out.kept (World.grownBy_alloc _ _ none) (by simp)).kept (World.grownBy_alloc _ _ none) (by simp)) (zero_int19 _) i1 i2 _ HU.out ?_)
    go_roundg (N - (j+1))
    case measure=>omega
    case rel=>exact⟨j+1,by omega,rfl,by go_num,⟨n,by omega,MapKV.congr key_two ((HMJ.out.kept (World.grownBy_alloc _ _ none) (by simp)).kept (World.grownBy_alloc _ _ none) (by simp)) (fun x y _ _=>(HOD.out x y).symm)⟩,(hbr.alloc hsz _).alloc (by simp;omega) _⟩
  ·-- L2{
   obtain⟨n,hn,hM⟩:=HM.out
   have hjN:r.acks.take j=r.acks:=by rw[List.take_of_length_le (by rw[←HN.out];omega)]
   rw[hjN] at hM
   obtain⟨W2,hW2⟩:=zx (wr.alloc (.map #[] 0))
   obtain⟨Bo,hBo⟩:=zx wr.heap.size
   have hMo:MapKV W2 147 Bo 0 (fun _ _=>none):=by rw[hW2,hBo];exact MapKV.made _ _
   have hMv:=hM.kept (World.grownBy_alloc wr (.map #[] 0) none) (by simp)
   rw[←hW2] at hMv
   have hb2:Below Bv W0 W2:=by rw[hW2];exact hbr.alloc hsz _
   have hvo:Bv<Bo:=by rw[hBo];exact hM.lt
   have hBo2:Bo<W2.heap.size:=hMo.lt
   obtain⟨Dv,hDown,hDv⟩:=hMv
   have hcnt:Maps.size Dv≤N:=by have:=hDown.size_le;omega
   have HDN:=zh hDown
   have HDV:=zh hDv
   have HMO:=zh hMo
   have HB2:=zh hb2
   have HW2:=zh hW2
   have HBO:=zh hBo
   have hmm:=@run_makeMap Tryz.prog
   clear hW2 hBo hMo hb2 hDown hDv hM HM hjN hmp hma
   go_wp2_with (first
    | (at_range;(try rw[←HW2.out]);refine wpList_range_own _ rfl _ _ rfl 147 3 key_law19 Tryz.underlying206 _ Bv n Dv (by rfl) HDN.out ?_;intro w3 hrg3 hg3 hs3))
   rw[←HBO.out]
   go_frame
   clear hmm
   obtain⟨Br,hBr⟩:=zx W2.heap.size
   rw[←hBr] at hrg3 ⊢
   have HBR:=zh hBr
   have hb3:Below Bv W0 w3:=HB2.out.grown hg3 (by rw[←hBr];omega) (fun b e=>by cases e)
   have HRG:=zh hrg3
   have HG3:=zh hg3
   have hBr2:Bo<Br:=by rw[hBr];exact hBo2
   have hs3b:Br<w3.heap.size:=by rw[hs3,←hBr];omega
   have HB3:=zh hb3
   clear hrg3 hg3 hs3 hBr hb3
   go_loopg [50] (Maps.size Dv) (fun z v50 wx=>∃left,Hid (wx.ranges Tryz.prog 147 rawR Bv Br n Dv left z)∧Hid (∃m,m+z≤N∧MapKV wx 147 Bo m (gotten 147 Dv left (.slice none 0 0)))∧Below Bv W0 wx∧Br<wx.heap.size)
   case atStart=>exact⟨_,HRG.out,⟨0,by omega,MapKV.congr key_two (HMO.out.kept HG3.out (by simp)) (fun x y hx hy=>(gotten_start key_two Dv _ hx hy).symm)⟩,HB3.out,hs3b⟩
   case round =>
    obtain⟨left,hrg,hm,hbx,hBx⟩:=hrel
    go_wp2_with (at_next;refine kv_next rfl _ rfl 147 key_two Bv Br n Dv left _ (by rfl) hrg.out ?_ ?_)
    ·-- L3{
     intro _ hl0
     obtain⟨m,hm1,hm2⟩:=hm.out
     have hMo:MapKV wr 147 Bo m (fun x y=>if(verF r.acks x y).isSome then some (.slice none 0 0) else none):=MapKV.congr key_two hm2 (fun x y hx hy=>gotten_end key_two hl0 HDV.out hx hy)
     have hMv:MapKV wr 147 Bv n (verF r.acks):=⟨Dv,hrg.out.owns,HDV.out⟩
     have hGr:Groups wr (Bo+1) r.acks (fun x y=>if(verF r.acks x y).isSome then some (.slice none 0 0) else none) (piecesTo r 0):=Groups.start (fun x y _ _=>by unfold verF;cases verOf r.acks x y <;> rfl)
     have HMO:=zh hMo
     have HMV:=zh hMv
     have HGR:=zh hGr
     have hBos:Bo+1≤wr.heap.size:=by omega
     have HBX:=zh hbx
     have e0:=(hbx.cell (p:=⟨q,0,none⟩) (show q<Bv by rw[HBQ.out];omega)).trans HC0.out
     clear hm hm2 hrg hMo hMv hGr HDN HDV HM0 HRG HG3 HB3 hl0 hbx
     go_wp2_with fail
     go_loopg [58] D (fun z v58 wx=>∃d:Nat,d≤D∧z=D - d∧v58=.int .i64 (d:Int)∧Hid (∃m f,m≤N+d * 1000∧MapKV wx 147 Bo m f∧Groups wx (Bo+1) r.acks f (piecesTo r d))∧Hid (MapKV wx 147 Bv n (verF r.acks))∧Below Bv W0 wx∧Bo+1≤wx.heap.size)
     case atStart=>exact⟨0,by omega,rfl,rfl,⟨m,_,by omega,HMO.out,HGR.out⟩,HMV.out,HBX.out,hBos⟩
     case round =>
      clear HMO HMV HGR hBos HBX e0 hm1
      obtain⟨d,hd,rfl,rfl,HG,HV,hbx,hBos⟩:=hrel
      by_cases hlt:d<D
      ·-- L5{
       have hdl:d<r.plat.length:=by rw[←HD.out];exact hlt
       obtain⟨l,hl⟩:=zx (r.plat[d])
       have hgl:r.plat.getD d []=l:=by rw[hl];exact getD_lt _ _ hdl
       have hl1000:l.length≤1000:=by rw[hl];exact HPL.out _ (List.getElem_mem hdl)
       obtain⟨bp,op,csp,hAp,hRp,-,hcp,vd,hvd,hsl⟩:=HR.out.1.at_ hdl
       rw[←hl] at hsl
       have hcd:=hcp 0 vd (by rw[hvd];rfl)
       obtain⟨Ad,cd,rfl,-,-⟩:=hsl.form
       have HSL:=zh hsl
       have HGL:=zh hgl
       have hbw2:=HB0.out.trans (hbx.mono hBw)
       have ed:wr.cell? ⟨bp,op+d,none⟩=some (.slice Ad l.length cd):=by
        have h1:=(hbw2.cell (p:=⟨bp,op+d * 1+0,none⟩) hRp).trans hcd
        simpa using h1
       subst hAp
       obtain⟨wo,rfl⟩:=zx (wr:World)
       clear hl hgl hcp hvd hsl hcd csp hbw2
       go_wp2_with fail
       go_loopg [65] l.length (fun z v65 wx=>∃j:Nat,j≤l.length∧z=l.length - j∧v65=.int .i64 (j:Int)∧Hid (∃m f,m≤N+d * 1000+j∧MapKV wx 147 Bo m f∧Groups wx (Bo+1) r.acks f (piecesTo r d++drvP r.acks d (l.take j)))∧Hid (MapKV wx 147 Bv n (verF r.acks))∧Below Bv W0 wx∧Bo+1≤wx.heap.size)
       case atStart =>
        obtain⟨m,f,hm,hM,hG⟩:=HG.out
        exact⟨0,by omega,rfl,rfl,⟨m,f,by omega,hM,by simpa[drvP] using hG⟩,HV.out,hbx,hBos⟩
       case round =>
        clear HG HV hbx hBos ed
        obtain⟨k,hk,rfl,rfl,HG,HV,hbx,hBos⟩:=hrel
        by_cases hlt2:k<l.length
        ·-- L6{
         obtain⟨bs,os,css,hAs,hRs,-,hcs,hse,hsm⟩:=HSL.out.at_ hlt2
         have hbw2:=HB0.out.trans (hbx.mono hBw)
         have hes:=hcs 0 (.string l[k]) (by rw[hse];rfl)
         obtain⟨s,hs⟩:=zx (l[k])
         rw[←hs] at hes hsm
         have es:wr.cell? ⟨bs,os+k,none⟩=some (.string s):=by
          have h1:=(hbw2.cell (p:=⟨bs,os+k * 1+0,none⟩) hRs).trans hes
          simpa using h1
         subst hAs
         have HDEC:=zh (fun w=>sdec_any s w hsm)
         have hyes:=fun p hg=>drvP_yes (acks:=r.acks) (d:=d) (l:=l) hlt2 (p:=p) hg
         have hno:=fun hg=>drvP_no (acks:=r.acks) (d:=d) (l:=l) hlt2 hg
         rw[←hs] at hyes hno
         have HY:=zh hyes
         have HNO:=zh hno
         obtain⟨E,hE⟩:=zx (decEr s.data.toList)
         obtain⟨P,hP⟩:=zx (decPc s.data.toList)
         rw[←hE,←hP] at HDEC
         have HE:=zh hE
         have HP:=zh hP
         have hlen:(piecesTo r d++drvP r.acks d (l.take k)).length+1≤16777216:=by
          have h1:=HTO.out d
          have h2:=drvP_length r.acks d (l.take k)
          have h3:(l.take k).length≤k:=List.length_take_le _ _
          rw[List.length_append]
          have h4:d * 1000≤1000 * 1000:=Nat.mul_le_mul_right 1000 (by omega)
          omega
         have hm16:N+d * 1000+k<maxLen:=by
          have h4:d * 1000≤1000 * 1000:=Nat.mul_le_mul_right 1000 (by omega)
          unfold maxLen;omega
         obtain⟨fs,hfs⟩:=zx (piecesTo r d++drvP r.acks d (l.take k))
         obtain⟨m,f,hm,hM,hG⟩:=HG.out
         rw[←hfs] at hG hlen
         have HFS:=zh hfs
         have HLEN:=zh hlen
         have HM16:=zh hm16
         have HM2:=zh hM
         have HG2:=zh hG
         have HMM:=zh hm
         have hpi:PcI P:=by
          rw[hP]
          unfold decPc
          split
          ·rename_i h0
           have h36:s.data.toList.length=36:=by
            by_cases h:s.data.toList.length=36
            ·exact h
            ·rw[decEr_len h] at h0;cases h0
           exact(decP_in _ h36).1
          ·refine⟨?_,?_,?_,?_,?_,?_⟩ <;> simp[I64]
         have HPI:=zh hpi
         obtain⟨pa,pb,pc,pg,pr,px⟩:=P
         unfold PcV at HDEC
         simp only at HDEC
         obtain⟨x,hx⟩:∃x:ByteArray,x=⟨px.toArray⟩:=⟨_,rfl⟩
         rw[←hx] at HDEC
         have HX:=zh hx
         have hgp:goodP r.acks s=if E=0∧verOf r.acks pa pc=some pr then some ⟨pa,pb,pc,pg,pr,px⟩ else none:=by
          unfold goodP
          by_cases hE0:E=0
          ·have hPd:(⟨pa,pb,pc,pg,pr,px⟩:Pc)=decP s.data.toList:=hP.trans (decPc_ok (hE.symm.trans hE0))
           rw[←hPd,←hE]
          ·rw[if_neg (fun h=>hE0 (hE.trans h.1)),if_neg (fun h=>hE0 h.1)]
         have HGP:=zh hgp
         have hpa:=hpi.1
         have hpc:=hpi.2.2.1
         clear hcs hes hs hse hsm hyes hno hE hP hfs hpi hx css HG hlen hM hG hm hm16 hbw2 hgp
         go_wp2_with fail
         refine(HDEC.out _).mono ?_
         rintro e w2 ⟨rfl,hb2⟩
         have hV2:=HV.out.below hb2 (HV.out.lt)
         have hM2:=HM2.out.below hb2 (HM2.out.lt)
         have hG2:=HG2.out.below hb2
         have hbx2:Below Bv W0 w2:=hbx.trans (hb2.mono (by omega))
         have hBos2:Bo+1≤w2.heap.size:=by have:=hb2.size;omega
         have HV2:=zh ((hV2.kept (World.grownBy_alloc _ (.cells #[.int .i64 pa,.int .i64 pb,.int .i64 pc,.int .i64 pg,.int .i64 pr,.string x] 94) none) (by simp)).kept (World.grownBy_alloc _ (.cells #[.int .i64 pa,.int .i64 pc] 147) none) (by simp))
         have HM3:=zh ((hM2.kept (World.grownBy_alloc _ (.cells #[.int .i64 pa,.int .i64 pb,.int .i64 pc,.int .i64 pg,.int .i64 pr,.string x] 94) none) (by simp)).kept (World.grownBy_alloc _ (.cells #[.int .i64 pa,.int .i64 pc] 147) none) (by simp))
         have HG3:=zh ((hG2.kept (World.grownBy_alloc _ (.cells #[.int .i64 pa,.int .i64 pb,.int .i64 pc,.int .i64 pg,.int .i64 pr,.string x] 94) none) (by intro b e;cases e)).kept (World.grownBy_alloc _ (.cells #[.int .i64 pa,.int .i64 pc] 147) none) (by intro b e;cases e))
         have HBX3:=zh ((hbx2.alloc (by omega) (.cells #[.int .i64 pa,.int .i64 pb,.int .i64 pc,.int .i64 pg,.int .i64 pr,.string x] 94)).alloc (by simp;omega) (.cells #[.int .i64 pa,.int .i64 pc] 147))
         clear hV2 hM2 hG2 hbx2 HM2 HG2 HV hbx hb2
         cases hvo:verOf r.acks pa pc with
         | none =>
          have hgn:goodP r.acks s=none:=by rw[HGP.out];exact if_neg (fun h=>by rw[hvo] at h;cases h.2)
          have HGN:=zh (HNO.out hgn)
          have HU:=zh (show verF r.acks pa pc=none by unfold verF;rw[hvo];rfl)
          clear hgn hvo
          by_cases hE0:E=0
          ·have hE1:(E==0)=true:=by simpa using hE0
           clear hE0
           go_wp2_with (at_lookup;refine kv_look_ok rfl _ _ _ 147 3 rfl key_two Tryz.underlying206 Bv n (verF r.acks) pa pc (.int .i64 0) (by rfl) (by rfl) HV2.out (zero_int19 _) hpa hpc _ HU.out ?_)
           go_roundg (l.length - (k+1))
           case measure=>omega
           case rel=>exact⟨k+1,by omega,rfl,by go_num,⟨m,f,by have:=HMM.out;omega,HM3.out,by rw[HGN.out,←HFS.out];exact HG3.out⟩,HV2.out,HBX3.out,by simp;omega⟩
          ·have hE1:(E==0)=false:=by simpa using hE0
           clear hE0
           go_wp2_with (at_lookup;refine kv_look_ok rfl _ _ _ 147 3 rfl key_two Tryz.underlying206 Bv n (verF r.acks) pa pc (.int .i64 0) (by rfl) (by rfl) HV2.out (zero_int19 _) hpa hpc _ HU.out ?_)
           go_roundg (l.length - (k+1))
           case measure=>omega
           case rel=>exact⟨k+1,by omega,rfl,by go_num,⟨m,f,by have:=HMM.out;omega,HM3.out,by rw[HGN.out,←HFS.out];exact HG3.out⟩,HV2.out,HBX3.out,by simp;omega⟩
         | some u =>
          have HU:=zh (show verF r.acks pa pc=some (.int .i64 u) by unfold verF;rw[hvo];rfl)
          by_cases hE0:E=0
          ·have hE1:(E==0)=true:=by simpa using hE0
           by_cases hu:u=pr
           ·-- V3{
            have q1:(u==pr)=true:=by simpa using hu
            have hgn:goodP r.acks s=some ⟨pa,pb,pc,pg,pr,px⟩:=by rw[HGP.out,hvo,hu];exact if_pos ⟨hE0,rfl⟩
            have HGN:=zh (HY.out _ hgn)
            have hfd:FdC ⟨d,⟨pa,pb,pc,pg,pr,px⟩⟩=[.int .i64 (d:Int),.int .i64 pa,.int .i64 pb,.int .i64 pc,.int .i64 pg,.int .i64 pr,.string x]:=by rw[HX.out];rfl
            have hsome:(verOf r.acks pa pc).isSome=true:=by rw[hvo];rfl
            rcases HG3.out.1 pa pc hpa hpc with ⟨h1,-⟩ | ⟨-,v,hfv,hown⟩
            ·rw[hvo] at h1;cases h1
            have HFV:=zh hfv
            have hlt3:=fun b e=>World.ownsRow.lt hown b e
            have hsl:=stripeP_length fs pa pc
            have hlen:=HLEN.out
            obtain⟨A4,c4,rfl⟩:=own_form hown
            have HM4:=zh (HM3.out.kept (World.grownBy_alloc _ (.cells #[.int .i64 (d:Int),.int .i64 pa,.int .i64 pb,.int .i64 pc,.int .i64 pg,.int .i64 pr,.string x] 152) none) (by simp))
            have HG4:=zh (HG3.out.kept (World.grownBy_alloc _ (.cells #[.int .i64 (d:Int),.int .i64 pa,.int .i64 pb,.int .i64 pc,.int .i64 pg,.int .i64 pr,.string x] 152) none) (by intro b e;cases e))
            have HSM:=zh hsome
            have HLT3:=zh hlt3
            have HFD:=zh hfd
            have hmx:m<maxLen:=by have:=HMM.out;have:=HM16.out;omega
            clear hgn hvo hu hE0 hsome hlt3 hfd
            have HMX:=zh hmx
            have HOW:=zh (World.ownsRow.alloc hown (.cells #[.int .i64 (d:Int),.int .i64 pa,.int .i64 pb,.int .i64 pc,.int .i64 pg,.int .i64 pr,.string x] 152))
            have hv7:∀b,(Value.slice A4 (stripeP fs pa pc).length c4).ownBlock=some b→Bo≠b:=fun b e=>by have:=(HLT3.out b e).1;omega
            have HV7:=zh hv7
            have hsl2:(stripeP fs pa pc).length+1≤16777216:=by omega
            have HNE:=zh (show(Value.slice A4 (stripeP fs pa pc).length c4).ownBlock=none∨(Value.slice A4 (stripeP fs pa pc).length c4).ownBlock≠some Bo from .inr (fun e=>hv7 Bo e rfl))
            clear hmx hv7 hsl hlen hown
            go_wp2_with (first
             | (at_lookup;refine kv_look_ok rfl _ _ _ 147 3 rfl key_two Tryz.underlying206 Bv n (verF r.acks) pa pc (.int .i64 0) (by rfl) (by rfl) HV2.out (zero_int19 _) hpa hpc _ HU.out ?_)
             | (at_builtin;refine app_found ⟨d,⟨pa,pb,pc,pg,pr,px⟩⟩ (.tmp 98) (.tmp 102) rfl rfl (Bo+1) _ (stripeP fs pa pc) (by rfl) (World.ownsRow.kept HOW.out hg6 HNE.out) _ (by rfl) _ _ _ _ _ _ _ HFD.out (by exact(hg6.block _ (by simp) (by intro e;injection e with e;omega)).trans (heap_alloc_at _ _ _ (by simp))) hsl2 (by have h:=hg6.size;simp at h;omega) ?_;intro v7 w7 hown7 hg7 hat7)
             | (refine kv_entry rfl (.tmp 96) (.tmp 97) _ 147 143 rfl key_two Tryz.underlying144 Bo m f pa pc (.slice none 0 0) (by rfl) (by rfl) HM4.out zero_fds HMX.out hpa hpc _ HFV.out ?_;intro st w6 hg6 hpend)
             | (refine kv_entry_store rfl (.tmp 96) (.tmp 105) (.tmp 104) _ 147 rfl Bo m f pa pc _ _ w6 (by rfl) (by rfl) (by rfl) hpend (hg7.block Bo (by have h:=hg6.size;simp at h;omega) (fun e=>HV7.out Bo e.symm rfl)) ?_;intro w8 hM8 hg8))
            have hV6:=(HV2.out.kept (World.grownBy_alloc _ (.cells #[.int .i64 (d:Int),.int .i64 pa,.int .i64 pb,.int .i64 pc,.int .i64 pg,.int .i64 pr,.string x] 152) none) (by simp)).kept hg6 (by intro e;injection e with e;omega)
            have hV7:=hV6.kept hg7 (fun e=>by have:=(HLT3.out Bv e.symm).1;omega)
            have hV8:=hV7.kept hg8 (by intro e;injection e with e;omega)
            have hG8:=(Groups.push (fd:=⟨d,⟨pa,pb,pc,pg,pr,px⟩⟩) (HG4.out.kept hg6 (by intro b e;injection e with e;omega)) HFV.out hpa hpc hown7 hg7 hat7 HSM.out).kept hg8 (by intro b e;injection e with e;omega)
            have hs6:=hg6.size
            have hs7:=hg7.size
            have hs8:=hg8.size
            simp at hs6
            have hbx6:=(HBX3.out.alloc (by simp;omega) (.cells #[.int .i64 (d:Int),.int .i64 pa,.int .i64 pb,.int .i64 pc,.int .i64 pg,.int .i64 pr,.string x] 152)).grown hg6 (by simp;omega) (fun b e=>by injection e with e;omega)
            have hbx7:=hbx6.grown hg7 (by omega) (fun b e=>by have:=(HLT3.out b e).1;omega)
            have hbx8:=hbx7.grown hg8 (by omega) (fun b e=>by injection e with e;omega)
            go_roundg (l.length - (k+1))
            case measure=>omega
            case rel=>exact⟨k+1,by omega,rfl,by go_num,⟨m+1,_,by have:=HMM.out;omega,hM8,by rw[HGN.out,←List.append_assoc,←HFS.out];exact hG8⟩,hV8,hbx8,by omega⟩
           ·have q1:(u==pr)=false:=by simpa using hu
            have hgn:goodP r.acks s=none:=by rw[HGP.out,hvo];exact if_neg (fun h=>hu (by injection h.2))
            have HGN:=zh (HNO.out hgn)
            clear hgn hvo hu hE0
            go_wp2_with (at_lookup;refine kv_look_ok rfl _ _ _ 147 3 rfl key_two Tryz.underlying206 Bv n (verF r.acks) pa pc (.int .i64 0) (by rfl) (by rfl) HV2.out (zero_int19 _) hpa hpc _ HU.out ?_)
            go_roundg (l.length - (k+1))
            case measure=>omega
            case rel=>exact⟨k+1,by omega,rfl,by go_num,⟨m,f,by have:=HMM.out;omega,HM3.out,by rw[HGN.out,←HFS.out];exact HG3.out⟩,HV2.out,HBX3.out,by simp;omega⟩
          ·have hE1:(E==0)=false:=by simpa using hE0
           have hgn:goodP r.acks s=none:=by rw[HGP.out];exact if_neg (fun h=>hE0 h.1)
           have HGN:=zh (HNO.out hgn)
           clear hgn hvo hE0
           go_wp2_with (at_lookup;refine kv_look_ok rfl _ _ _ 147 3 rfl key_two Tryz.underlying206 Bv n (verF r.acks) pa pc (.int .i64 0) (by rfl) (by rfl) HV2.out (zero_int19 _) hpa hpc _ HU.out ?_)
           go_roundg (l.length - (k+1))
           case measure=>omega
           case rel=>exact⟨k+1,by omega,rfl,by go_num,⟨m,f,by have:=HMM.out;omega,HM3.out,by rw[HGN.out,←HFS.out];exact HG3.out⟩,HV2.out,HBX3.out,by simp;omega⟩
        ·have hjl:k=l.length:=by omega
         obtain⟨m,f,hm,hM,hG⟩:=HG.out
         rw[hjl,List.take_of_length_le (Nat.le_refl _),←HGL.out,←piecesTo_succ] at hG
         have HG2:=zh hG
         have HM2:=zh hM
         have hm2:m≤N+(d+1) * 1000:=by rw[Nat.add_mul];omega
         clear HG hG hM hm
         go_wp2_with fail
         go_roundg (D - (d+1))
         case measure=>omega
         case rel=>exact⟨d+1,by omega,rfl,by go_num,⟨m,f,hm2,HM2.out,HG2.out⟩,HV.out,hbx,hBos⟩
      ·have hdD:d=r.plat.length:=by rw[←HD.out];omega
       obtain⟨m,f,hm,hM,hG⟩:=HG.out
       rw[hdD] at hG
       have HG2:=zh hG
       have HM2:=zh hM
       have hbz:=HB0.out.trans (hbx.mono hBw)
       have HBZ:=zh hbz
       clear HG hG hM hm hbz
       go_wp2_with fail
       go_ret
       exact⟨_,_,_,rfl,by omega,HM2.out,HG2.out,HBZ.out⟩
    ·-- L4{
     intro x y v kl w4 cnt4 hkey hx hy hlk hhas hrg4 hlt4 hg4 hs4 hen
     obtain⟨m,hm1,hm2⟩:=hm.out
     have hm3:=hm2.kept hg4 (by intro e;injection e with e;omega)
     have hb4:Below Bv W0 w4:=hbx.grown hg4 (by omega) (fun b e=>by injection e with e;omega)
     have HM3:=zh hm3
     have HRG4:=zh hrg4
     have HB4:=zh hb4
     have HST:=zh (fun a b ha hb=>gotten_step key_two (left:=left) (z:=.slice none 0 0) hkey hhas (a:=a) (b:=b) ha hb)
     clear hm2 hrg4 hb4 hm3 hlk hhas hm hrg
     go_wp2_with (at_mapUpdate;refine kv_store rfl _ _ _ _ 147 143 rfl key_two Tryz.underlying144 Bo m _ x y _ (by rfl) (by rfl) (by rfl) (HM3.out.kept (World.grownBy_alloc _ _ none) (by simp)) (by unfold maxLen;omega) hx hy ?_;intro w5 hM5 hg5)
     go_roundg cnt4
     case measure=>omega
     case rel=>exact⟨_,(HRG4.out.alloc _).kept hg5 (by intro e;injection e with e;omega) (by intro e;injection e with e;omega),⟨m+1,by omega,MapKV.congr key_two hM5 (fun a b ha hb=>HST.out a b ha hb)⟩,((HB4.out.alloc (by omega) _).grown hg5 (by simp;omega) (fun b e=>by injection e with e;omega)),by have:=hg5.size;simp at this;omega⟩
end Go.Proofs.YtcfkllnpkmebpaaGreatDoor

namespace Go.Proofs.YtcfkllnpkmebpaaGreatDoor
open Go.RowKit
set_option linter.unusedVariables false
set_option linter.unusedSimpArgs false
theorem sindex_any(v:Value) (xs:List Int) (x:Int) (R:Nat→Prop) (w:World) (h:IntS w R v xs) :
  Calls Tryz.prog 149 #[v,.int .i64 x] w fun e w'=>(∃i:Int,e=.returned (.int .i64 i)∧(0≤i↔x∈xs))∧w=w':=by
 obtain⟨A,c,rfl,h1,h2⟩:=h.form7
 unfold maxLen at h2
 have HA:=zh h
 clear h
 go_enter Tryz.func149,Tryz.ntmps149
 go_wp2_with fail
 go_loopg [8] xs.length (fun z v8 wr=>w=wr∧∃j:Nat,j≤xs.length∧z=xs.length - j∧v8=.int .i64 (j:Int)∧Hid (∀i (h:i<xs.length),i<j→xs[i]≠x))
 case atStart=>exact⟨rfl,0,by omega,rfl,rfl,fun i h h2=>by omega⟩
 case round =>
  obtain⟨rfl,j,hj,rfl,rfl,HN⟩:=hrel
  by_cases hlt:j<xs.length
  ·obtain⟨b,off,rfl,hR,hc,hx⟩:=HA.out.at7 hlt
   have hmem:xs[j]∈xs:=List.getElem_mem hlt
   have hnx:xs[j]≠x→∀i (h:i<xs.length),i<j+1→xs[i]≠x:=fun hne i h1 h2=>by
    by_cases e:i=j
    ·subst e;exact hne
    ·exact HN.out i h1 (by omega)
   have HNX:=zh hnx
   have HME:=zh hmem
   generalize xs[j]=y at *
   clear hnx hmem hx
   by_cases he:x=y
   ·have q1:(x==y)=true:=by simpa using he
    have HE:=zh he
    clear he
    go_wp2_with fail
    go_ret
    exact⟨⟨_,rfl,⟨fun _=>by rw[HE.out];exact HME.out,fun _=>by omega⟩⟩,rfl⟩
   ·have q1:(x==y)=false:=by simpa using he
    have HN2:=zh (HNX.out (fun e=>he e.symm))
    clear he
    go_wp2_with fail
    go_roundg (xs.length - (j+1))
    case measure=>omega
    case rel=>exact⟨rfl,j+1,by omega,rfl,by go_num,HN2⟩
  ·have hn:x∉xs:=fun hm=>by
    obtain⟨i,hi,e⟩:=List.getElem_of_mem hm
    exact HN.out i hi (by omega) e
   have HNO:=zh hn
   clear hn
   go_wp2_with fail
   go_ret
   exact⟨⟨_,rfl,⟨fun h=>by omega,fun h=>absurd h HNO.out⟩⟩,rfl⟩
theorem contains_any(v:Value) (xs:List Int) (x:Int) (R:Nat→Prop) (w:World) (h:IntS w R v xs) :
  Calls Tryz.prog 109 #[v,.int .i64 x] w fun e w'=>e=.returned (.bool (decide (x∈xs)))∧w=w':=by
 have HS:=zh (sindex_any v xs x R w h)
 clear h
 go_enter Tryz.func109,Tryz.ntmps109
 go_wp2_with fail
 refine HS.out.mono ?_
 rintro e w2 ⟨⟨i,rfl,hi⟩,rfl⟩
 have HI:=zh hi
 clear hi
 by_cases h0:0≤i
 ·go_wp2_with fail
  go_ret
  refine⟨ret_bool ?_,rfl⟩
  rw[decide_eq_true (HI.out.1 h0)]
 ·go_wp2_with fail
  go_ret
  refine⟨ret_bool ?_,rfl⟩
  rw[decide_eq_false (fun h:x∈xs=>by have:=HI.out.2 h;omega)]
  exact decide_eq_false (by omega)
def cStep(f:Int) (acc:List Int) (x:Fd):List Int:=if x.p.frag=f∧(x.drive:Int)∉acc then acc++[(x.drive:Int)] else acc
def goodC(f:Int) (l:List Fd):List Int:=l.foldl (cStep f) []
theorem goodC_succ(f:Int) (l:List Fd) (j:Nat) (h:j<l.length):goodC f (l.take (j+1))=cStep f (goodC f (l.take j)) l[j]:=by
 unfold goodC
 rw[List.take_succ_eq_append_getElem h,List.foldl_append]
 rfl
theorem cStep_length(f:Int) (acc:List Int) (x:Fd):(cStep f acc x).length≤acc.length+1:=by unfold cStep;split <;> simp
theorem goodC_length(f:Int) (l:List Fd):(goodC f l).length≤l.length:=by
 have:∀(l:List Fd) (acc:List Int),(l.foldl (cStep f) acc).length≤acc.length+l.length:=by
  intro l
  induction l with
  | nil=>intro acc;simp
  | cons x l ih =>
   intro acc
   have h1:=ih (cStep f acc x)
   have h2:=cStep_length f acc x
   simp only[List.foldl_cons,List.length_cons]
   omega
 simpa[goodC] using this l []
theorem goodC_mem(f:Int) (l:List Fd):∀y∈goodC f l,∃x∈l,y=(x.drive:Int):=by
 have:∀(l:List Fd) (acc:List Int),∀y∈l.foldl (cStep f) acc,y∈acc∨∃x∈l,y=(x.drive:Int):=by
  intro l
  induction l with
  | nil=>intro acc y hy;exact .inl hy
  | cons x l ih =>
   intro acc y hy
   rcases ih _ y hy with h | ⟨z,hz,e⟩
   ·unfold cStep at h
    split at h
    ·rcases List.mem_append.1 h with h | h
     ·exact .inl h
     ·exact .inr ⟨x,by simp,by simpa using h⟩
    ·exact .inl h
   ·exact .inr ⟨z,List.mem_cons_of_mem _ hz,e⟩
 intro y hy
 rcases this l [] y hy with h | h
 ·cases h
 ·exact h
def Rise(l:List Fd):Prop:=l.Pairwise fun a b=>a.drive≤b.drive
theorem drvP_all(acks:List Ac) (d:Nat) (l:List ByteArray):∀x∈drvP acks d l,x.drive=d∧validP x.p=true∧verOf acks x.p.vol x.p.stripe=some x.p.ver:=by
 intro x hx
 simp only[drvP,List.mem_filterMap] at hx
 obtain⟨s,-,hs⟩:=hx
 cases hg:goodP acks s with
 | none=>rw[hg] at hs;cases hs
 | some p =>
  rw[hg] at hs
  injection hs with hs
  subst hs
  unfold goodP at hg
  split at hg
  ·rename_i h0
   injection hg with hg
   subst hg
   refine⟨rfl,?_,h0.2⟩
   have h1:=h0.1
   unfold decEr at h1
   split at h1
   ·cases h1
   ·split at h1
    ·cases h1
    ·split at h1
     ·cases h1
     ·split at h1
      ·rename_i h2;exact h2.1
      ·cases h1
  ·cases hg
theorem piecesTo_all(r:Re) (d:Nat):∀x∈piecesTo r d,validP x.p=true∧verOf r.acks x.p.vol x.p.stripe=some x.p.ver:=by
 intro x hx
 simp only[piecesTo,List.mem_flatMap,List.mem_range] at hx
 obtain⟨k,hk,hm⟩:=hx
 exact(drvP_all _ _ _ x hm).2
theorem piecesTo_rise(r:Re):∀d,Rise (piecesTo r d):=by
 intro d
 induction d with
 | zero=>exact List.Pairwise.nil
 | succ d ih =>
  rw[piecesTo_succ]
  refine List.pairwise_append.2 ⟨ih,?_,fun a ha b hb=>?_⟩
  ·refine List.pairwise_of_forall_mem_list fun a ha b hb=>?_
   rw[(drvP_all _ _ _ a ha).1,(drvP_all _ _ _ b hb).1]
   exact Nat.le_refl _
  ·have h1:=piecesTo_drive r d a ha
   rw[(drvP_all _ _ _ b hb).1]
   omega
theorem isB_eq(p:Pc) (v f s:Int):isB p v f s=((p.vol==v&&p.stripe==s)&&p.frag==f):=by
 unfold isB
 cases p.vol==v <;> cases p.frag==f <;> cases p.stripe==s <;> rfl
theorem good_same(v f s:Int):∀(l:List Fd) (acc:List Int),Rise l→acc.Pairwise (fun a b=>a<b)→(∀a∈acc,∀x∈l,a≤(x.drive:Int))→l.foldl (gStep v f s) acc=(stripeP l v s).foldl (cStep f) acc
 | [],_,_,_,_=>rfl
 | x :: l,acc,hr,hs,hle=>by
  have hr2:Rise l:=(List.pairwise_cons.1 hr).2
  have hx:=(List.pairwise_cons.1 hr).1
  have hsp:stripeP (x :: l) v s=if(x.p.vol==v&&x.p.stripe==s)=true then x :: stripeP l v s else stripeP l v s:=by
   unfold stripeP;rw[List.filter_cons]
  rw[List.foldl_cons,hsp]
  by_cases hk:(x.p.vol==v&&x.p.stripe==s)=true
  ·rw[if_pos hk,List.foldl_cons]
   have hlast:(acc.getLast?≠some (x.drive:Int))↔(x.drive:Int)∉acc:=by
    constructor
    ·intro h hm
     apply h
     have hne:acc≠[]:=fun e=>by rw[e] at hm;cases hm
     rw[List.getLast?_eq_some_getLast hne]
     congr 1
     have h1:=hle _ (List.getLast_mem hne) x (by simp)
     obtain⟨i,hi,he⟩:=List.getElem_of_mem hm
     rw[List.getLast_eq_getElem] at h1 ⊢
     by_cases e:i=acc.length - 1
     ·subst e;exact he
     ·have h2:=List.pairwise_iff_getElem.1 hs i (acc.length - 1) hi (by omega) (by omega)
      omega
    ·intro h e
     exact h (List.mem_of_getLast? e)
   have hstep:gStep v f s acc x=cStep f acc x:=by
    unfold gStep cStep
    rw[isB_eq,hk]
    by_cases hf:x.p.frag=f
    ·by_cases hm:(x.drive:Int)∉acc
     ·rw[if_pos ⟨by simpa using hf,hlast.2 hm⟩,if_pos ⟨hf,hm⟩]
     ·rw[if_neg (fun h=>hm (hlast.1 h.2)),if_neg (fun h=>hm h.2)]
    ·rw[if_neg (fun h=>hf (by simpa using h.1)),if_neg (fun h=>hf h.1)]
   rw[hstep]
   refine good_same v f s l _ hr2 ?_ ?_
   ·unfold cStep
    split
    ·rename_i h
     refine List.pairwise_append.2 ⟨hs,by simp,fun a ha b hb=>?_⟩
     have hb':b=(x.drive:Int):=by simpa using hb
     subst hb'
     have h1:=hle a ha x (by simp)
     have h2:a≠(x.drive:Int):=fun e=>h.2 (e▸ha)
     omega
    ·exact hs
   ·intro a ha y hy
    unfold cStep at ha
    split at ha
    ·rcases List.mem_append.1 ha with h | h
     ·exact hle a h y (List.mem_cons_of_mem _ hy)
     ·have:=hx y hy
      have h2:a=(x.drive:Int):=by simpa using h
      omega
    ·exact hle a ha y (List.mem_cons_of_mem _ hy)
  ·rw[if_neg hk]
   have hstep:gStep v f s acc x=acc:=by
    unfold gStep
    rw[isB_eq]
    have hk':(x.p.vol==v&&x.p.stripe==s)=false:=by simpa using hk
    rw[hk',if_neg (fun h=>by simp at h)]
   rw[hstep]
   exact good_same v f s l acc hr2 hs (fun a ha y hy=>hle a ha y (List.mem_cons_of_mem _ hy))
theorem goodC_pieces(r:Re) (v f s:Int):goodC f (stripeP (pieces r) v s)=goodI r v f s :=
 (good_same v f s (pieces r) [] (piecesTo_rise r _) List.Pairwise.nil (fun a ha=>by cases ha)).symm
theorem Groups.at_{w:World} {base:Nat} {acks:List Ac} {f:Int→Int→Option Value} {fs:List Fd} (h:Groups w base acks f fs) (hv:∀x∈fs,verOf acks x.p.vol x.p.stripe=some x.p.ver) {x y:Int} (hx:I64 x) (hy:I64 y) :
  OwnFd w base 152 ((f x y).getD (.slice none 0 0)) (stripeP fs x y):=by
 rcases h.1 x y hx hy with ⟨h1,h2⟩ | ⟨_,v,h2,h3⟩
 ·have:stripeP fs x y=[]:=by
   unfold stripeP
   rw[List.filter_eq_nil_iff]
   intro a ha he
   have he2:a.p.vol=x∧a.p.stripe=y:=by simpa using he
   have h3:=hv a ha
   rw[he2.1,he2.2,h1] at h3
   cases h3
  rw[this,h2]
  exact World.ownsRow_nil _ _ _ _
 ·rw[h2];exact h3
theorem good_any(vp vo va:Value) (r:Re) (v f s:Int) (w:World) (h:ReS w (Bl w.heap.size) vp vo va r) (hp:r.plat.length≤1000) (hl:∀l∈r.plat,l.length≤1000) (hac:r.acks.length≤1000000) (hv:I64 v) (hs:I64 s) :
  Calls Tryz.prog 61 #[.agg #[vp,vo,va],.int .i64 v,.int .i64 f,.int .i64 s] w fun e w'=>∃u,e=.returned u∧OwnI w' w.heap.size u (goodI r v f s)∧Below w.heap.size w w':=by
 have HIX:=zh (fun w1 h1=>index_any vp vo va r w1 h1 hp hl hac)
 have hpa:=piecesTo_all r r.plat.length
 have hpd:=pieces_drive r (by omega)
 have hlen:(stripeP (pieces r) v s).length≤1000000:=by
  have h0:=stripeP_length (pieces r) v s
  have h1:=piecesTo_length r 1000 hl r.plat.length
  have h2:r.plat.length * 1000≤1000 * 1000:=Nat.mul_le_mul_right 1000 hp
  unfold pieces at h0 ⊢
  omega
 have hgd:=goodC_pieces r v f s
 have hsd:∀x∈stripeP (pieces r) v s,x.drive≤1048576:=fun x hx=>hpd x (List.mem_filter.1 hx).1
 obtain⟨l,hpl⟩:=zx (stripeP (pieces r) v s)
 rw[←hpl] at hlen hgd hsd
 have HPA:=zh hpa
 have HPL:=zh hpl
 have HGD:=zh hgd
 have HSD:=zh hsd
 obtain⟨W0,hW0⟩:=zx (w.alloc (.cells #[vp,vo,va] 40))
 obtain⟨q,hq⟩:=zx w.heap.size
 have c0:W0.cell? ⟨q,0,none⟩=some vp:=by rw[hW0,hq];simp
 have c1:W0.cell? ⟨q,1,none⟩=some vo:=by rw[hW0,hq];simp
 have c2:W0.cell? ⟨q,2,none⟩=some va:=by rw[hW0,hq];simp
 have hb0:Below w.heap.size w W0:=by rw[hW0];exact(Below.refl _ _).alloc (Nat.le_refl _) _
 have HQ:=zh hq
 have HW0:=zh hW0
 have HB0:=zh hb0
 have HR0:=zh (h.below hb0)
 clear h hp hl hac hW0 hq hb0 hpl hpa hpd hgd hsd
 go_enter Tryz.func61,Tryz.ntmps61
 go_wp2_with fail
 rw[←HW0.out,←HQ.out]
 refine(HIX.out _ HR0.out).mono ?_
 rintro e w1 ⟨b,n,fm,rfl,hbb,hM,hG,hb1⟩
 have hown:=hG.at_ (fun x hx=>(HPA.out x hx).2) hv hs
 rw[←(show stripeP (piecesTo r r.plat.length) v s=stripeP (pieces r) v s from rfl),show stripeP (piecesTo r r.plat.length) v s=l from HPL.out.symm] at hown
 obtain⟨A,c,hfm⟩:=own_form hown
 have hLL:SlS 7 FdK w1 (Bl w1.heap.size) (.slice A l.length c) l:=by rw[←hfm];exact OwnFd.slBl hown HSD.out
 have hm:l.length≤9223372036854775807:=by omega
 have HFM:=zh hfm
 have HL:=zh hLL
 have HMV:=zh hM
 have HB1:=zh (HB0.out.trans (hb1.mono HB0.out.size))
 clear c0 c1 c2 hM hG hown hfm hLL hb1
 go_wp2_with (at_lookup;refine kv_look rfl _ _ _ 147 143 rfl key_two Tryz.underlying144 b n fm v s (.slice none 0 0) (by rfl) (by rfl) HMV.out (zero_fds _) hv hs _ HFM.out ?_)
 obtain⟨W1,hW1⟩:=zx w1
 rw[←hW1] at HL HB1 ⊢
 clear HMV
 subst hW1
 go_loopg [9,19] l.length (fun z v9 v19 wr=>∃j:Nat,j≤l.length∧z=l.length - j∧v19=.int .i64 (j:Int)∧OwnI wr W1.heap.size v9 (goodC f (l.take j))∧Below W1.heap.size W1 wr)
 case atStart=>exact⟨0,by omega,rfl,rfl,OwnI.nil _ _,Below.refl _ _⟩
 case round =>
  obtain⟨j,hj,rfl,rfl,hO,hbr⟩:=hrel
  by_cases hlt:j<l.length
  ·obtain⟨b2,off,cs,rfl,hRb,-,hcs,hfk,hdr⟩:=HL.out.at_ hlt
   obtain⟨k0,k1,k2,k3,k4,k5,k6⟩:=seven hcs hfk
   have hnx:=goodC_succ f l j hlt
   have hlen2:(goodC f (l.take j)).length+1≤16777216:=by
    have h1:=goodC_length f (l.take j)
    have h2:(l.take j).length≤j:=List.length_take_le _ _
    omega
   have hmem:∀y∈goodC f (l.take j),I64 y:=fun y hy=>by
    obtain⟨x,hx,rfl⟩:=goodC_mem f _ y hy
    have:=HSD.out x (List.mem_of_mem_take hx)
    constructor <;> omega
   obtain⟨x,hx⟩:=zx (l[j])
   rw[←hx] at k0 k1 k2 k3 k4 k5 k6 hdr hnx
   obtain⟨xs,hxs⟩:=zx (goodC f (l.take j))
   rw[←hxs] at hnx hO hlen2 hmem
   have kk:∀i u,W1.cell? ⟨b2,i,none⟩=some u→wr.cell? ⟨b2,i,none⟩=some u:=fun i u e=>(hbr.cell (p:=⟨b2,i,none⟩) hRb).trans e
   obtain⟨dr,⟨pa,pb,pc,pg,pr,px⟩⟩:=x
   simp only at k0 k1 k2 k3 k4 k5 k6 hdr
   have m0:=kk _ _ k0
   have m1:=kk _ _ k1
   have m2:=kk _ _ k2
   have m3:=kk _ _ k3
   have m4:=kk _ _ k4
   have m5:=kk _ _ k5
   have m6:=kk _ _ k6
   obtain⟨y,hy⟩:∃y:ByteArray,y=⟨px.toArray⟩:=⟨_,rfl⟩
   rw[←hy] at m6
   have HNX:=zh hnx
   have hsz:=hbr.size
   obtain⟨W3,hW3⟩:=zx (wr.alloc (.cells #[.int .i64 (dr:Int),.int .i64 pa,.int .i64 pb,.int .i64 pc,.int .i64 pg,.int .i64 pr,.string y] 152))
   obtain⟨g,hg⟩:=zx wr.heap.size
   have n0:W3.cell? ⟨g,0,none⟩=some (.int .i64 (dr:Int)):=by rw[hW3,hg];simp
   have n2:W3.cell? ⟨g,2,none⟩=some (.int .i64 pb):=by rw[hW3,hg];simp
   have hb3:Below W1.heap.size W1 W3:=by rw[hW3];exact hbr.alloc hsz _
   obtain⟨A3,c3,rfl⟩:=hO.form
   have hO3:OwnI W3 W1.heap.size (.slice A3 xs.length c3) xs:=by rw[hW3];exact World.ownsRow.alloc hO _
   have HC:=zh (contains_any _ xs (dr:Int) _ W3 (hO3.intS hmem))
   have HO3:=zh hO3
   have HB3:=zh hb3
   have HW3:=zh hW3
   have HG3:=zh hg
   have hsz3:=hb3.size
   have HX2:=zh (show xs.length+1≤16777216 from hlen2)
   clear k0 k1 k2 k3 k4 k5 k6 hcs hfk hx hnx hy kk hxs cs hRb hO hO3 hb3 hW3 hg hmem hlen2
   by_cases hf:pb=f
   ·have q1:(pb==f)=true:=by simpa using hf
    by_cases hm2:(dr:Int)∈xs
    ·have HN2:=zh (HNX.out.trans (show cStep f xs ⟨dr,⟨pa,pb,pc,pg,pr,px⟩⟩=xs from if_neg (fun h=>h.2 hm2)))
     have q2:decide ((dr:Int)∈xs)=true:=decide_eq_true hm2
     rw[q2] at HC
     clear hf hm2 q2
     go_wp2_with fail
     rw[←HW3.out]
     refine HC.out.mono ?_
     rintro e w4 ⟨rfl,rfl⟩
     go_wp2_with fail
     go_roundg (l.length - (j+1))
     case measure=>omega
     case rel=>exact⟨j+1,by omega,rfl,by go_num,by rw[HN2.out];exact HO3.out,HB3.out⟩
    ·have HN2:=zh (HNX.out.trans (show cStep f xs ⟨dr,⟨pa,pb,pc,pg,pr,px⟩⟩=xs++[(dr:Int)] from if_pos ⟨hf,hm2⟩))
     have q2:decide ((dr:Int)∈xs)=false:=decide_eq_false hm2
     rw[q2] at HC
     clear hf hm2 q2
     go_wp2_with fail
     rw[←HW3.out,←HG3.out]
     refine HC.out.mono ?_
     rintro e w4 ⟨rfl,rfl⟩
     have hO4:W3.ownsRow W1.heap.size 3 1 (.slice A3 xs.length c3) xs.length (xs.map (Value.int .i64)):=HO3.out
     go_wp2_with (at_builtin;refine app_i (dr:Int) (.tmp 35) (.tmp 38) rfl rfl W1.heap.size _ xs.length xs rfl (by rfl) hO4 (by rfl) HX2.out hsz3 ?_;intro v' w5 hown' hg hat)
     go_roundg (l.length - (j+1))
     case measure=>omega
     case rel=>exact⟨j+1,by omega,rfl,by go_num,by rw[HN2.out];exact hown',HB3.out.grown hg hsz3 (fun b h=>(HO3.out.lt b h).1)⟩
   ·have q1:(pb==f)=false:=by simpa using hf
    have HN2:=zh (HNX.out.trans (show cStep f xs ⟨dr,⟨pa,pb,pc,pg,pr,px⟩⟩=xs from if_neg (fun h=>hf h.1)))
    clear hf
    go_wp2_with fail
    rw[←HW3.out]
    go_roundg (l.length - (j+1))
    case measure=>omega
    case rel=>exact⟨j+1,by omega,rfl,by go_num,by rw[HN2.out];exact HO3.out,HB3.out⟩
  ·have hE:goodC f (l.take j)=goodI r v f s:=by rw[List.take_of_length_le (by omega)];exact HGD.out
   have HE:=zh hE
   have HO:=zh hO
   have hbz:=HB1.out.trans (hbr.mono HB1.out.size)
   clear hE hO
   go_wp2_with fail
   go_ret
   refine⟨_,rfl,?_,hbz⟩
   have h1:=HO.out
   rw[HE.out] at h1
   exact h1.base HB1.out.size
end Go.Proofs.YtcfkllnpkmebpaaGreatDoor

namespace Go.Proofs.YtcfkllnpkmebpaaGreatDoor
open Go.RowKit
set_option linter.unusedVariables false
set_option linter.unusedSimpArgs false
def bools8(js:Nat→Bool):Array Value:=#[.bool (js 0),.bool (js 1),.bool (js 2),.bool (js 3),.bool (js 4),.bool (js 5),.bool (js 6),.bool (js 7)]
def SetB(W:World) (g:Nat) (js:Nat→Bool):Prop:=W.heap[g]?=some (.cells (bools8 js) 208 (0,0))
theorem index8_0(js:Nat→Bool) (w:World):(Instr.index 208 (.agg #[.bool (js 0),.bool (js 1),.bool (js 2),.bool (js 3),.bool (js 4),.bool (js 5),.bool (js 6),.bool (js 7)]) (.int .i64 0)).run Tryz.prog w=.ok (.bool (js 0)) w:=by kernel_rfl
theorem index8_1(js:Nat→Bool) (w:World):(Instr.index 208 (.agg #[.bool (js 0),.bool (js 1),.bool (js 2),.bool (js 3),.bool (js 4),.bool (js 5),.bool (js 6),.bool (js 7)]) (.int .i64 1)).run Tryz.prog w=.ok (.bool (js 1)) w:=by kernel_rfl
theorem index8_2(js:Nat→Bool) (w:World):(Instr.index 208 (.agg #[.bool (js 0),.bool (js 1),.bool (js 2),.bool (js 3),.bool (js 4),.bool (js 5),.bool (js 6),.bool (js 7)]) (.int .i64 2)).run Tryz.prog w=.ok (.bool (js 2)) w:=by kernel_rfl
theorem index8_3(js:Nat→Bool) (w:World):(Instr.index 208 (.agg #[.bool (js 0),.bool (js 1),.bool (js 2),.bool (js 3),.bool (js 4),.bool (js 5),.bool (js 6),.bool (js 7)]) (.int .i64 3)).run Tryz.prog w=.ok (.bool (js 3)) w:=by kernel_rfl
theorem index8_4(js:Nat→Bool) (w:World):(Instr.index 208 (.agg #[.bool (js 0),.bool (js 1),.bool (js 2),.bool (js 3),.bool (js 4),.bool (js 5),.bool (js 6),.bool (js 7)]) (.int .i64 4)).run Tryz.prog w=.ok (.bool (js 4)) w:=by kernel_rfl
theorem index8_5(js:Nat→Bool) (w:World):(Instr.index 208 (.agg #[.bool (js 0),.bool (js 1),.bool (js 2),.bool (js 3),.bool (js 4),.bool (js 5),.bool (js 6),.bool (js 7)]) (.int .i64 5)).run Tryz.prog w=.ok (.bool (js 5)) w:=by kernel_rfl
theorem index8_6(js:Nat→Bool) (w:World):(Instr.index 208 (.agg #[.bool (js 0),.bool (js 1),.bool (js 2),.bool (js 3),.bool (js 4),.bool (js 5),.bool (js 6),.bool (js 7)]) (.int .i64 6)).run Tryz.prog w=.ok (.bool (js 6)) w:=by kernel_rfl
theorem index8_7(js:Nat→Bool) (w:World):(Instr.index 208 (.agg #[.bool (js 0),.bool (js 1),.bool (js 2),.bool (js 3),.bool (js 4),.bool (js 5),.bool (js 6),.bool (js 7)]) (.int .i64 7)).run Tryz.prog w=.ok (.bool (js 7)) w:=by kernel_rfl
theorem index8(js:Nat→Bool) (j:Nat) (hj:j<8) (w:World):(Instr.index 208 (.agg #[.bool (js 0),.bool (js 1),.bool (js 2),.bool (js 3),.bool (js 4),.bool (js 5),.bool (js 6),.bool (js 7)]) (.int .i64 (j:Int))).run Tryz.prog w=.ok (.bool (js j)) w:=by
 match j,hj with
 | 0,_=>exact index8_0 js w
 | 1,_=>exact index8_1 js w
 | 2,_=>exact index8_2 js w
 | 3,_=>exact index8_3 js w
 | 4,_=>exact index8_4 js w
 | 5,_=>exact index8_5 js w
 | 6,_=>exact index8_6 js w
 | 7,_=>exact index8_7 js w
theorem SetB.cell{W:World} {g:Nat} {js:Nat→Bool} (h:SetB W g js) (j:Nat) (hj:j<8):W.cell? ⟨g,j,none⟩=some (.bool (js j)):=by
 rw[cell_of_row W g j _ _ _ h]
 match j,hj with
 | 0,_=>rfl
 | 1,_=>rfl
 | 2,_=>rfl
 | 3,_=>rfl
 | 4,_=>rfl
 | 5,_=>rfl
 | 6,_=>rfl
 | 7,_=>rfl
theorem SetB.free{W:World} {g:Nat} {js:Nat→Bool} (h:SetB W g js) (j:Nat):W.frozen? ⟨g,j,none⟩=false:=frozen_of_row W g j _ _ h
theorem SetB.set{W:World} {g:Nat} {js:Nat→Bool} (h:SetB W g js) (j:Nat) (hj:j<8):SetB (W.setCell ⟨g,j,none⟩ (.bool true)) g (fun i=>if i=j then true else js i):=by
 have h1:=heap_setCell_same W g j _ _ (.bool true) h
 unfold SetB
 rw[h1]
 congr 2
 match j,hj with
 | 0,_=>rfl
 | 1,_=>rfl
 | 2,_=>rfl
 | 3,_=>rfl
 | 4,_=>rfl
 | 5,_=>rfl
 | 6,_=>rfl
 | 7,_=>rfl
theorem SetB.below{W W':World} {g:Nat} {js:Nat→Bool} (h:SetB W g js) (hb:Below W.heap.size W W'):SetB W' g js:=by
 have hlt:g<W.heap.size:=(Array.getElem?_eq_some_iff.1 h).1
 exact(hb.block g hlt).trans h
def hasB(r:Re) (up:Bool) (l:List Fd) (i:Nat):Bool:=l.any fun x=>x.p.frag==(i:Int)&&(!up||onB r x.drive)
theorem hasB_succ(r:Re) (up:Bool) (l:List Fd) (j:Nat) (h:j<l.length) (i:Nat):hasB r up (l.take (j+1)) i=(hasB r up (l.take j) i||(l[j].p.frag==(i:Int)&&(!up||onB r l[j].drive))):=by
 unfold hasB
 rw[List.take_succ_eq_append_getElem h,List.any_append]
 simp
def outTo(r:Re) (up:Bool) (l:List Fd) (n:Int) (j:Nat):List Int:=(List.range j).filterMap fun i:Nat=>if hasB r up l i=true∧(i:Int)<n then some (i:Int) else none
theorem outTo_succ(r:Re) (up:Bool) (l:List Fd) (n:Int) (j:Nat):outTo r up l n (j+1)=outTo r up l n j++(if hasB r up l j=true∧(j:Int)<n then [(j:Int)] else []):=by
 unfold outTo
 rw[List.range_succ,List.filterMap_append]
 congr 1
 by_cases h:hasB r up l j=true∧(j:Int)<n
 ·simp[h]
 ·rw[if_neg h]
  simp only[List.filterMap_cons,List.filterMap_nil]
  rw[if_neg h]
theorem outTo_yes{r:Re} {up:Bool} {l:List Fd} {n:Int} {j:Nat} (h:hasB r up l j=true) (h2:(j:Int)<n):outTo r up l n (j+1)=outTo r up l n j++[(j:Int)]:=by rw[outTo_succ,if_pos ⟨h,h2⟩]
theorem outTo_no{r:Re} {up:Bool} {l:List Fd} {n:Int} {j:Nat} (h:¬(hasB r up l j=true∧(j:Int)<n)):outTo r up l n (j+1)=outTo r up l n j:=by rw[outTo_succ,if_neg h,List.append_nil]
theorem outTo_length{r:Re} {up:Bool} {l:List Fd} {n:Int} {j:Nat}:(outTo r up l n j).length≤j:=by
 unfold outTo
 exact Nat.le_trans (List.length_filterMap_le _ _) (by simp)
theorem srcI_has(r:Re) (l:List Fd) (v f s:Int) (on:Bool):0≤srcI r l v f s on↔l.any (srcB r v f s on)=true:=by
 unfold srcI
 cases h:l.findIdx? (srcB r v f s on) with
 | none =>
  rw[List.findIdx?_eq_none_iff] at h
  constructor
  ·intro h2;simp at h2
  ·intro h2
   obtain⟨x,hx,e⟩:=List.any_eq_true.1 h2
   rw[h x hx] at e;cases e
 | some i =>
  obtain⟨hi,hb,-⟩:=List.findIdx?_eq_some_iff_getElem.1 h
  constructor
  ·intro _;exact List.any_eq_true.2 ⟨l[i],List.getElem_mem hi,hb⟩
  ·intro _;simp
theorem src_stripe(r:Re) (l:List Fd) (v s:Int) (on:Bool) (i:Nat):l.any (srcB r v (i:Int) s on)=hasB r on (stripeP l v s) i:=by
 unfold hasB stripeP
 rw[List.any_filter]
 congr 1
 funext x
 unfold srcB
 rw[isB_eq]
 cases (x.p.vol==v&&x.p.stripe==s) <;> cases (x.p.frag==(i:Int)) <;> simp
theorem intTo_out(r:Re) (l:List Fd) (v s:Int) (on:Bool) (j:Nat) (n:Int) (hj:(j:Int)≤n):intTo r l v s on j=outTo r on (stripeP l v s) n j:=by
 induction j with
 | zero=>rfl
 | succ j ih =>
  have h1:=srcI_has r l v (j:Int) s on
  rw[src_stripe] at h1
  rw[intTo_succ,outTo_succ,ih (by omega)]
  congr 1
  by_cases h:0≤srcI r l v (j:Int) s on
  ·rw[if_pos h,if_pos ⟨h1.1 h,by omega⟩]
  ·rw[if_neg h,if_neg (fun h2=>h (h1.2 h2.1))]
theorem intact_any(vp vo va vl:Value) (r:Re) (l:List Fd) (n:Int) (up:Bool) (w:World) (h:ReS w (Bl w.heap.size) vp vo va r) (hl:SlS 7 FdK w (Bl w.heap.size) vl l) (hfr:∀x∈l,0≤x.p.frag∧x.p.frag<8) (hn:I64 n) :
  Calls Tryz.prog 71 #[.agg #[vp,vo,va],vl,.int .i64 n,.bool up] w fun e w'=>∃u,e=.returned u∧OwnI w' w.heap.size u (outTo r up l n 8)∧Below w.heap.size w w':=by
 obtain⟨Al,cl,rfl,-,hm⟩:=hl.form
 unfold maxLen at hm
 have HR:=zh h
 have HL:=zh hl
 have HFR:=zh hfr
 obtain⟨W0,hW0⟩:=zx ((w.alloc (.cells #[vp,vo,va] 40)).alloc (.cells #[.bool false,.bool false,.bool false,.bool false,.bool false,.bool false,.bool false,.bool false] 208))
 obtain⟨q,hq⟩:=zx w.heap.size
 have c0:W0.cell? ⟨q,0,none⟩=some vp:=by rw[hW0,hq];simp
 have c1:W0.cell? ⟨q,1,none⟩=some vo:=by rw[hW0,hq];simp
 have c2:W0.cell? ⟨q,2,none⟩=some va:=by rw[hW0,hq];simp
 have hb0:Below w.heap.size w W0:=by rw[hW0];exact((Below.refl _ _).alloc (Nat.le_refl _) _).alloc (by simp) _
 have hs0:SetB W0 (q+1) (fun _=>false):=by rw[hW0,hq];exact heap_alloc_at _ _ _ (by simp)
 have hq0:W0.heap.size=q+2:=by rw[hW0,hq];simp
 have HQ:=zh hq
 have HW0:=zh hW0
 have HB0:=zh hb0
 have HC:=zh (⟨c0,c1,c2⟩:_∧_∧_)
 have HS0:=zh hs0
 have HQ0:=zh hq0
 clear h hl hfr hW0 hq hb0 c0 c1 c2 hs0 hq0
 go_enter Tryz.func71,Tryz.ntmps71
 go_wp2_with fail
 rw[←HW0.out,←HQ.out]
 go_loopg [17] l.length (fun z v17 wr=>∃j:Nat,j≤l.length∧z=l.length - j∧v17=.int .i64 (j:Int)∧Hid (SetB wr (q+1) (hasB r up (l.take j)))∧Below (q+1) W0 wr∧q+2≤wr.heap.size)
 case atStart=>exact⟨0,by omega,rfl,rfl,HS0.out,Below.refl _ _,by rw[HQ0.out];exact Nat.le_refl _⟩
 case round =>
  obtain⟨j,hj,rfl,rfl,HS,hbr,hsz⟩:=hrel
  have hqw:w.heap.size≤q+1:=by rw[HQ.out];omega
  have hbw:=HB0.out.trans (hbr.mono hqw)
  by_cases hlt:j<l.length
  ·-- L1{
   obtain⟨b,off,cs,rfl,hRb,-,hcs,hfk,hdr⟩:=HL.out.at_ hlt
   obtain⟨k0,k1,k2,k3,k4,k5,k6⟩:=seven hcs hfk
   have hnx:=hasB_succ r up l j hlt
   have hfg:=HFR.out _ (List.getElem_mem hlt)
   obtain⟨x,hx⟩:=zx (l[j])
   rw[←hx] at k0 k1 k2 k3 k4 k5 k6 hdr hnx hfg
   have kk:∀i u,w.cell? ⟨b,i,none⟩=some u→wr.cell? ⟨b,i,none⟩=some u:=fun i u e=>(hbw.cell (p:=⟨b,i,none⟩) hRb).trans e
   obtain⟨dr,⟨pa,pb,pc,pg,pr,px⟩⟩:=x
   simp only at k0 k1 k2 k3 k4 k5 k6 hdr hfg hnx
   obtain⟨fr,rfl⟩:∃fr:Nat,pb=(fr:Int):=⟨pb.toNat,by omega⟩
   have hfr8:fr<8:=by omega
   have m0:=kk _ _ k0
   have m1:=kk _ _ k1
   have m2:=kk _ _ k2
   have m3:=kk _ _ k3
   have m4:=kk _ _ k4
   have m5:=kk _ _ k5
   have m6:=kk _ _ k6
   obtain⟨y,hy⟩:∃y:ByteArray,y=⟨px.toArray⟩:=⟨_,rfl⟩
   rw[←hy] at m6
   obtain⟨W3,hW3⟩:=zx (wr.alloc (.cells #[.int .i64 (dr:Int),.int .i64 pa,.int .i64 (fr:Int),.int .i64 pc,.int .i64 pg,.int .i64 pr,.string y] 152))
   obtain⟨g,hg⟩:=zx wr.heap.size
   have n0:W3.cell? ⟨g,0,none⟩=some (.int .i64 (dr:Int)):=by rw[hW3,hg];simp
   have n2:W3.cell? ⟨g,2,none⟩=some (.int .i64 (fr:Int)):=by rw[hW3,hg];simp
   have hb3:Below (q+1) W0 W3:=by rw[hW3];exact hbr.alloc (by omega) _
   have d0:=(hb3.cell (p:=⟨q,0,none⟩) (show q<q+1 by omega)).trans HC.out.1
   have d1:=(hb3.cell (p:=⟨q,1,none⟩) (show q<q+1 by omega)).trans HC.out.2.1
   have d2:=(hb3.cell (p:=⟨q,2,none⟩) (show q<q+1 by omega)).trans HC.out.2.2
   have hS3:SetB W3 (q+1) (hasB r up (l.take j)):=by rw[hW3];exact HS.out.below ((Below.refl _ _).alloc (Nat.le_refl _) _)
   have hc3:=hS3.cell fr hfr8
   have hf3:=hS3.free fr
   have HST:=zh (hS3.set fr hfr8)
   have hR3:ReS W3 (Bl W3.heap.size) vp vo va r:=HR.out.below (HB0.out.trans (hb3.mono hqw))
   have HON:=zh (on_any vp vo va r dr W3 hR3 hdr)
   have hsz3:q+2≤W3.heap.size:=by rw[hW3];simp;omega
   have HNX:=zh hnx
   have HB3:=zh hb3
   have HS3:=zh hS3
   have HW3:=zh hW3
   have HG3:=zh hg
   have HONL:=zh (online_any vp vo va r dr W3 hR3 hdr)
   clear k0 k1 k2 k3 k4 k5 k6 hcs hfk hx hnx hy kk cs hRb hb3 hS3 hW3 hg hR3 HON hfg
   have hyes:(!up||onB r dr)=true→∀i,(if i=fr then true else hasB r up (l.take j) i)=hasB r up (l.take (j+1)) i:=fun hb i=>by
    rw[HNX.out i,hb]
    by_cases e:i=fr
    ·rw[if_pos e,e];simp
    ·rw[if_neg e]
     have:((fr:Int)==(i:Int))=false:=by rw[beq_eq_false_iff_ne];omega
     rw[this];simp
   have hno:(!up||onB r dr)=false→∀i,hasB r up (l.take j) i=hasB r up (l.take (j+1)) i:=fun hb i=>by
    rw[HNX.out i,hb];simp
   have HY:=zh hyes
   have HNO:=zh hno
   clear hyes hno
   cases up with
   | false =>
    have HF:=zh (funext (HY.out rfl))
    go_upto_region 5 with fail
    rw[←HW3.out,←HG3.out]
    go_wp2_with fail
    go_roundg (l.length - (j+1))
    case measure=>omega
    case rel=>exact⟨j+1,by omega,rfl,by go_num,by have h:=HST.out;rw[HF.out] at h;exact h,HB3.out.setCell (by simp) _,by simpa using hsz3⟩
   | true =>
    cases ho:onB r dr with
    | false =>
     have HF:=zh (funext (HNO.out (by rw[ho];rfl)))
     rw[ho] at HONL
     clear ho
     go_upto_region 5 with fail
     rw[←HW3.out,←HG3.out]
     go_wp2_with fail
     refine HONL.out.mono ?_
     rintro e w4 ⟨rfl,hb4⟩
     have hS4:=HS3.out.below hb4
     have hb5:=HB3.out.trans (hb4.mono (by omega))
     have hs4:=hb4.size
     have HS4:=zh hS4
     clear hS4
     go_wp2_with fail
     go_roundg (l.length - (j+1))
     case measure=>omega
     case rel=>exact⟨j+1,by omega,rfl,by go_num,by have h:=HS4.out;rw[HF.out] at h;exact h,hb5,by omega⟩
    | true =>
     have HF:=zh (funext (HY.out (by rw[ho];rfl)))
     rw[ho] at HONL
     clear ho
     go_upto_region 5 with fail
     rw[←HW3.out,←HG3.out]
     go_wp2_with fail
     refine HONL.out.mono ?_
     rintro e w4 ⟨rfl,hb4⟩
     have hS4:=HS3.out.below hb4
     have hb5:=HB3.out.trans (hb4.mono (by omega))
     have hs4:=hb4.size
     have hg4:g<W3.heap.size:=by rw[HW3.out,HG3.out];simp
     have p0:=(hb4.cell (p:=⟨g,0,none⟩) hg4).trans n0
     have p2:=(hb4.cell (p:=⟨g,2,none⟩) hg4).trans n2
     have hc4:=hS4.cell fr hfr8
     have hf4:=hS4.free fr
     have HST4:=zh (hS4.set fr hfr8)
     clear hS4
     go_wp2_with fail
     go_roundg (l.length - (j+1))
     case measure=>omega
     case rel=>exact⟨j+1,by omega,rfl,by go_num,by have h:=HST4.out;rw[HF.out] at h;exact h,hb5.setCell (by simp) _,by simpa using (by omega:q+2≤w4.heap.size)⟩
  ·-- L2{
   have hS:=HS.out
   rw[List.take_of_length_le (by omega)] at hS
   have s0:=hS.cell 0 (by omega)
   have s1:=hS.cell 1 (by omega)
   have s2:=hS.cell 2 (by omega)
   have s3:=hS.cell 3 (by omega)
   have s4:=hS.cell 4 (by omega)
   have s5:=hS.cell 5 (by omega)
   have s6:=hS.cell 6 (by omega)
   have s7:=hS.cell 7 (by omega)
   have hix:=index8 (hasB r up l)
   have hoy:=fun j h h2=>outTo_yes (r:=r) (up:=up) (l:=l) (n:=n) (j:=j) h h2
   have hon:=fun j h=>outTo_no (r:=r) (up:=up) (l:=l) (n:=n) (j:=j) h
   obtain⟨js,hjs⟩:=zx (hasB r up l)
   rw[←hjs] at s0 s1 s2 s3 s4 s5 s6 s7 hix
   have hjs2:∀i,hasB r up l i=js i:=fun i=>by rw[hjs]
   have HOY:=zh hoy
   have HON:=zh hon
   have HJS:=zh hjs2
   have HIX:=zh hix
   have HBW:=zh hbw
   have HB:=zh hbr
   clear hS hoy hon hjs hjs2 hix HS hbw
   go_wp2_with fail
   obtain⟨wo,rfl⟩:=zx (wr:World)
   clear s0 s1 s2 s3 s4 s5 s6 s7
   go_loopg [12,35] 8 (fun z v12 v35 wx=>∃j:Nat,j≤8∧z=8 - j∧v35=.int .i64 (j:Int)∧OwnI wx wo.heap.size v12 (outTo r up l n j)∧Below wo.heap.size wo wx)
   case atStart=>exact⟨0,by omega,rfl,rfl,OwnI.nil _ _,Below.refl _ _⟩
   case round =>
    obtain⟨j2,hj2,rfl,rfl,hO,hbx⟩:=hrel
    have hszx:=hbx.size
    by_cases hlt2:j2<8
    ·have hix2:=HIX.out j2 hlt2
     have hlen:(outTo r up l n j2).length+1≤16777216:=by have:=outTo_length (r:=r) (up:=up) (l:=l) (n:=n) (j:=j2);omega
     have hy2:=HOY.out j2
     have hn2:=HON.out j2
     obtain⟨xs,hxs⟩:=zx (outTo r up l n j2)
     rw[←hxs] at hO hlen hy2 hn2
     rw[HJS.out j2] at hy2 hn2
     have HY2:=zh hy2
     have HN2:=zh hn2
     obtain⟨A3,c3,rfl⟩:=hO.form
     have HO:=zh hO
     obtain⟨bj,hbj⟩:=zx (js j2)
     rw[←hbj] at hix2 HY2 HN2
     clear hy2 hn2 hxs hO hbj
     cases bj with
     | false =>
      have HE:=zh (HN2.out (fun h=>by cases h.1))
      go_wp2_with fail
      go_roundg (8 - (j2+1))
      case measure=>omega
      case rel=>exact⟨j2+1,by omega,rfl,by go_num,by rw[HE.out];exact HO.out,hbx⟩
     | true =>
      by_cases hjn:(j2:Int)<n
      ·have HE:=zh (HY2.out rfl hjn)
       have hO3:wr.ownsRow wo.heap.size 3 1 (.slice A3 xs.length c3) xs.length (xs.map (Value.int .i64)):=HO.out
       go_wp2_with (at_builtin;refine app_i (j2:Int) (.tmp 45) (.tmp 47) rfl rfl wo.heap.size _ xs.length xs rfl (by rfl) hO3 (by rfl) hlen hszx ?_;intro v' w5 hown' hg hat)
       go_roundg (8 - (j2+1))
       case measure=>omega
       case rel=>exact⟨j2+1,by omega,rfl,by go_num,by rw[HE.out];exact hown',hbx.grown hg hszx (fun b h=>(HO.out.lt b h).1)⟩
      ·have HE:=zh (HN2.out (fun h=>hjn h.2))
       go_wp2_with fail
       go_roundg (8 - (j2+1))
       case measure=>omega
       case rel=>exact⟨j2+1,by omega,rfl,by go_num,by rw[HE.out];exact HO.out,hbx⟩
    ·obtain rfl:j2=8:=by omega
     have HO:=zh hO
     have hbz:=HBW.out.trans (hbx.mono HBW.out.size)
     clear hO
     go_wp2_with fail
     go_ret
     exact⟨_,rfl,HO.out.base HBW.out.size,hbz⟩
end Go.Proofs.YtcfkllnpkmebpaaGreatDoor

namespace Go.Proofs.YtcfkllnpkmebpaaGreatDoor
open Go.RowKit
set_option linter.unusedVariables false
set_option linter.unusedSimpArgs false
end Go.Proofs.YtcfkllnpkmebpaaGreatDoor
