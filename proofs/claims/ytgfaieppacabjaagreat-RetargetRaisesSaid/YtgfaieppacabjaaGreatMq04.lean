/- Parts. -/
import Derived.Test.YtgfaieppacabjaaGreatMq03
import Derived.Laws.AppendOwnNone
set_option linter.unusedSectionVars false
set_option maxRecDepth 100000
set_option maxHeartbeats 12800000
set_option linter.unusedVariables false
set_option linter.unusedSimpArgs false
namespace Go.Proofs.YtgfaieppacabjaaGreat
open Go.RowKit
theorem whole_any(k m:Int)(vh:Value)(hs:List Frg)(w:World)(hk:I64 k)(hm:I64 m)(hh:FragS w (Bl w.heap.size) vh hs)(hl:hs.length<=65536)(hd:∀h∈hs,h.data.length<=65536) :
  Calls Tryz.prog 116 #[.int .i64 k,.int .i64 m,vh] w fun e w'=>∃v,e=.returned (.tuple #[v,.int .i64 (decE k m hs)])/\(decE k m hs=0->MatS w' (Bl w'.heap.size) v (wordT k.toNat (k+m).toNat (decD k.toNat hs) (rowLen hs)))/\(decE k m hs≠0->v=.slice none 0 0)/\Below w.heap.size w w':=by
 obtain⟨Ah,ch,rfl,hch,-⟩:=hh.form;have HC:=zh (ecode_any k m · hk hm)
 cases hcb:codeB k m with
 | false =>
  have hE:=decE_code (hs:=hs) hcb;rw[hcb] at HC;rw[hE];clear hE hcb hh;go_enter Tryz.func116,Tryz.ntmps116;go_wp2_with fail;refine(HC.out _).mono ?_;rintro e w' ⟨rfl,rfl⟩;go_wp2;go_ret2;exact⟨_,rfl,(fun h=>by cases h),fun _=>rfl,zB _ _⟩
 | true =>
  have hck:=(codeB_iff k m).1 hcb;obtain⟨K,rfl⟩:∃K:Nat,k=(K:Int):=⟨k.toNat,by omega⟩;obtain⟨M,rfl⟩:∃M:Nat,m=(M:Int):=⟨m.toNat,by omega⟩;obtain⟨n,hn⟩:=zx (K+M)
  have enm:(K:Int)+(M:Int)=(n:Int):=by omega
  obtain⟨hK1,hK6,-,hM4,hn8⟩:=hck;rw[enm] at hn8;have HCB:=zh hcb;rw[hcb] at HC;have HN:=zh hn;have HH:=zh hh;have hmb:=mk_bools n (by omega);clear hcb hh hn;go_enter Tryz.func116,Tryz.ntmps116;go_wp2_with fail;refine(HC.out _).mono ?_;rintro e w' ⟨rfl,rfl⟩;go_wp2_with fail;obtain⟨gs,hgs⟩:=zx w.heap.size
  have hS1:SeenB (w.alloc (.cells (Array.replicate n (.bool false)) 4)) gs n []:=by
   unfold SeenB;rw[hgs,zN]
   congr 2
   apply Array.ext
   ·simp
   ·intro j h1 h2;simp
  have hb1:Below w.heap.size w (w.alloc (.cells (Array.replicate n (.bool false)) 4)):=(zB _ _).alloc (zR _) _;rw[<-hgs]
  have hgw:w.heap.size<=gs:=by omega
  generalize w.alloc (.cells (Array.replicate n (.bool false)) 4)=w1 at *;clear hgs hmb;go_loopg [8,10,32] hs.length (fun z v8 v10 v32 wr=>∃j:Nat,j<=hs.length/\z=hs.length - j/\v32=.int .i64 (j:Int)/\v10=.bool (!decide ((idxL hs).take j).Nodup)/\SeenB wr gs n ((idxL hs).take j)/\OwnB wr w.heap.size v8 ((datas hs).take j)/\Hid (∀i (hi:i<hs.length),i<j->0<=hs[i].idx/\hs[i].idx<n)/\Below w.heap.size w wr)
  case atStart=>exact⟨0,by omega,rfl,rfl,by simp,by simpa using hS1,by simpa using OwnB.nil _ _,fun i _ h=>by omega,hb1⟩
  case round =>
   clear hS1 hb1;obtain⟨j,hj,rfl,rfl,rfl,hS,hO,HI,hb⟩:=hrel;have hsz:=hb.size;obtain⟨A8,c8,hv8⟩:=hO.form
   have htl:((datas hs).take j).length=j:=by rw[List.length_take,datas_length];omega
   rw[htl] at hv8;subst hv8;have HTL:=zh htl;clear htl;by_cases hlt:j<hs.length
   ·-- W1{
    obtain⟨b,off,va,rfl,hR,c0,c1,hva,hix⟩:=HH.out.at_ hlt;have d0:=(hb.cell (p:=⟨b,off+j*2,none⟩) hR).trans c0;have d1:=(hb.cell (p:=⟨b,off+j*2+1,none⟩) hR).trans c1;obtain⟨h,hhj⟩:=zx (hs[j]);rw[<-hhj] at d0 hva hix;have HHJ:=zh hhj;obtain⟨Av,cv,rfl,-,-⟩:=hva.form;clear c0 c1 hhj;by_cases hout:h.idx<0\/(n:Int)<=h.idx
    ·have hib:idxBad ((K:Int)+(M:Int)) hs=true:=by rw[enm];exact idxBad_at hlt (by rw[<-HHJ.out];exact hout)
     have hE:=decE_idx HCB.out hib;have HE:=zh hE;clear hib hE;rcases hout with hneg | hbig
     ·go_wp2;go_ret2;rw[HE.out];exact⟨_,rfl,(fun h=>by cases h),fun _=>rfl,hb.alloc hsz _⟩
     ·have hneg:¬h.idx<0:=by omega
      go_wp2;go_ret2;rw[HE.out];exact⟨_,rfl,(fun h=>by cases h),fun _=>rfl,hb.alloc hsz _⟩
    ·obtain⟨i,hi⟩:∃i:Nat,h.idx=(i:Int):=⟨h.idx.toNat,by omega⟩
     have hin:i<n:=by omega
     have hneg:¬h.idx<0:=by omega
     have hbig:¬(n:Int)<=h.idx:=by omega
     have hii:(h.idx).toNat=i:=by omega
     have hjt:(idxL hs).take (j+1)=(idxL hs).take j++[i]:=by
      rw[List.take_succ_eq_append_getElem (by rw[idxL_length];exact hlt)]
      congr 2
      simp only[idxL,List.getElem_map];rw[<-HHJ.out,hii]
     have hdt:(datas hs).take (j+1)=(datas hs).take j++[h.data]:=by
      rw[List.take_succ_eq_append_getElem (by rw[datas_length];exact hlt),datas_getElem hs j hlt,<-HHJ.out]
     rw[hi] at d0 hneg hbig;have cs:=hS.cell hin;have fs:=hS.free i;have hS2:=hS.set hin;rw[<-hjt] at hS2;have hnd:=nodup_snoc ((idxL hs).take j) i;rw[<-hjt] at hnd;have hgr:=only_set1 wr gs i (.bool true);obtain⟨xs0,hox,hcx⟩:=hO;have hnes:=own_seen hox hS;have hO2:OwnB (wr.setCell ⟨gs,i,none⟩ (.bool true)) w.heap.size (.slice A8 j c8) ((datas hs).take j):=OwnB.kept ⟨xs0,hox,hcx⟩ hgr (.inr hnes) (fun b hb=>hgr.block b (zM hb hsz) (fun e=>by injection e with e;unfold Bl at hb;omega));have hb2:Below w.heap.size w (wr.setCell ⟨gs,i,none⟩ (.bool true)):=hb.setCell hgw _;have HJT:=zh hjt;have HDT:=zh hdt;have HND:=zh hnd;have HI2:Hid (0<=h.idx/\h.idx<n):=(by omega:0<=h.idx/\h.idx<n);clear hjt hdt hnd hii hout hox hcx hgr hnes hS xs0;have hgsl:=block_lt_of_cell cs;have hgsl:gs<wr.heap.size:=hgsl;generalize hq1:(!decide ((idxL hs).take j).Nodup)=q1 at *;generalize hq2:decide (i∈(idxL hs).take j)=q2 at *;clear hq1 hq2;have hvw:ByS w (Bl w.heap.size) (.slice Av h.data.length cv) h.data:=hva;have HV:=zh hvw;have hone:(Value.slice Av h.data.length cv).oneCell'=true:=rfl;clear hva hvw hix
     have hj80:j+1<=16777216:=by omega
     cases q1
     all_goals
      go_upto_region 13 with fail;have hba:Below (wr.setCell ⟨gs,i,none⟩ (.bool true)).heap.size (wr.setCell ⟨gs,i,none⟩ (.bool true)) ((wr.setCell ⟨gs,i,none⟩ (.bool true)).alloc (.cells #[.int .i64 (i:Int),.slice Av h.data.length cv] 74)):=(zB _ _).alloc (zR _) _;have hb3:=hb2.trans (hba.mono hb2.size);have hS3:=hS2.below hba;have hO3:=hO2.below hba hb2.size
      have z0:((wr.setCell ⟨gs,i,none⟩ (.bool true)).alloc (.cells #[.int .i64 (i:Int),.slice Av h.data.length cv] 74)).cell? ⟨wr.heap.size,1,none⟩=some (.slice Av h.data.length cv):=by
       have e:(wr.setCell ⟨gs,i,none⟩ (.bool true)).heap.size=wr.heap.size:=by simp
       rw[<-e,cell_of_row _ _ 1 _ _ _ (zN _ _)];rfl
      generalize (wr.setCell ⟨gs,i,none⟩ (.bool true)).alloc (.cells #[.int .i64 (i:Int),.slice Av h.data.length cv] 74)=w3 at *;have hsz3:=hb3.size;obtain⟨xs,ho3,hc3⟩:=hO3;rw[HTL.out] at ho3;clear hba hS2 hO2 hb2 d0 d1 cs fs hgsl;go_wp2_with (at_builtin;refine app_row (.tmp 59) (.tmp 62) rfl rfl _ _ _ _ (by rfl) ho3 (by rfl) hone hj80 hsz3 ?_;intro v' w4 hown' hg hat);have hkp:=own_kept ho3 hg hsz3;have hS4:SeenB w4 gs n ((idxL hs).take (j+1)):=(hg.block gs (by unfold SeenB at hS3;rcases Nat.lt_or_ge gs w3.heap.size with h1 | h1;exact h1;rw[Array.getElem?_eq_none h1] at hS3;cases hS3) (fun e=>own_seen ho3 hS3 e.symm)).trans hS3
      have hO4:OwnB w4 w.heap.size v' ((datas hs).take (j+1)):=by
       rw[HDT.out];exact OwnB.push (by rw[HTL.out];exact ho3) hc3 (HV.out.keep (kept_below hb3)) (by rw[HTL.out];exact hown') hkp
      go_roundg (hs.length-(j+1))
      case measure=>omega
      case rel =>
       refine⟨j+1,by omega,rfl,by go_num,by rw[HND.out];simp,hS4,hO4,fun q hq h2=>?_,hb3.grown hg hsz3 (fun b h=>(ho3.lt b h).1)⟩;by_cases e:q=j
       ·subst e;rw[<-HHJ.out];exact HI2.out
       ·exact HI.out q hq (by omega)
   ·have hje:j=hs.length:=by omega
    have hib:idxBad ((K:Int)+(M:Int)) hs=false:=by rw[enm];exact idxBad_none fun i hi=>HI.out i hi (by omega)
    have hdt:(datas hs).take j=datas hs:=List.take_of_length_le (by rw[datas_length];omega);have hjt:(idxL hs).take j=idxL hs:=List.take_of_length_le (by rw[idxL_length];omega);rw[hdt] at hO;have HIB:=zh hib
    have hdup:(!decide ((idxL hs).take j).Nodup)=dupB hs:=by rw[hjt];rfl
    have HJE:=zh hje;clear hS hdt hjt hib hje;generalize (!decide ((idxL hs).take j).Nodup)=q1 at *;obtain⟨q,hq⟩:=zx (dupB hs);rw[<-hq] at hdup
    cases q1 with
    | true =>
     have hE:=decE_dup HCB.out HIB.out (by rw[<-hq,<-hdup]);have HE:=zh hE;clear hE hq hdup;go_wp2;go_ret2;rw[HE.out];exact⟨_,rfl,(fun h=>by cases h),fun _=>rfl,hb⟩
    | false =>
     have hdf:dupB hs=false:=by rw[<-hq,<-hdup]
     have HDF:=zh hdf;clear hq hdup hdf;by_cases hsh:hs.length<K
     ·have hE:=decE_short HCB.out HIB.out HDF.out (by omega);have HE:=zh hE
      have hsh2:(hs.length:Int)<(K:Int):=by omega
      clear hE;go_wp2;go_ret2;rw[HE.out];exact⟨_,rfl,(fun h=>by cases h),fun _=>rfl,hb⟩
     ·have hsh2:¬(hs.length:Int)<(K:Int):=by omega
      have hMS:=hO.matS hsz;have HLV:=zh (level_any _ _ wr hMS)
      have hc8:hs.length<=c8:=by
       obtain⟨A9,c9,e9,h9,-⟩:=hMS.form;rw[datas_length] at h9;injection e9 with _ _ e9;omega
      have HMS:=zh hMS;clear hMS
      cases hlv:levelB (datas hs) with
      | false =>
       have hE:=decE_level HCB.out HIB.out HDF.out hsh2 hlv;rw[hlv] at HLV;have HE:=zh hE;clear hE hlv;go_wp2_with fail;refine HLV.out.mono ?_;rintro e w' ⟨rfl,rfl⟩;go_wp2;go_ret2;rw[HE.out];exact⟨_,rfl,(fun h=>by cases h),fun _=>rfl,hb⟩
      | true =>
       have hwide:=levelB_wide hlv;rw[hlv] at HLV;have HWD:Hid (Wide (datas hs) (rowLen hs)):=hwide;have HLB:=zh hlv;have hmk:=mk_rows K (by omega);clear hwide hlv;go_wp2_with fail;refine HLV.out.mono ?_;rintro e w' ⟨rfl,rfl⟩;go_wp2_with fail;have hF0:=FillB.new wr K;have hbm:Below wr.heap.size wr (wr.alloc (.cells (Array.replicate K (.slice none 0 0)) 72)):=(zB _ _).alloc (zR _) _;obtain⟨gm,hgm⟩:=zx wr.heap.size;rw[<-hgm] at hF0 ⊢
       have hgm2:wr.heap.size<=gm:=by omega
       have hKl:K<=hs.length:=by omega
       clear hgm hmk;generalize wr.alloc (.cells (Array.replicate K (.slice none 0 0)) 72)=w2 at *;obtain⟨wo,rfl⟩:=zx (wr:World);go_loopg [80] K (fun z v80 wr=>∃c:Nat,c<=K/\z=K - c/\v80=.int .i64 (c:Int)/\FillB wr gm K ((matK K hs).take c)/\Below wo.heap.size wo wr)
       case atStart=>exact⟨0,by omega,rfl,rfl,hF0,hbm⟩
       case round =>
        clear hF0 hbm;obtain⟨c,hc,rfl,rfl,hF,hbo⟩:=hrel
        have hfl:((matK K hs).take c).length=c:=by rw[List.length_take,matK_length hKl];omega
        by_cases hlt2:c<K
        ·-- W2{
         obtain⟨b,off,va,rfl,hR,c0,c1,hva,hix⟩:=HH.out.at_ (k:=c) (by omega);have hbw:=hb.trans (hbo.mono hsz);have d0:=(hbw.cell (p:=⟨b,off+c*2,none⟩) hR).trans c0;have hin:=idx_in HIB.out c (by omega);rw[enm] at hin;have hmt:=matK_take hKl c hlt2;obtain⟨i,hi⟩:∃i:Nat,hs[c].idx=(i:Int):=⟨(hs[c].idx).toNat,by omega⟩;rw[show(hs[c].idx).toNat=i from by omega] at hmt;rw[hi] at d0;have hci:=coefficients_any K i wr (by omega) (by omega);have HCI:=zh hci;have HMT:=zh hmt;have HFL:=zh hfl;clear c0 c1 hva hci hmt hfl hin hi hix;go_wp2_with fail;refine HCI.out.mono ?_;rintro e w3 ⟨v3,rfl,hv3,hb3⟩;have hF3:=hF.below hb3;have hgl:=hF.lt;have hnx:=hF3.next (by rw[HFL.out];exact hlt2);rw[HFL.out] at hnx;obtain⟨n0,n1⟩:=hnx;have hst:=hF3.store (by rw[HFL.out];exact hlt2) (hv3.mono (fun b hb=>⟨hb.2,fun e=>by have:=hb.1;omega⟩));rw[HFL.out] at hst;obtain⟨A3,c3,rfl,-,-⟩:=hv3.form;have hsz0:=hbo.size;clear hv3 hF3;go_wp2;go_roundg (K-(c+1))
         case measure=>omega
         case rel=>exact⟨c+1,by omega,rfl,by go_num,by rw[HMT.out];exact hst,(hbo.trans (hb3.mono hsz0)).setCell (by omega) _⟩
        ·have hcK:c=K:=by omega
         have hF2:FillB wr gm K (matK K hs):=by
          have h:=hF;rw[hcK,List.take_of_length_le (by rw[matK_length hKl];exact zR _)] at h;exact h
         have hml:=matK_length hKl;have hMm:=hF2.matS hml (by unfold maxLen;omega);have hIj:=matK_inj HCB.out HIB.out HDF.out (by omega)
         have hKK:((K:Int)).toNat=K:=by omega
         rw[hKK] at hIj;have hiv:=invert_any _ (matK K hs) wr hMm (by omega) (by omega) (by rw[hml];exact matK_wide K hs) hIj
         have hil:(invT (matK K hs)).length=K:=by rw[invT_length,hml]
         have hiw:Wide (invT (matK K hs)) K:=by have h:=invT_wide (matK K hs) (by rw[hml];exact matK_wide K hs) hIj;rw[hml] at h;exact h
         have HIV:=zh hiv;have HIL:=zh hil;have HIW:=zh hiw;have hsz0:=hbo.size;have hMS2:=HMS.out.below hbo;have HMS2:=zh hMS2;have hbw:=hb.trans (hbo.mono hsz);have hmk:=mk_rows K (by omega);have HCK:=zh hcK;clear hF hF2 hfl hcK hml hMm hIj hKK hiv hil hiw hMS2 hbo hb HMS hsz hgm2;go_wp2_with fail;refine HIV.out.mono ?_;rintro e w3 ⟨vi,rfl,hvi,hb3⟩;have hMS3:=HMS2.out.below hb3;have hbw3:=hbw.trans (hb3.mono hbw.size);obtain⟨Ai,ci,hvi2,hci,-⟩:=hvi.form;rw[HIL.out] at hvi2 hci;subst hvi2;have HVI:=zh hvi;have HMS3:=zh hMS3;clear HIV hvi hMS3 hbw hb3 HMS2;go_wp2_with fail;have hF0:=FillB.new w3 K;have hbm:Below w3.heap.size w3 (w3.alloc (.cells (Array.replicate K (.slice none 0 0)) 72)):=(zB _ _).alloc (zR _) _;obtain⟨gd,hgd⟩:=zx w3.heap.size;rw[<-hgd] at hF0 ⊢
         have hgd2:w3.heap.size<=gd:=by omega
         have hgd3:gd<=w3.heap.size:=by omega
         clear hgd hmk;generalize w3.alloc (.cells (Array.replicate K (.slice none 0 0)) 72)=w4 at *;go_loopg [103] K (fun z v103 wr=>∃c:Nat,c<=K/\z=K - c/\v103=.int .i64 (c:Int)/\FillB wr gd K ((decD K hs).take c)/\Below w3.heap.size w3 wr)
         case atStart=>exact⟨0,by omega,rfl,rfl,hF0,hbm⟩
         case round =>
          clear hF0 hbm;obtain⟨c,hc,rfl,rfl,hF,hbo⟩:=hrel
          have hfl:((decD K hs).take c).length=c:=by rw[List.length_take,decD_length];omega
          by_cases hlt2:c<K
          ·-- W3{
           obtain⟨bi,oi,vr,rfl,hRi,ci0,hvr⟩:=HVI.out.at_ (k:=c) (by rw[HIL.out];exact hlt2);have hrl:=HIW.out _ (List.getElem_mem (by rw[HIL.out];exact hlt2:c<(invT (matK K hs)).length));have hrd:=getD_lt (invT (matK K hs)) [] (i:=c) (by rw[HIL.out];exact hlt2);have cw:=(hbo.cell (p:=⟨bi,oi+c,none⟩) hRi).trans ci0
           have hdt:(decD K hs).take (c+1)=(decD K hs).take c++[combT ((invT (matK K hs)).getD c []) ((datas hs).take K) (rowLen hs)]:=by
            rw[List.take_succ_eq_append_getElem (by rw[decD_length];exact hlt2)]
            congr 2
            simp[decD]
           rw[hrd] at hdt;generalize (invT (matK K hs))[c]'(by rw[HIL.out];exact hlt2)=row at *;obtain⟨Ar,cr,hvr2,-,-⟩:=hvr.form;rw[hrl] at hvr2;subst hvr2;have hrows:MatS wr.drew (Bl wr.drew.heap.size) (.slice A8 K c8) ((datas hs).take K):=((HMS3.out.takeS (k:=K) (c':=c8) (by rw[datas_length];exact hKl) (by omega)).below hbo).keep (fun _ _=>rfl);have hrow:ByS wr.drew (Bl wr.drew.heap.size) (.slice Ar K cr) row:=(hvr.below hbo).keep (fun _ _=>rfl)
           have hwK:Wide ((datas hs).take K) (rowLen hs):=fun r hr=>HWD.out r (List.mem_of_mem_take hr)
           have hlK:((datas hs).take K).length=K:=by rw[List.length_take,datas_length];omega
           have hLm:rowLen hs<=65536:=by
            unfold rowLen
            have h0:0<(datas hs).length:=by rw[datas_length];omega
            rw[getD_lt _ _ h0];have:=datas_getElem hs 0 (by omega);rw[this];exact hd _ (List.getElem_mem _)
           have hcb:=combine_any _ _ row ((datas hs).take K) (rowLen hs) wr.drew hrow hrows (by rw[hlK,hrl]) (by rw[hlK];omega) (by rw[hlK];omega) hwK hLm;have HDT:=zh hdt;have HFL:=zh hfl;have HF:=zh hF;have hszd:=hbo.size;have hnx:=hF.next (by rw[hfl];exact hlt2);rw[hfl] at hnx;obtain⟨n0,n1⟩:=hnx;have hgl:=hF.lt;have hbi:bi<gd:=zM hRi hgd2
           have hco:=hcb.mono (fun e w' ⟨v,he,hv,hb⟩=>(by
            obtain⟨A5,c5,rfl,-,-⟩:=hv.form;rw[combT_length] at he;rw[combT_length] at hv
            exact⟨A5,c5,he,hv,hb,(hb.cell (p:=⟨gd,c,none⟩) hgl).trans n0,(hb.frozen (p:=⟨gd,c,none⟩) hgl).trans n1⟩:∃A5 c5,e=Ending.returned (Value.tuple #[Value.slice A5 (rowLen hs) c5,Value.int .i64 0])/\ByS w' (Fr wr.drew.heap.size w'.heap.size) (Value.slice A5 (rowLen hs) c5) (combT row ((datas hs).take K) (rowLen hs))/\Below wr.drew.heap.size wr.drew w'/\w'.cell? ⟨gd,c,none⟩=some (Value.slice none 0 0)/\w'.frozen? ⟨gd,c,none⟩=false))
           have HCO:=zh hco;clear hco;clear hcb hdt hfl hrows hrow hwK hlK hLm hvr hrl hrd ci0 hF
           have k1:(0:Int)<=(c:Int):=by omega
           have k2:(c:Int)<(K:Int):=by omega
           have k3:(K:Int)<=(c8:Int):=by omega
           have k4:(0:Int)<=(K:Int):=by omega
           have k5:(K:Int)<=(hs.length:Int):=by omega
           go_wp2_with fail
           go_region_with (go_at_call 156;refine HCO.out.mono ?_;rintro e w5 ⟨A5,c5,rfl,hv5,hb5,n2,n3⟩)
           all_goals
            go_wp2_with fail;go_roundg (K-(c+1))
            case measure=>omega
            case rel =>
             have hbd:Below wr.heap.size wr w5:=(zB wr.heap.size wr).drew.trans hb5;have hF5:=(HF.out.below hbd).store (by rw[HFL.out];exact hlt2) (hv5.mono (fun b hb=>⟨hb.2,fun e=>by have h1:wr.heap.size<=b:=hb.1;omega⟩));rw[HFL.out] at hF5;exact⟨c+1,by omega,rfl,by go_num,by rw[HDT.out];exact hF5,(hbo.trans (hbd.mono hszd)).setCell (by omega) _⟩
          ·have hcK:c=K:=by omega
           have hF2:FillB wr gd K (decD K hs):=by
            have h:=hF;rw[hcK,List.take_of_length_le (by rw[decD_length];exact zR _)] at h;exact h
           have hMd:=hF2.matS (decD_length K hs) (by unfold maxLen;omega);have HMD:=zh hMd;have HCK2:=zh hcK;have hbw5:=hbw3.trans (hbo.mono hbw3.size);clear hF hF2 hfl hcK hMd hbo hbw3 hgd2 hgd3;go_wp2_with fail
           have hwd:=word_any K M _ (decD K hs) (rowLen hs) wr (decD_length K hs) (by omega) (by omega) (by omega) HMD.out (decD_wide K hs) (by
            unfold rowLen
            have h0:0<(datas hs).length:=by rw[datas_length];omega
            rw[getD_lt _ _ h0];have:=datas_getElem hs 0 (by omega);rw[this]
            exact hd _ (List.getElem_mem _))
           have HWO:=zh hwd;clear hwd;refine HWO.out.mono ?_;rintro e w6 ⟨v6,rfl,hv6,hb6⟩;have hbw6:=hbw5.trans (hb6.mono hbw5.size);rw[<-HN.out] at hv6;obtain⟨A6,c6,hv62,-,-⟩:=hv6.form;rw[wordT_length] at hv62;subst hv62;have HV6:=zh hv6;clear hv6 hb6 hbw5;go_wp2_with fail;go_loopg [127] hs.length (fun z v127 wr=>∃c:Nat,c<=hs.length/\z=hs.length-c/\v127=.int .i64 (c:Int)/\Hid (∀i (hi:i<hs.length),i<c->(wordT K n (decD K hs) (rowLen hs)).getD hs[i].idx.toNat []=hs[i].data)/\Below w6.heap.size w6 wr)
           case atStart=>exact⟨0,by omega,rfl,rfl,(fun i _ h=>by omega),zB _ _⟩
           case round =>
            obtain⟨c,hc,rfl,rfl,HQ,hbo⟩:=hrel;have hbw:=hbw6.trans (hbo.mono hbw6.size);by_cases hlt3:c<hs.length
            ·obtain⟨b,off,va,rfl,hR,c0,c1,hva,hix⟩:=HH.out.at_ hlt3;have d0:=(hbw.cell (p:=⟨b,off+c*2,none⟩) hR).trans c0;have d1:=(hbw.cell (p:=⟨b,off+c*2+1,none⟩) hR).trans c1;have hin:=idx_in HIB.out c hlt3;rw[enm] at hin;obtain⟨i,hi⟩:∃i:Nat,hs[c].idx=(i:Int):=⟨(hs[c].idx).toNat,by omega⟩
             have hii:(hs[c].idx).toNat=i:=by omega
             have hin2:i<n:=by omega
             obtain⟨bo,oo,vr,rfl,hRo,co0,hvr⟩:=HV6.out.at_ (k:=i) (by rw[wordT_length];exact hin2);have cw:=(hbo.cell (p:=⟨bo,oo+i,none⟩) hRo).trans co0;have hrd:=getD_lt (wordT K n (decD K hs) (rowLen hs)) [] (i:=i) (by rw[wordT_length];exact hin2);generalize (wordT K n (decD K hs) (rowLen hs))[i]'(by rw[wordT_length];exact hin2)=row at *;obtain⟨f,hf⟩:=zx (hs[c].data);rw[hi] at d0;rw[<-hf] at hva;obtain⟨Av,cv,rfl,-,-⟩:=hva.form;obtain⟨Ar,cr,rfl,-,-⟩:=hvr.form;obtain⟨wx,hwx⟩:=zx (wr.alloc (.cells #[.int .i64 (i:Int),.slice Av f.length cv] 74))
             have hbx:Below wr.heap.size wr wx:=by rw[hwx];exact(zB _ _).alloc (zR _) _
             have x0:wx.cell? ⟨wr.heap.size,0,none⟩=some (.int .i64 (i:Int)):=by rw[hwx];simp
             have x1:wx.cell? ⟨wr.heap.size,1,none⟩=some (.slice Av f.length cv):=by rw[hwx];simp
             have cx:=(hbx.cell (p:=⟨bo,oo+i,none⟩) (zM hRo hbo.size)).trans cw;have hvx:=(hva.keep (kept_below hbw)).keep (kept_below' hbx hbw.size);have hrx:=(hvr.below hbo).below hbx;have y1:=conv_bytes (w:=wx.drew) (hvx.keep (w':=wx.drew) (fun _ _=>rfl));have y2:=conv_bytes (w:=wx.drew) (hrx.keep (w':=wx.drew) (fun _ _=>rfl));have HWX:=zh hwx
             have HIN2:Hid ((wordT K n (decD K hs) (rowLen hs)).getD (hs[c].idx).toNat []=row):=by rw[hii];exact hrd
             have HF:=zh hf
             have i1:(0:Int)<=(i:Int):=by omega
             have i2:(i:Int)<(n:Int):=by omega
             clear c0 c1 hva hix hin hi hii co0 hrd hf hwx hvx hrx hvr cw;by_cases hfe:row=f
             ·have q1:(row==f)=true:=by simpa using hfe
              have HFE:=zh hfe;clear hfe;go_upto_region 38 with fail;rw[<-HWX.out]
              go_region
              all_goals
               go_wp2_with fail;go_roundg (hs.length-(c+1))
               case measure=>omega
               case rel=>exact⟨c+1,by omega,rfl,by go_num,(fun q hq h2=>by
                by_cases e:q=c
                ·subst e;rw[HIN2.out,HFE.out,HF.out]
                ·exact HQ.out q hq (by omega)),(hbo.trans (hbx.mono hbo.size)).drew⟩
             ·have q1:(row==f)=false:=by rw[beq_eq_false_iff_ne];exact hfe
              have hok:okW K n hs=false:=by
               unfold okW;rw[List.all_eq_false];refine⟨hs[c],List.getElem_mem hlt3,?_⟩;rw[HIN2.out,<-HF.out]
               simpa using hfe
              have hKn:((K:Int)).toNat=K/\((K:Int)+(M:Int)).toNat=n:=⟨by omega,by rw[enm];omega⟩;have hE:=decE_word HCB.out HIB.out HDF.out (by omega) HLB.out (by rw[hKn.1,hKn.2];exact hok);have HE:=zh hE;clear hE hok hKn hfe;go_upto_region 38 with fail;rw[<-HWX.out]
              go_region
              all_goals
               go_wp2;go_ret2;rw[HE.out];exact⟨_,rfl,(fun h=>by cases h),fun _=>rfl,(hbw.trans (hbx.mono hbw.size)).drew⟩
            ·have hok:okW K n hs=true:=by
              unfold okW;rw[List.all_eq_true];intro x hx;obtain⟨q,hq,rfl⟩:=List.getElem_of_mem hx;have h:=HQ.out q hq (by omega)
              simpa using h
             have hKn:((K:Int)).toNat=K/\((K:Int)+(M:Int)).toNat=n:=⟨by omega,by rw[enm];omega⟩;have hE:=decE_ok HCB.out HIB.out HDF.out (by omega) HLB.out (by rw[hKn.1,hKn.2];exact hok);have HE:=zh hE;have HKN:=zh hKn;clear hE hok hKn;go_wp2;go_ret2;rw[HE.out,HKN.out.1,HKN.out.2];exact⟨_,rfl,(fun _=>HV6.out.below hbo),(fun h=>absurd rfl h),hbw⟩
def within(x n:Int):Int:=if n<1 then 0 else x % n
theorem within_small(x n:Int)(h:n<1):within x n=0:=by unfold within;rw[if_pos h]
theorem within_range(x n:Int)(h:1<=n):0<=within x n/\within x n<n:=by
 unfold within;rw[if_neg (by omega)];exact⟨Int.emod_nonneg _ (by omega),Int.emod_lt_of_pos _ (by omega)⟩
theorem tmod_cases{x n:Int}(hn:1<=n):x.tmod n=x % n\/(x.tmod n=x % n-n/\0<x % n):=by
 have e:=Int.tmod_eq_emod (a:=x) (b:=n);have h1:=Int.emod_nonneg x (show n≠0 by omega);by_cases h:0<=x\/n ∣ x
 ·rw[if_pos h] at e;left;omega
 ·rw[if_neg h] at e
  have h2:x % n≠0:=fun h0=>h (.inr (Int.dvd_of_emod_eq_zero h0))
  right;omega
theorem tmod_neg{x n:Int}(hn:1<=n)(h:x.tmod n<0):x.tmod n+n=x % n /\ -n<x.tmod n:=by
 have h1:=Int.emod_nonneg x (show n≠0 by omega);rcases tmod_cases (x:=x) hn with e | ⟨e,h2⟩ <;> omega
theorem tmod_pos{x n:Int}(hn:1<=n)(h:0<=x.tmod n):x.tmod n=x % n:=by
 have h1:=Int.emod_lt_of_pos x (show 0<n by omega);rcases tmod_cases (x:=x) hn with e | ⟨e,h2⟩ <;> omega
theorem within_any(x n:Int)(w:World)(hx:I64 x)(hn:I64 n) :
  Calls Tryz.prog 10 #[.int .i64 x,.int .i64 n] w fun e w'=>e=.returned (.int .i64 (within x n))/\w=w':=by
 obtain⟨h0,h1⟩:=hx;obtain⟨g0,g1⟩:=hn;go_enter Tryz.func10,Tryz.ntmps10;go_wp2
 ·go_ret;exact⟨ret_int (within_small _ _ (by assumption)).symm,rfl⟩
 ·go_ret
  have hn:1<=n:=by assumption
  have h:=tmod_neg hn (by assumption);refine⟨ret_int ?_,rfl⟩;show wrap64 _=_;rw[IntWalk.wrap64_in _ (by omega),h.1];unfold within;rw[if_neg (by omega)]
 ·go_ret
  have hn:1<=n:=by assumption
  refine⟨ret_int ?_,rfl⟩;show Int.tmod _ _=_;rw[tmod_pos hn (by assumption)];unfold within;rw[if_neg (by omega)]
def TapeB(W:World)(g:Nat)(vl:Value)(I:Nat):Prop:=W.heap[g]?=some (.cells #[vl,.int .i64 (I:Int)] 76 (0,0))
theorem TapeB.cells{W:World}{g:Nat}{vl:Value}{I:Nat}(h:TapeB W g vl I):W.cell? ⟨g,0,none⟩=some vl/\W.cell? ⟨g,1,none⟩=some (.int .i64 (I:Int))/\W.frozen? ⟨g,1,none⟩=false/\g<W.heap.size:=by
 have h0:=cell_of_row W g 0 _ _ _ h;have h1:=cell_of_row W g 1 _ _ _ h;exact⟨by simpa using h0,by simpa using h1,frozen_of_row W g 1 _ _ h,block_lt_of_cell h0⟩
def tapeX(xs:List Int)(I:Nat):Int:=if h:I<xs.length then xs[I] else((I:Int) % 3)
theorem only_set2{a w:World}{g:Nat}(h:a.grownBy w (some g))(i:Nat)(u:Value):a.grownBy (w.setCell ⟨g,i,none⟩ u) (some g) :=
 ⟨h.os,h.tape,h.output,by simpa[World.setCell] using h.size,fun k hk hne=>(Below.heap_setCell w _ u k (fun e=>hne (by rw[e]))).trans (h.block k hk hne)⟩
theorem only_drew2{a w:World}{g:Nat}(h:a.grownBy w (some g))(n:Nat):a.grownBy (w.drewN n) (some g):=⟨h.os,h.tape,h.output,h.size,h.block⟩
theorem only_refl2(w:World)(g:Nat):w.grownBy w (some g):=⟨rfl,rfl,rfl,zR _,fun _ _ _=>rfl⟩
theorem next_any(g:Nat)(vl:Value)(xs:List Int)(I:Nat)(n:Int)(w:World)(R:Nat->Prop)(hT:TapeB w g vl I)(hx:IntS w R vl xs)(hI:I<=4611686018427387904)(hn:I64 n) :
  Calls Tryz.prog 61 #[.pointer (some ⟨g,0,none⟩),.int .i64 n] w fun e w'=>e=.returned (.int .i64 (within (tapeX xs I) n))/\TapeB w' g vl (I+1)/\w.grownBy w' (some g):=by
 obtain⟨c0,c1,f1,hg⟩:=hT.cells;obtain⟨g0,g1⟩:=hn
 obtain⟨A,c,rfl,-,hm⟩:∃A c,vl=.slice A xs.length c/\xs.length<=c/\xs.length<=maxLen:=by
  obtain⟨⟨A',c',e,h1,h2,h3⟩,h4⟩:=hx;exact⟨A',c',e,h1,h2⟩
 unfold maxLen at hm;have hT2:=heap_setCell_same w g 1 _ _ (.int .i64 ((I+1:Nat):Int)) hT
 have e1:(((I+1:Nat):Int))=(I:Int)+1:=by omega
 rw[e1] at hT2;have HT2:=zh hT2
 have i0:(0:Int)<=(I:Int):=by omega
 by_cases hlt:I<xs.length
 ·have hx0:tapeX xs I=xs[I]:=dif_pos hlt
  obtain⟨b,off,hA,hc,h64⟩:∃b off,A=some ⟨b,off,none⟩/\w.cell? ⟨b,off+I,none⟩=some (.int .i64 xs[I])/\I64 xs[I]:=by
   obtain⟨⟨A',c',e,_,_,h3⟩,h4⟩:=hx;obtain⟨b,off,e2,hb,hc⟩:=h3 (by omega);injection e with e;exact⟨b,off,e.trans e2,hc I _ (zG hlt),h4 _ (List.getElem_mem hlt)⟩
  subst hA;rw[hx0];obtain⟨x,hxx⟩:=zx (xs[I]);rw[<-hxx] at hc h64 ⊢;obtain⟨h0,h1⟩:=h64
  have il:(I:Int)<(xs.length:Int):=by omega
  clear hx0 hxx hT hx e1 hT2;go_enter Tryz.func61,Tryz.ntmps61;go_wp2_with fail
  go_quiet (fail)
  go_wp2_with fail
  go_quiet (fail)
  go_wp2
  ·go_ret;exact⟨ret_int (within_small _ _ (by assumption)).symm,HT2.out,only_set2 (only_drew2 (only_refl2 w g) _) 1 _⟩
  ·go_ret
   have hn:1<=n:=by assumption
   have h:=tmod_neg hn (by assumption);refine⟨ret_int ?_,HT2.out,only_set2 (only_drew2 (only_refl2 w g) _) 1 _⟩;show wrap64 _=_;rw[IntWalk.wrap64_in _ (by omega),h.1];unfold within;rw[if_neg (by omega)]
  ·go_ret
   have hn:1<=n:=by assumption
   refine⟨ret_int ?_,HT2.out,only_set2 (only_drew2 (only_refl2 w g) _) 1 _⟩;show Int.tmod _ _=_;rw[tmod_pos hn (by assumption)];unfold within;rw[if_neg (by omega)]
 ·have hx0:tapeX xs I=(I:Int) % 3:=dif_neg hlt;rw[hx0];obtain⟨x,hxx⟩:=zx ((I:Int) % 3);rw[<-hxx];have HXX:=zh hxx
  have il:¬(I:Int)<(xs.length:Int):=by omega
  clear hx0 hxx hT hx e1 hT2;go_enter Tryz.func61,Tryz.ntmps61;go_wp2_with fail
  go_quiet (fail)
  go_wp2
  ·go_ret;exact⟨ret_int (within_small _ _ (by assumption)).symm,HT2.out,only_set2 (only_drew2 (only_refl2 w g) _) 1 _⟩
  ·go_ret
   have hn:1<=n:=by assumption
   refine⟨ret_int ?_,HT2.out,only_set2 (only_drew2 (only_refl2 w g) _) 1 _⟩;rw[HXX.out];unfold within;rw[if_neg (by omega)]
theorem encode_any(k m n:Nat)(vd:Value)(d:Mat)(w:World)(hc:codeB k m=true)(hk:d.length=k)(hd:MatS w (Bl w.heap.size) vd d)(hw:Wide d n)(hn:n<=65536) :
  Calls Tryz.prog 60 #[.int .i64 (k:Int),.int .i64 (m:Int),vd] w fun e w'=>∃v,e=.returned (.tuple #[v,.int .i64 0])/\MatS w' (Bl w'.heap.size) v (wordT k (k+m) d n)/\Below w.heap.size w w':=by
 have hck:=(codeB_iff k m).1 hc;obtain⟨hK1,hK6,-,hM4,hn8⟩:=hck;have HC:=zh (ecode_any (k:Int) (m:Int) · (by unfold I64;omega) (by unfold I64;omega));rw[hc] at HC;have HL:=zh (level_any vd d w hd);rw[levelB_yes hw] at HL;have HW:=zh (word_any k m vd d n w hk (by omega) (by omega) (by omega) hd hw hn);obtain⟨Ad,cd,rfl,-,-⟩:=hd.form;have HK:=zh hk
 have hkk:(d.length:Int)=(k:Int):=by rw[hk]
 clear hc hk hd hw;generalize d.length=dl at *;go_enter Tryz.func60,Tryz.ntmps60;go_wp2_with fail;refine(HC.out _).mono ?_;rintro e w' ⟨rfl,rfl⟩;go_wp2_with fail;refine HL.out.mono ?_;rintro e w' ⟨rfl,rfl⟩;go_wp2_with fail;refine HW.out.mono ?_;rintro e w' ⟨v,rfl,hv,hb⟩;go_wp2;go_ret2;exact⟨_,rfl,hv,hb⟩
theorem MatS.take{w:World}{R:Nat->Prop}{A:Option Addr}{n c:Nat}{t:Mat}(h:MatS w R (.slice A n c) t)(k:Nat)(hk:k<=t.length):MatS w R (.slice A k k) (t.take k):=by
 obtain⟨A',c',e,h1,h2,h3⟩:=h
 have htl:(t.take k).length=k:=by rw[List.length_take];omega
 refine⟨A,k,by rw[htl],by omega,by omega,fun h0=>?_⟩;obtain⟨b,off,e2,hb,hc⟩:=h3 (by omega);injection e with e
 exact⟨b,off,e.trans e2,hb,fun j r hj=>hc j r (by
  have hj':j<k:=by have:=(zL.1 hj).1;omega
  rwa [List.getElem?_take_of_lt hj'] at hj)⟩
theorem decode_any(k m:Int)(vh:Value)(hs:List Frg)(w:World)(hk:I64 k)(hm:I64 m)(hh:FragS w (Bl w.heap.size) vh hs)(hl:hs.length<=65536)(hd:∀h∈hs,h.data.length<=65536) :
  Calls Tryz.prog 59 #[.int .i64 k,.int .i64 m,vh] w fun e w'=>∃v,e=.returned (.tuple #[v,.int .i64 (decE k m hs)])/\(decE k m hs=0->MatS w' (Bl w'.heap.size) v ((wordT k.toNat (k+m).toNat (decD k.toNat hs) (rowLen hs)).take k.toNat))/\(decE k m hs≠0->v=.slice none 0 0)/\Below w.heap.size w w':=by
 have HW:=zh (whole_any k m vh hs w hk hm hh hl hd);obtain⟨Ah,ch,rfl,hch,-⟩:=hh.form;by_cases hz:decE k m hs=0
 ·have hcb:codeB k m=true:=by
   cases h:codeB k m with
   | true=>rfl
   | false=>rw[decE_code h] at hz;cases hz
  have hck:=(codeB_iff k m).1 hcb;obtain⟨K,rfl⟩:∃K:Nat,k=(K:Int):=⟨k.toNat,by omega⟩;obtain⟨M,rfl⟩:∃M:Nat,m=(M:Int):=⟨m.toNat,by omega⟩;obtain⟨n,hn⟩:=zx (K+M)
  have enm:((K:Int)+(M:Int)).toNat=n:=by omega
  have ek:((K:Int)).toNat=K:=by omega
  rw[hz,enm,ek] at HW;rw[hz,enm,ek];obtain⟨T,hT⟩:=zx (wordT K n (decD K hs) (rowLen hs))
  have htl:T.length=n:=by rw[hT,wordT_length]
  rw[<-hT] at HW ⊢;have HTL:=zh htl;clear hz hcb hh hT htl enm ek;go_enter Tryz.func59,Tryz.ntmps59;go_wp2_with fail;refine HW.out.mono ?_;rintro e w' ⟨v,rfl,hv,-,hb⟩;have hv:=hv (by trivial);obtain⟨At,ct,rfl,hct,hmt⟩:=hv.form;rw[HTL.out] at hct hmt hv ⊢
  have h1:(K:Int)<=(ct:Int):=by omega
  have hcc:=hv.take K (by rw[HTL.out];omega);have HCC:=zh hcc;clear hv hcc;go_wp2;go_ret2;exact⟨_,rfl,fun _=>HCC.out,fun h=>absurd rfl h,hb⟩
 ·have hE:=hz;have HE:=zh hE;generalize decE k m hs=E at *
  have hne:((E:Int) != 0)=true:=by simp[hE]
  clear hz hE hh;go_enter Tryz.func59,Tryz.ntmps59;go_wp2_with fail;refine HW.out.mono ?_;rintro e w' ⟨v,rfl,-,hv,hb⟩;obtain rfl:=hv HE.out;go_wp2;go_ret2;exact⟨_,rfl,(fun h=>absurd h HE.out),fun _=>rfl,hb⟩
theorem info_frag:(Tryz.prog.info? 74).map (fun i=>(i.zero,i.size,i.bytes))=some (some (.agg #[.int .i64 0,.slice none 0 0]),2,32):=by kernel_rfl
theorem app_frag{ops:Array Oper}{rest:List Oper}{o:Oper}{a:Act}{Q:Exit->Act->World->Prop}{w:World}{x0 x1:Value}(s x:Operand)(hgd:o.guard=none)(ho:o.op=.call { callee:=.builtin .append,args:=#[s,x],argTypes:=#[69,69] })
  (base:Nat) (v:Value) (n:Nat) (xs:List Value) (hs:a.eval s=v) (hown:w.ownsRow base 74 2 v n xs)
  (hx:a.eval x=.slice (some ⟨w.heap.size,0,none⟩) 1 1) (h1:x0.oneCell'=true) (h2:x1.oneCell'=true) (hn:n+1<=16777216) (hbase:base<=w.heap.size)
  (h:∀v' w',w'.ownsRow base 74 2 v' (n+1) (xs++[x0,x1])->w.grownBy w' v.ownBlock->(v'.ownBlock=v.ownBlock\/v'.ownBlock=some (w.heap.size+1))->wpList Tryz.prog ops Q rest (a.put o.dst v') w') :
  wpList Tryz.prog ops Q (o :: rest) a (w.alloc (.cells #[x0,x1] 74)):=by
 obtain⟨i0,hi0,hz0,hz1,hz2⟩:=info_parts info_frag;exact wpList_append1 hgd s x _ ho base i0 _ 2 32 Tryz.underlying69 hi0 hz0 hz1 hz2 rfl (by omega) (by omega) v n xs hs hown hx rfl (by simp[h1,h2]) hn hbase h
def FgC(w:World)(v:Value)(hs:List Frg)(cs:List Value):Prop :=
 ∀k h,hs[k]?=some h->∃va,cs[k*2]?=some (.int .i64 h.idx)/\cs[k*2+1]?=some va/\ByS w (fun b=>b<w.heap.size/\v.ownBlock≠some b) va h.data
def OwnFg(w:World)(base:Nat)(v:Value)(hs:List Frg):Prop :=
 (∃cs,w.ownsRow base 74 2 v hs.length cs/\FgC w v hs cs)/\∀h∈hs,I64 h.idx
theorem OwnFg.nil(w:World)(base:Nat):OwnFg w base (.slice none 0 0) []:=⟨⟨[],World.ownsRow_nil _ _ _ _,fun k r h=>by simp at h⟩,fun r h=>by cases h⟩
theorem OwnFg.form{w:World}{base:Nat}{v:Value}{hs:List Frg}(h:OwnFg w base v hs):∃A c,v=.slice A hs.length c:=by
 obtain⟨⟨cs,ho,-⟩,-⟩:=h;exact own_form ho
theorem OwnFg.base{w:World}{base b2:Nat}{v:Value}{hs:List Frg}(h:OwnFg w base v hs)(hb:b2<=base):OwnFg w b2 v hs:=by
 obtain⟨⟨cs,ho,hc⟩,hk⟩:=h;exact⟨⟨cs,own_base ho hb,hc⟩,hk⟩
theorem OwnFg.fragS{w:World}{base:Nat}{v:Value}{hs:List Frg}(h:OwnFg w base v hs):FragS w (Bl w.heap.size) v hs:=by
 obtain⟨⟨cs,ho,hc⟩,hk⟩:=h;refine⟨?_,hk⟩
 have hcell:=fun g=>ho.cells (g:=g)
 have hlt:=ho.lt;rcases ho.2 with ⟨rfl,h0⟩ | ⟨g,cap,cur,rfl,_,_,h2,h3,_⟩
 ·rw[h0];exact Row.nil _ _ _
 ·refine⟨_,cap,rfl,h2,Nat.le_trans h2 h3,fun _=>⟨g,0,rfl,(hlt g rfl).2,fun k r hr=>?_⟩⟩;obtain⟨va,h1,h2',h3'⟩:=hc k r hr
  have e:∀j,(⟨g,0,none⟩:Addr).add j=⟨g,0+j,none⟩:=fun j=>by unfold Addr.add;split <;> simp_all
  refine⟨va,?_,?_,h3'.mono (fun b hb=>hb.1)⟩
  ·rw[<-e];exact hcell g rfl _ _ h1
  ·rw[Nat.add_assoc,<-e];exact hcell g rfl _ _ h2'
theorem OwnFg.push{w w':World}{base:Nat}{v v' va:Value}{hs:List Frg}{cs:List Value}{h:Frg}(hk:∀h∈hs,I64 h.idx)
  (hc:FgC w v hs cs) (ho:w.ownsRow base 74 2 v hs.length cs) (hr:I64 h.idx) (ha:ByS w (fun b=>b<w.heap.size/\v.ownBlock≠some b) va h.data)
  (ho':w'.ownsRow base 74 2 v' (hs.length+1) (cs++[.int .i64 h.idx,va])) (hg:w.grownBy w' v.ownBlock) (hat:v'.ownBlock=v.ownBlock\/v'.ownBlock=some (w.heap.size+1)):OwnFg w' base v' (hs++[h]):=by
 have hR:∀b,(b<w.heap.size/\v.ownBlock≠some b)->(b<w'.heap.size/\v'.ownBlock≠some b):=fun b hb=>⟨zM hb.1 hg.size,by
  rcases hat with e | e
  ·rw[e];exact hb.2
  ·rw[e];intro e2;injection e2 with e2;have:=hb.1;omega⟩
 have hkp:Kept (fun b=>b<w.heap.size/\v.ownBlock≠some b) w w':=fun b hb=>hg.block b hb.1 (fun e=>hb.2 e.symm)
 have hl:cs.length=hs.length*2:=ho.1;refine⟨⟨_,by rw[zP];exact ho',fun k x hx=>?_⟩,fun x hx=>?_⟩
 ·rcases Nat.lt_or_ge k hs.length with hlt | hge
  ·rw[List.getElem?_append_left hlt] at hx;obtain⟨vb,h1,h2,h3⟩:=hc k x hx;exact⟨vb,by rw[List.getElem?_append_left (by omega)];exact h1,by rw[List.getElem?_append_left (by omega)];exact h2,(h3.keep hkp).mono hR⟩
  ·rw[List.getElem?_append_right hge] at hx
   have hk0:k-hs.length=0:=by
    rcases Nat.eq_zero_or_pos (k-hs.length) with h0 | h0
    ·exact h0
    ·rw[List.getElem?_eq_none (by simp;omega)] at hx;cases hx
   rw[hk0] at hx;simp at hx;subst hx
   have hke:k=hs.length:=by omega
   subst hke;exact⟨va,by rw[List.getElem?_append_right (by omega),hl];simp,by rw[List.getElem?_append_right (by omega),hl];simp,(ha.keep hkp).mono hR⟩
 ·rcases List.mem_append.1 hx with h | h
  ·exact hk x h
  ·rw[List.mem_singleton.1 h];exact hr
def fragsT(T:Mat)(a c:Nat):List Frg:=(List.range c).map fun i=>⟨((a+i:Nat):Int),T.getD (a+i) []⟩
theorem fragsT_succ(T:Mat)(a c:Nat):fragsT T a (c+1)=fragsT T a c++[⟨((a+c:Nat):Int),T.getD (a+c) []⟩]:=by simp[fragsT,List.range_succ]
theorem fragsT_length(T:Mat)(a c:Nat):(fragsT T a c).length=c:=by simp[fragsT]
def comE(k m1 m2:Int)(hs:List Frg):Int:=if codeB k m1=false\/codeB k m2=false\/m2<m1 then 1 else decE k m1 hs
def comD(k m1:Nat)(hs:List Frg):Mat:=(wordT k (k+m1) (decD k hs) (rowLen hs)).take k
def comH(k m1 m2:Nat)(hs:List Frg):List Frg:=fragsT (wordT k (k+m2) (comD k m1 hs) (rowLen hs)) (k+m1) (m2-m1)
def u32V(x:Nat):Value:=.int .u32 (x:Int)
def LS(w:World)(R:Nat->Prop)(v:Value)(l:List Nat):Prop :=
 ((v=.slice none 0 0/\l=[])\/∃b off c,v=.slice (some ⟨b,off,none⟩) l.length c/\l.length<=c/\c<=maxLen/\R b/\∀k x,l[k]?=some x->w.cell? ⟨b,off+k,none⟩=some (u32V x))/\(∀x∈l,x<4294967296)
theorem LS.keep{w w':World}{R:Nat->Prop}{v:Value}{l:List Nat}(h:LS w R v l)(hk:Kept R w w'):LS w' R v l:=by
 refine⟨?_,h.2⟩;rcases h.1 with h1 | ⟨b,off,c,h1,h2,h3,h4,h5⟩
 ·exact .inl h1
 ·exact .inr ⟨b,off,c,h1,h2,h3,h4,fun k x hx=>(hk.cell h4).trans (h5 k x hx)⟩
theorem LS.mono{w:World}{R R':Nat->Prop}{v:Value}{l:List Nat}(h:LS w R v l)(hr:∀b,R b->R' b):LS w R' v l:=by
 refine⟨?_,h.2⟩;rcases h.1 with h1 | ⟨b,off,c,h1,h2,h3,h4,h5⟩
 ·exact .inl h1
 ·exact .inr ⟨b,off,c,h1,h2,h3,hr b h4,h5⟩
theorem LS.below{w w':World}{v:Value}{l:List Nat}(h:LS w (Bl w.heap.size) v l)(hb:Below w.heap.size w w'):LS w' (Bl w'.heap.size) v l:=(h.keep (kept_below hb)).mono (Bl.mono hb.size)
theorem LS.form{w:World}{R:Nat->Prop}{v:Value}{l:List Nat}(h:LS w R v l):∃A c,v=.slice A l.length c/\l.length<=c/\l.length<=maxLen:=by
 rcases h.1 with ⟨rfl,rfl⟩ | ⟨b,off,c,h1,h2,h3,h4,h5⟩
 ·exact⟨none,0,rfl,zR _,by unfold maxLen;simp⟩
 ·exact⟨_,c,h1,h2,Nat.le_trans h2 h3⟩
theorem LS.at_{w:World}{R:Nat->Prop}{A:Option Addr}{n c:Nat}{l:List Nat}(h:LS w R (.slice A n c) l){k:Nat}(hk:k<l.length):∃b off,A=some ⟨b,off,none⟩/\R b/\w.cell? ⟨b,off+k,none⟩=some (.int .u32 (l[k]:Int))/\l[k]<4294967296:=by
 rcases h.1 with ⟨_,rfl⟩ | ⟨b,off,c',h1,h2,h3,h4,h5⟩
 ·cases hk
 ·injection h1 with h1;exact⟨b,off,h1,h4,h5 k _ (zG hk),h.2 _ (List.getElem_mem hk)⟩
theorem LS.nil(w:World)(R:Nat->Prop):LS w R (.slice none 0 0) []:=⟨.inl ⟨rfl,rfl⟩,fun x h=>by cases h⟩
def OwnL(w:World)(base:Nat)(v:Value)(l:List Nat):Prop:=w.ownsRow base 107 1 v l.length (l.map u32V)
theorem OwnL.nil(w:World)(base:Nat):OwnL w base (.slice none 0 0) []:=World.ownsRow_nil _ _ _ _
theorem OwnL.lt{w:World}{base:Nat}{v:Value}{l:List Nat}(h:OwnL w base v l):∀b,v.ownBlock=some b->base<=b/\b<w.heap.size:=World.ownsRow.lt h
theorem OwnL.base{w:World}{B B':Nat}{v:Value}{l:List Nat}(h:OwnL w B v l)(hB:B'<=B):OwnL w B' v l:=own_base h hB
theorem OwnL.below{w w2:World}{base:Nat}{v:Value}{l:List Nat}(h:OwnL w base v l)(hb:Below w.heap.size w w2):OwnL w2 base v l:=own_below h hb
theorem OwnL.ls{w:World}{base:Nat}{v:Value}{l:List Nat}(h:OwnL w base v l)(hx:∀x∈l,x<4294967296):LS w (Fr base w.heap.size) v l:=by
 have h1:w.ownsRow base 107 1 v l.length (l.map u32V):=h
 have hc:=fun g=>h1.cells (g:=g)
 have hlt:=h1.lt;refine⟨?_,hx⟩;rcases h1.2 with ⟨rfl,h0⟩ | ⟨g,cap,cur,rfl,_,_,h2,h3,_⟩
 ·exact .inl ⟨rfl,List.eq_nil_of_length_eq_zero h0⟩
 ·refine .inr ⟨g,0,cap,rfl,h2,h3,hlt g rfl,fun k x hk=>?_⟩;have:=hc g rfl k (u32V x) (by simp[hk]);rw[<-this];unfold Addr.add;split <;> simp_all
theorem OwnL.lsBl{w:World}{base:Nat}{v:Value}{l:List Nat}(h:OwnL w base v l)(hx:∀x∈l,x<4294967296):LS w (Bl w.heap.size) v l:=(h.ls hx).mono (fun _ hb=>hb.2)
theorem info_u32:(Tryz.prog.info? 107).map (fun i=>(i.zero,i.size,i.bytes))=some (some (.int .u32 0),1,4):=by kernel_rfl
def trimL(l:List Nat):List Nat:=(l.reverse.dropWhile (·==0)).reverse
theorem dropWhile_zeros:∀(a b:List Nat),(∀x∈a,x=0)->(a++b).dropWhile (·==0)=b.dropWhile (·==0)
 | [],_,_=>rfl
 | x :: a,b,h=>by
  have hx:x=0:=h x (by simp);subst hx;simp only[List.cons_append,List.dropWhile_cons];exact dropWhile_zeros a b (fun y hy=>h y (List.mem_cons_of_mem _ hy))
theorem trim_at(l:List Nat)(j:Nat)(hj:j<=l.length)(hz:∀i (h:i<l.length),j<=i->l[i]=0)(hn:∀k (h:k<l.length),j=k+1->l[k]≠0):trimL l=l.take j:=by
 unfold trimL
 have e:l.reverse=(l.drop j).reverse++(l.take j).reverse:=by rw[<-List.reverse_append,List.take_append_drop]
 rw[e,dropWhile_zeros]
 ·cases j with
  | zero=>simp
  | succ k =>
   have hk:k<l.length:=by omega
   have h1:(l.take (k+1)).reverse=l[k] :: (l.take k).reverse:=by rw[List.take_succ_eq_append_getElem hk,List.reverse_append];rfl
   have h2:(l[k]==0)=false:=by simpa using hn k hk rfl
   rw[h1,List.dropWhile_cons,h2];simp only[Bool.false_eq_true,if_false];rw[<-h1,List.reverse_reverse]
 ·intro x hx;rw[List.mem_reverse] at hx;obtain⟨i,hi,rfl⟩:=List.getElem_of_mem hx;rw[List.getElem_drop];exact hz _ _ (by omega)
theorem trimL_mem(l:List Nat):∀x∈trimL l,x∈l:=by
 intro x hx;unfold trimL at hx;rw[List.mem_reverse] at hx;have:=(List.dropWhile_sublist _).subset hx
 rwa [List.mem_reverse] at this
theorem trimL_length(l:List Nat):(trimL l).length<=l.length:=by
 unfold trimL;rw[List.length_reverse];exact Nat.le_trans (List.dropWhile_sublist _).length_le (by simp)
def natL(n:Nat):List Nat:=if n=0 then [] else [n]
theorem natL_zero:natL 0=[]:=rfl
theorem natL_pos{n:Nat}(h:0<n):natL n=[n]:=if_neg (by omega)
theorem trim_natL(n:Nat):trimL (natL n)=natL n:=by
 by_cases h:n=0
 ·subst h;rfl
 ·rw[natL_pos (by omega)];simp[trimL,h]
theorem trim_two(n:Nat):trimL [n,0]=natL n:=by
 by_cases h:n=0
 ·subst h;rfl
 ·rw[natL_pos (by omega)];simp[trimL,h]
theorem natL_mem{n:Nat}(h:n<4294967296):∀x∈natL n,x<4294967296:=by
 intro x hx;unfold natL at hx;split at hx
 ·cases hx
 ·simp at hx;omega
theorem natL_length(n:Nat):(natL n).length<=1:=by unfold natL;split <;> simp
theorem below_none{w w':World}(hg:w.grownBy w' (Value.slice none 0 0).ownBlock):Below w.heap.size w w':=⟨hg.os,hg.tape,hg.output,hg.size,fun k hk=>hg.block k hk (fun e=>by cases e)⟩
theorem trim_any(v:Value)(l:List Nat)(R:Nat->Prop)(w:World)(h:LS w R v l)(hR:∀b,R b->b<w.heap.size)(hl:l.length<=1048576) :
  Calls Tryz.prog 120 #[v] w fun e w'=>∃u,e=.returned u/\OwnL w' w.heap.size u (trimL l)/\Below w.heap.size w w':=by
 obtain⟨i0,hi0,hz0,hz1,hz2⟩:=info_parts info_u32;have HL:=zh h;rcases h.1 with ⟨rfl,rfl⟩ | ⟨b,off,c,rfl,hlc,hcm,hRb,hcs⟩
 ·clear h;go_enter Tryz.func120,Tryz.ntmps120;go_wp2_with fail;go_loopg [3] 0 (fun z v3 wr=>w=wr/\v3=.int .i64 0)
  case atStart=>exact⟨rfl,rfl⟩
  case round =>
   obtain⟨rfl,rfl⟩:=hrel;go_wp2_with (at_builtin;refine wpList_append_own_none rfl _ _ _ rfl w.heap.size 107 i0 1 Tryz.underlying24 hi0 (.slice none 0 0) 0 [] (by rfl) (World.ownsRow_nil _ _ _ _) (by rfl) ?_);go_ret;exact⟨_,rfl,OwnL.nil _ _,zB _ _⟩
 ·clear h;unfold maxLen at hcm;have hRl:=hR b hRb;have HCS:=zh hcs;clear hcs;go_enter Tryz.func120,Tryz.ntmps120;go_wp2_with fail;go_loopg [3] l.length (fun z v3 wr=>w=wr/\∃j:Nat,j<=l.length/\z=0+j/\v3=.int .i64 (j:Int)/\Hid (∀i (h:i<l.length),j<=i->l[i]=0))
  case atStart=>exact⟨rfl,l.length,zR _,(Nat.zero_add _).symm,rfl,fun i h h2=>by omega⟩
  case round =>
   obtain⟨rfl,j,hj,rfl,rfl,HZ⟩:=hrel;by_cases h0:j=0
   ·subst h0;have htl:trimL l=l.take 0:=trim_at l 0 hj HZ.out (fun k _ e=>by omega);have HT:=zh htl
    have hnews:∀j2 u,((l.take 0).map u32V)[j2]?=some u->w.cell? ((⟨b,off,none⟩:Addr).add j2)=some u:=by
     intro j2 u hu
     have e1:(⟨b,off,none⟩:Addr).add j2=⟨b,off+j2,none⟩:=by unfold Addr.add;split <;> simp_all
     rw[e1];rw[List.getElem?_map] at hu
     cases hx:(l.take 0)[j2]? with
     | none=>rw[hx] at hu;cases hu
     | some x =>
      rw[hx] at hu;injection hu with hu;rw[<-hu];refine HCS.out j2 x ?_;rw[List.getElem?_take] at hx;split at hx
      ·exact hx
      ·cases hx
    have hlt:((l.take 0).map u32V).length=0*1:=by simp <;> omega
    have HNW:=zh hnews;have HLT:=zh hlt;clear htl hnews hlt;go_wp2_with (at_builtin;refine wpList_append_own_at (P:=Tryz.prog) _ rfl _ _ _ rfl w.heap.size 107 i0 _ 1 4 Tryz.underlying24 hi0 hz0 hz1 hz2 rfl (by decide) (.slice none 0 0) 0 [] (by rfl) (World.ownsRow_nil _ _ _ _) ⟨b,off,none⟩ 0 c ((l.take 0).map u32V) (by rfl) HLT.out HNW.out (fun u hu=>by obtain⟨x,-,rfl⟩:=List.mem_map.1 hu;rfl) (by unfold maxLen;omega) (by omega) (zR _) ?_;intro v' w' hown' hg' _ hat');go_ret;refine⟨_,rfl,?_,below_none hg'⟩;have h2:=hown';rw[Nat.zero_add,List.nil_append] at h2;unfold OwnL;rw[HT.out,show(l.take 0).length=0 by simp];exact h2
   ·obtain⟨k,rfl⟩:∃k,j=k+1:=⟨j-1,by omega⟩
    have hkl:k<l.length:=by omega
    have hck:=HCS.out k l[k] (zG hkl);unfold u32V at hck
    have hpos:(0:Int)<((k+1:Nat):Int):=by omega
    have hsub:IntKind.i64.wrap (((k+1:Nat):Int)-1)=(k:Int):=by rw[show((k+1:Nat):Int)-1=(k:Int) by omega];exact zI _ (by omega)
    have hi0':(0:Int)<=(k:Int):=by omega
    have hi1':(k:Int)<(l.length:Int):=by omega
    have hz2':l[k]=0->∀i (h:i<l.length),k<=i->l[i]=0:=fun e i h1 h2=>by
     by_cases e2:i=k
     ·subst e2;exact e
     ·exact HZ.out i h1 (by omega)
    have hnz:l[k]≠0->trimL l=l.take (k+1):=fun e=>trim_at l (k+1) hj HZ.out (fun k2 h2 e2=>by
     have e3:k2=k:=by omega
     subst e3;exact e)
    have HZ2:=zh hz2';have HNZ:=zh hnz;obtain⟨x,hx⟩:=zx (l[k]);rw[<-hx] at hck HZ2 HNZ;obtain⟨K1,hK1⟩:=zx (k+1);rw[<-hK1] at hpos hsub HNZ hj ⊢;have HK1:=zh hK1;clear hz2' hnz hx HZ hK1;by_cases hx0:x=0
    ·have HZ3:=zh (HZ2.out hx0)
     have q1:((x:Int)==0)=true:=by simpa using hx0
     clear hx0;go_wp2_with fail;go_roundg k
     case measure=>omega
     case rel=>exact⟨rfl,k,by omega,(Nat.zero_add _).symm,rfl,HZ3⟩
    ·have q1:((x:Int)==0)=false:=by simpa using hx0
     have hnz2:=HNZ.out hx0;have htl:trimL l=l.take K1:=hnz2;have HT:=zh htl
     have hnews:∀j2 u,((l.take K1).map u32V)[j2]?=some u->w.cell? ((⟨b,off,none⟩:Addr).add j2)=some u:=by
      intro j2 u hu
      have e1:(⟨b,off,none⟩:Addr).add j2=⟨b,off+j2,none⟩:=by unfold Addr.add;split <;> simp_all
      rw[e1];rw[List.getElem?_map] at hu
      cases hx:(l.take K1)[j2]? with
      | none=>rw[hx] at hu;cases hu
      | some x =>
       rw[hx] at hu;injection hu with hu;rw[<-hu];refine HCS.out j2 x ?_;rw[List.getElem?_take] at hx;split at hx
       ·exact hx
       ·cases hx
     have hlt:((l.take K1).map u32V).length=K1*1:=by simp <;> omega
     have HNW:=zh hnews;have HLT:=zh hlt;clear htl hnews hlt hnz2;go_wp2_with (at_builtin;refine wpList_append_own_at (P:=Tryz.prog) _ rfl _ _ _ rfl w.heap.size 107 i0 _ 1 4 Tryz.underlying24 hi0 hz0 hz1 hz2 rfl (by decide) (.slice none 0 0) 0 [] (by rfl) (World.ownsRow_nil _ _ _ _) ⟨b,off,none⟩ K1 c ((l.take K1).map u32V) (by rfl) HLT.out HNW.out (fun u hu=>by obtain⟨x,-,rfl⟩:=List.mem_map.1 hu;rfl) (by unfold maxLen;omega) (by omega) (zR _) ?_;intro v' w' hown' hg' _ hat');go_ret;refine⟨_,rfl,?_,below_none hg'⟩;have h2:=hown';rw[Nat.zero_add,List.nil_append] at h2;unfold OwnL;rw[HT.out,show(l.take K1).length=K1 by simp;omega];exact h2
theorem LS.two(w:World)(a b:Nat)(ha:a<4294967296)(hb:b<4294967296):LS (w.alloc (.cells #[.int .u32 (a:Int),.int .u32 (b:Int)] 107)) (Bl (w.heap.size+1)) (.slice (some ⟨w.heap.size,0,none⟩) 2 2) [a,b]:=by
 refine⟨.inr ⟨w.heap.size,0,2,rfl,zR _,by unfold maxLen;decide,Nat.lt_succ_self _,fun k x hk=>?_⟩,fun x hx=>?_⟩
 ·rw[Nat.zero_add,cell_of_row _ _ _ _ _ _ (zN w _)]
  match k,hk with
  | 0,hk=>simp at hk;subst hk;rfl
  | 1,hk=>simp at hk;subst hk;rfl
 ·simp at hx;rcases hx with rfl | rfl
  ·exact ha
  ·exact hb
theorem rmake_any(v:Nat)(w:World)(hv:v<4294967296) :
  Calls Tryz.prog 68 #[.int .u64 (v:Int)] w fun e w'=>∃u,e=.returned u/\OwnL w' w.heap.size u (natL v)/\Below w.heap.size w w':=by
 have hv0:(0:Int)<=(v:Int):=by omega
 have hv1:(v:Int)<4294967296:=by omega
 go_enter Tryz.func68,Tryz.ntmps68;go_wp2_with fail
 have e0:((v:Int) / 4294967296)=((0:Nat):Int):=by omega
 rw[e0];refine(trim_any _ [v,0] _ _ (LS.two w v 0 hv (by omega)) (fun b hb=>by simpa[Bl] using hb) (by simp)).mono ?_;rintro e w2 ⟨u,rfl,hO,hb⟩;rw[trim_two] at hO;have HO:=zh (hO.base (B':=w.heap.size) (by simp));have hbz:=below_box hb;clear hO;go_wp2_with fail;go_ret;exact⟨_,rfl,HO.out,hbz⟩
theorem rlarge_any(v:Value)(l:List Nat)(R:Nat->Prop)(w:World)(h:LS w R v l)(hR:∀b,R b->b<w.heap.size)(hl:l.length<=512) :
  Calls Tryz.prog 157 #[v] w fun e w'=>e=.returned (.bool false)/\Below w.heap.size w w':=by
 have HT:=zh (trim_any v l R w h hR (by omega));have hlen:=trimL_length l;clear h;go_enter Tryz.func157,Tryz.ntmps157;go_wp2_with fail;refine HT.out.mono ?_;rintro e w2 ⟨u,rfl,hO,hb⟩;obtain⟨A,c,rfl⟩:=own_form hO
 have q:¬((512:Int)<((trimL l).length:Int)):=by omega
 generalize (trimL l).length=n at *;clear hO;go_wp2_with fail;go_ret;exact⟨ret_bool (decide_eq_false (by omega)),hb⟩
def cmpI(n m:Nat):Int:=if n<m then -1 else if m<n then 1 else 0
theorem LS.one{w:World}{R:Nat->Prop}{A:Option Addr}{k c:Nat}{n:Nat}(h:LS w R (.slice A k c) (natL n))(h0:0<n):∃b off,A=some ⟨b,off,none⟩/\R b/\w.cell? ⟨b,off,none⟩=some (.int .u32 (n:Int)):=by
 have hl:0<(natL n).length:=by rw[natL_pos h0];simp
 obtain⟨b,off,e,hR,hc,-⟩:=h.at_ hl
 have e2:(natL n)[0]=n:=by simp[natL_pos h0]
 rw[e2,Nat.add_zero] at hc;exact⟨b,off,e,hR,hc⟩
theorem mk_u32s1:∀w:World,(Instr.makeSlice 24 (.int .i64 1) (.int .i64 1)).run Tryz.prog w=.ok (.slice (some ⟨w.heap.size,0,none⟩) 1 1) (w.alloc (.cells #[.int .u32 0] 107)):=by
 intro w;obtain⟨i0,hi0,hz0,hz1,hz2⟩:=info_parts info_u32;have h:=run_make (P:=Tryz.prog) w 24 107 i0 _ Tryz.underlying24 hi0 hz0 .i64 .i64 (1:Int) (1:Int) (by omega) (by omega) (by rw[hz2];decide) (by omega);rw[hz1] at h
 simpa[madeCells_one,Value.cells] using h
theorem LS.lt32{w:World}{R:Nat->Prop}{v:Value}{n:Nat}(h:LS w R v (natL n)):n<4294967296:=by
 by_cases h0:n=0
 ·omega
 ·exact h.2 n (by rw[natL_pos (by omega)];simp)
theorem LS.cell1(w:World)(g n:Nat)(hn:n<4294967296)(hg:w.heap[g]?=some (.cells #[.int .u32 (n:Int)] 107 (0,0)))(R:Nat->Prop)(hR:R g):LS w R (.slice (some ⟨g,0,none⟩) 1 1) [n]:=by
 refine⟨.inr ⟨g,0,1,rfl,zR _,by unfold maxLen;decide,hR,fun k x hk=>?_⟩,fun x hx=>by simp at hx;omega⟩;rw[Nat.zero_add,cell_of_row _ _ _ _ _ _ hg]
 match k,hk with
 | 0,hk=>simp at hk;subst hk;rfl
theorem rem_nat(n m:Nat):(n:Int).tmod (m:Int)=((n % m:Nat):Int):=by
 rw[Int.tmod_eq_emod_of_nonneg (by omega)];simp
def nv:List Nat->Nat
 | []=>0
 | x :: l=>x+4294967296*nv l
def Lim(l:List Nat):Prop:=∀x∈l,x<4294967296
theorem Lim.nil:Lim []:=fun x h=>by cases h
theorem Lim.cons{x:Nat}{l:List Nat}(hx:x<4294967296)(h:Lim l):Lim (x :: l):=fun y hy=>by
 rcases List.mem_cons.1 hy with rfl | hy
 ·exact hx
 ·exact h y hy
theorem Lim.head{x:Nat}{l:List Nat}(h:Lim (x :: l)):x<4294967296:=h x (by simp)
theorem Lim.tail{x:Nat}{l:List Nat}(h:Lim (x :: l)):Lim l:=fun y hy=>h y (by simp[hy])
theorem Lim.app{l m:List Nat}(h:Lim l)(k:Lim m):Lim (l++m):=fun x hx=>by
 rcases List.mem_append.1 hx with hx | hx
 ·exact h x hx
 ·exact k x hx
theorem Lim.take{l:List Nat}(h:Lim l)(n:Nat):Lim (l.take n):=fun x hx=>h x (List.mem_of_mem_take hx)
theorem Lim.drop{l:List Nat}(h:Lim l)(n:Nat):Lim (l.drop n):=fun x hx=>h x (List.mem_of_mem_drop hx)
theorem nv_append:∀(l m:List Nat),nv (l++m)=nv l+4294967296 ^ l.length*nv m
 | [],m=>by simp[nv]
 | x :: l,m=>by
  simp only[List.cons_append,nv,List.length_cons,nv_append l m,Nat.pow_succ];rw[Nat.mul_add,Nat.mul_comm (4294967296 ^ l.length) 4294967296,Nat.mul_assoc,Nat.add_assoc]
theorem nv_lt:∀{l:List Nat},Lim l->nv l<4294967296 ^ l.length
 | [],_=>by simp[nv]
 | x :: l,h=>by
  have h1:=nv_lt h.tail;have h2:=h.head;simp only[nv,List.length_cons,Nat.pow_succ];generalize 4294967296 ^ l.length=p at *;omega
theorem nv_zeros:∀(n:Nat),nv (List.replicate n 0)=0
 | 0=>rfl
 | n+1=>by simp[List.replicate_succ,nv,nv_zeros n]
theorem nv_snoc(l:List Nat)(x:Nat):nv (l++[x])=nv l+4294967296 ^ l.length*x:=by
 rw[nv_append];simp[nv]
theorem nv_take(l:List Nat)(n:Nat):nv l=nv (l.take n)+4294967296 ^ (min n l.length)*nv (l.drop n):=by
 have:=nv_append (l.take n) (l.drop n);rw[List.take_append_drop,List.length_take] at this;exact this
theorem mem_takeW{p:Nat->Bool}:∀{l:List Nat} {x:Nat},x∈l.takeWhile p->p x=true
 | [],x,h=>by cases h
 | a :: l,x,h=>by
  rw[List.takeWhile_cons] at h;split at h
  ·rcases List.mem_cons.1 h with rfl | h
   ·assumption
   ·exact mem_takeW h
  ·cases h
theorem trimL_split(l:List Nat):∃n,l=trimL l++List.replicate n 0:=by
 refine⟨(l.reverse.takeWhile (·==0)).length,?_⟩;unfold trimL;have h:l.reverse=l.reverse.takeWhile (·==0)++l.reverse.dropWhile (·==0):=(List.takeWhile_append_dropWhile).symm
 have h2:l.reverse.takeWhile (·==0)=List.replicate (l.reverse.takeWhile (·==0)).length 0:=by
  refine List.eq_replicate_iff.2 ⟨rfl,fun b hb=>?_⟩;have:=mem_takeW hb
  simpa using this
 have h3:=congrArg List.reverse h;rw[List.reverse_reverse,List.reverse_append] at h3;rw[h2,List.reverse_replicate] at h3;exact h3
theorem nv_trim(l:List Nat):nv (trimL l)=nv l:=by
 obtain⟨n,h⟩:=trimL_split l
 conv=>rhs;rw[h,nv_append,nv_zeros,Nat.mul_zero,Nat.add_zero]
theorem Lim.trim{l:List Nat}(h:Lim l):Lim (trimL l):=fun x hx=>h x (trimL_mem l x hx)
def Top(l:List Nat):Prop:=∀x,l.getLast?=some x->x≠0
theorem Top.trim(l:List Nat):Top (trimL l):=by
 intro x hx;unfold trimL at hx;rw[List.getLast?_reverse] at hx;intro h0;subst h0
 cases hd:l.reverse.dropWhile (·==0) with
 | nil=>rw[hd] at hx;cases hx
 | cons a r =>
  rw[hd] at hx;injection hx with hx;subst hx;have:=List.head?_dropWhile_not (·==(0:Nat)) l.reverse;rw[hd] at this;simp at this
theorem trim_of_top{l:List Nat}(h:Top l):trimL l=l:=by
 cases hl:l.reverse with
 | nil =>
  have:l=[]:=by simpa using hl
  subst this;rfl
 | cons a r =>
  have h1:l=(a :: r).reverse:=by rw[<-hl,List.reverse_reverse]
  have h2:=h a (by rw[h1,List.getLast?_reverse];rfl);unfold trimL;rw[hl,List.dropWhile_cons_of_neg (by simpa using h2),<-hl,List.reverse_reverse]
theorem nv_ge{l:List Nat}(h:Top l)(hl:l≠[]):4294967296 ^ (l.length-1)<=nv l:=by
 obtain⟨m,x,rfl⟩:∃m x,l=m++[x]:=⟨l.dropLast,l.getLast hl,(List.dropLast_concat_getLast hl).symm⟩;have hx:x≠0:=h x (by simp);rw[nv_snoc,zP,List.length_singleton,Nat.add_sub_cancel]
 calc 4294967296 ^ m.length=4294967296 ^ m.length*1:=(Nat.mul_one _).symm
  _<=4294967296 ^ m.length*x:=Nat.mul_le_mul_left _ (by omega)
  _<=_:=Nat.le_add_left _ _
theorem nv_inj:∀{l m:List Nat},Lim l->Lim m->l.length=m.length->nv l=nv m->l=m
 | [],[],_,_,_,_=>rfl
 | [],_ :: _,_,_,h,_=>by simp at h
 | _ :: _,[],_,_,h,_=>by simp at h
 | x :: l,y :: m,hl,hm,h,he=>by
  simp only[nv] at he;have h1:=hl.head;have h2:=hm.head
  have hxy:x=y:=by omega
  subst hxy;rw[nv_inj hl.tail hm.tail (by simpa using h) (by omega)]
theorem nv_len{l m:List Nat}(hl:Lim l)(hm:Lim m)(tl:Top l)(tm:Top m)(h:nv l=nv m):l.length=m.length:=by
 rcases Nat.lt_trichotomy l.length m.length with hlt | he | hgt
 ·have h1:=nv_lt hl;have h2:=nv_ge tm (by intro e;subst e;simp at hlt);have h3:4294967296 ^ l.length<=4294967296 ^ (m.length-1):=Nat.pow_le_pow_right (by omega) (by omega);omega
 ·exact he
 ·have h1:=nv_lt hm;have h2:=nv_ge tl (by intro e;subst e;simp at hgt);have h3:4294967296 ^ m.length<=4294967296 ^ (l.length-1):=Nat.pow_le_pow_right (by omega) (by omega);omega
theorem nv_top_inj{l m:List Nat}(hl:Lim l)(hm:Lim m)(tl:Top l)(tm:Top m)(h:nv l=nv m):l=m:=nv_inj hl hm (nv_len hl hm tl tm h) h
theorem nv_natL{n:Nat}(h:n<4294967296):nv (natL n)=n:=by
 by_cases h0:n=0
 ·subst h0;rfl
 ·rw[natL_pos (by omega)];simp[nv]
theorem top_natL(n:Nat):Top (natL n):=fun x hx=>by
 by_cases h0:n=0
 ·subst h0;cases hx
 ·rw[natL_pos (by omega)] at hx;simp at hx;omega
def limbs(n:Nat):List Nat:=if h:n=0 then [] else n % 4294967296 :: limbs (n / 4294967296)
termination_by n
decreasing_by omega
theorem limbs_zero:limbs 0=[]:=by rw[limbs];simp
theorem limbs_pos{n:Nat}(h:0<n):limbs n=n % 4294967296 :: limbs (n / 4294967296):=by rw[limbs,dif_neg (by omega)]
theorem nv_limbs(n:Nat):nv (limbs n)=n:=by
 induction n using Nat.strongRecOn with
 | ind n ih =>
  by_cases h:n=0
  ·subst h;rw[limbs_zero];rfl
  ·rw[limbs_pos (by omega),nv,ih (n / 4294967296) (by omega)];omega
theorem lim_limbs(n:Nat):Lim (limbs n):=by
 induction n using Nat.strongRecOn with
 | ind n ih =>
  by_cases h:n=0
  ·subst h;rw[limbs_zero];exact Lim.nil
  ·rw[limbs_pos (by omega)];exact Lim.cons (Nat.mod_lt _ (by omega)) (ih (n / 4294967296) (by omega))
theorem top_limbs(n:Nat):Top (limbs n):=by
 induction n using Nat.strongRecOn with
 | ind n ih =>
  by_cases h:n=0
  ·subst h;rw[limbs_zero];intro x hx;cases hx
  ·rw[limbs_pos (by omega)];intro x hx;by_cases h2:n / 4294967296=0
   ·rw[h2,limbs_zero] at hx;simp at hx;omega
   ·have:=ih (n / 4294967296) (by omega);rw[limbs_pos (show 0<n / 4294967296 by omega)] at this hx;exact this x (by simpa using hx)
theorem limbs_nv{l:List Nat}(h:Lim l):limbs (nv l)=trimL l:=nv_top_inj (lim_limbs _) h.trim (top_limbs _) (Top.trim l) (by rw[nv_limbs,nv_trim])
end Go.Proofs.YtgfaieppacabjaaGreat
