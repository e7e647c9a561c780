/- The reference's Decode. -/
import Derived.Test.YtmehadfhcdpfcaaGreatMe25
import Derived.Test.YtmehadfhcdpfcaaGreatMe01
set_option maxRecDepth 100000
set_option maxHeartbeats 12800000
namespace Go.Proofs.YtmehadfhcdpfcaaGreat
open Go.RowKit
set_option linter.unusedVariables false
set_option linter.unusedSimpArgs false
theorem idx_one{n:Int} {hs:List Frg} (i:Nat) (hi:i<hs.length) (h:hs[i].idx<0∨n≤hs[i].idx):idxBad n hs=true:=by
 unfold idxBad
 rw[List.any_eq_true]
 refine⟨hs[i],List.getElem_mem hi,?_⟩
 simp only[outB,Bool.or_eq_true,decide_eq_true_eq]
 exact h
theorem idx_none{n:Int} {hs:List Frg} (h:∀q (hq:q<hs.length),0≤hs[q].idx∧hs[q].idx<n):idxBad n hs=false:=by
 unfold idxBad
 rw[List.any_eq_false]
 intro x hx
 obtain⟨q,hq,rfl⟩:=List.getElem_of_mem hx
 have:=h q hq
 simp[outB];omega
theorem dup_one{hs:List Frg} (i j:Nat) (hi:i<hs.length) (hj:j<i) (h:hs[i].idx=(hs[j]'(by omega)).idx):dupB hs=true:=by
 unfold dupB
 have:¬(idxL hs).Nodup:=fun hn=>by
  have e:=(List.pairwise_iff_getElem.1 hn) j i (by rw[idxL_length];omega) (by rw[idxL_length];exact hi) hj
  apply e
  simp[idxL,h]
 simpa using this
theorem dup_none{n:Int} {hs:List Frg} (hb:idxBad n hs=false) (h:∀i j (hi:i<hs.length) (hj:j<i),hs[i].idx≠(hs[j]'(by omega)).idx):dupB hs=false:=by
 unfold dupB
 have:(idxL hs).Nodup:=List.pairwise_iff_getElem.2 fun j i hj hi hji e=>by
  rw[idxL_length] at hi hj
  simp only[idxL,List.getElem_map] at e
  have h1:=idx_in hb i hi
  have h2:=idx_in hb j (by omega)
  exact h i j hi hji (by omega)
 simpa using this
def matP(k:Nat) (i:Nat) (hs:List Frg):Mat:=((idxL hs).take i).map (coefR k)
theorem matP_length{k i:Nat} {hs:List Frg} (h:i≤hs.length):(matP k i hs).length=i:=by simp[matP,idxL_length];omega
theorem matP_succ{k i:Nat} {hs:List Frg} (h:i<hs.length):matP k (i+1) hs=matP k i hs++[coefR k hs[i].idx.toNat]:=by
 unfold matP
 rw[List.take_succ_eq_append_getElem (by rw[idxL_length];exact h),List.map_append]
 simp[idxL]
theorem datas_succ{i:Nat} {hs:List Frg} (h:i<hs.length):(datas hs).take (i+1)=(datas hs).take i++[hs[i].data]:=by
 rw[List.take_succ_eq_append_getElem (by rw[datas_length];exact h),datas_getElem hs i h]
def HeldRF(w:World) (b p1 p2:Nat) (v1 v2:Value) (w':World):Prop:=w'.cell? ⟨b,p1,none⟩=some v1∧w'.cell? ⟨b,p2,none⟩=some v2∧Below w.heap.size w w'
theorem HeldRF.below{w wc w2:World} {b p1 p2:Nat} {v1 v2:Value} (h:HeldRF w b p1 p2 v1 v2 wc) (hb:Below wc.heap.size wc w2) (hR:b<w.heap.size):HeldRF w b p1 p2 v1 v2 w2:=by
 obtain⟨h1,h2,h3⟩:=h
 have hs:=h3.size
 exact⟨(hb.cell (p:=⟨b,p1,none⟩) (Nat.lt_of_lt_of_le hR hs)).trans h1,(hb.cell (p:=⟨b,p2,none⟩) (Nat.lt_of_lt_of_le hR hs)).trans h2,h3.trans (hb.mono hs)⟩
theorem HeldRF.alloc{w wc:World} {b p1 p2:Nat} {v1 v2:Value} {o:Obj} (h:HeldRF w b p1 p2 v1 v2 wc) (hR:b<w.heap.size):HeldRF w b p1 p2 v1 v2 (wc.alloc o):=h.below (Below.al (Below.refl _ _) o) hR
theorem HeldRF.grown{w wc w2:World} {b p1 p2:Nat} {v1 v2:Value} {row:Option Nat} (h:HeldRF w b p1 p2 v1 v2 wc) (hg:wc.grownBy w2 row) (hr:∀k,row=some k→w.heap.size≤k) (hR:b<w.heap.size):HeldRF w b p1 p2 v1 v2 w2:=by
 obtain⟨h1,h2,h3⟩:=h
 have hs:=h3.size
 have e:w2.heap[b]?=wc.heap[b]?:=hg.block b (Nat.lt_of_lt_of_le hR hs) (fun e=>by have:=hr b e.symm;omega)
 exact⟨(World.cell?_of_block (w:=wc) (a:=⟨b,p1,none⟩) e).trans h1,(World.cell?_of_block (w:=wc) (a:=⟨b,p2,none⟩) e).trans h2,h3.grown hg hs hr⟩
theorem rowAt{w2 wA:World} {n m:Nat} {u:Value} {r:List UInt8} (h:ByS w2 (Fr n w2.heap.size) u r) (hn:m≤n) (hb:Below w2.heap.size w2 wA):ByS wA (Fr m wA.heap.size) u r :=
 (h.keep (w':=wA) (fun b hbb=>hb.block b hbb.2)).mono (fun b hbb=>⟨Nat.le_trans hn hbb.1,Nat.lt_of_lt_of_le hbb.2 hb.size⟩)
def NoDup(hs:List Frg) (a:Nat):Prop:=∀i j (hi:i<hs.length) (hj:j<i),i<a→hs[i].idx≠(hs[j]'(by omega)).idx
def InIdx(n:Int) (hs:List Frg) (a:Nat):Prop:=∀q (hq:q<hs.length),q<a→0≤hs[q].idx∧hs[q].idx<n
theorem refdecode_any(k m:Int) (vh:Value) (hs:List Frg) (w:World) (hk:I64 k) (hm:I64 m) (hh:FragS w (Bl w.heap.size) vh hs) (hl:hs.length≤65536) (hd:∀h∈hs,h.data.length≤65536) :
  Calls Tryz.prog 84 #[.int .i64 k,.int .i64 m,vh] w fun e w'=>∃v,e=.returned (.tuple #[v,.int .i64 (decE k m hs)])∧(decE k m hs=0→MatS w' (Bl w'.heap.size) v (decD k.toNat hs))∧(decE k m hs≠0→v=.slice none 0 0)∧Below w.heap.size w w':=by
 obtain⟨Ah,ch,rfl,hch,hmh⟩:=hh.form
 unfold maxLen at hmh
 have HC:=zh (r07code_any k m · hk hm)
 have HH:=zh hh
 have HD:=zh hd
 clear hh hd
 cases hcb:codeB k m with
 | false =>
  rw[hcb] at HC
  have hE:=decE_code (hs:=hs) hcb
  rw[hE]
  clear hE hcb
  go_enter Tryz.func84,Tryz.ntmps84
  go_wp2_with fail
  refine(HC.out _).mono ?_
  rintro e w' ⟨rfl,rfl⟩
  go_wp2
  go_ret2
  exact⟨_,rfl,(fun h=>by cases h),fun _=>rfl,Below.refl _ _⟩
 | true =>
  rw[hcb] at HC
  have hck:=(codeB_iff k m).1 hcb
  obtain⟨K,rfl⟩:∃K:Nat,k=(K:Int):=⟨k.toNat,by omega⟩
  obtain⟨M,rfl⟩:∃M:Nat,m=(M:Int):=⟨m.toNat,by omega⟩
  obtain⟨n,hn⟩:=zx (K+M)
  have enm:(K:Int)+(M:Int)=(n:Int):=by omega
  have HCB:=zh hcb
  have HNM:=zh enm
  have HN:=zh hn
  obtain⟨hK1,hK6,hM8,hn8,hKn⟩:1≤K∧K≤6∧M≤8∧n≤8∧K≤n:=⟨by omega,by omega,by omega,by omega,by omega⟩
  have HHK:=zh (⟨hk,hm⟩:I64 K∧I64 M)
  clear hcb hck hn hk hm
  go_enter Tryz.func84,Tryz.ntmps84
  go_wp2_with fail
  refine(HC.out _).mono ?_
  rintro e w' ⟨rfl,rfl⟩
  clear HC enm
  go_wp2_with fail
  go_loopg [8] hs.length (fun z v8 wr=>w=wr∧∃i:Nat,i≤hs.length∧z=hs.length - i∧v8=.int .i64 (i:Int)∧Hid (InIdx (n:Int) hs i))
  case atStart=>exact⟨rfl,0,by omega,rfl,rfl,fun q _ h=>by omega⟩
  case round =>
   obtain⟨rfl,i,hi,rfl,rfl,HI⟩:=hrel
   by_cases hlt:i<hs.length
   ·-- W1{
    obtain⟨b,off,va,rfl,hR,c0,c1,hva,hix⟩:=HH.out.at_ hlt
    obtain⟨x,hx⟩:=zx (hs[i].idx)
    rw[←hx] at c0 hix
    have HX:=zh hx
    unfold I64 at hix
    clear c1 hva hx
    by_cases hbad:x<0∨(n:Int)≤x
    ·have hE:=decE_idx HCB.out (idx_one (n:=(K:Int)+(M:Int)) i hlt (by rw[HNM.out,←HX.out];exact hbad))
     have HE:=zh hE
     clear hE
     by_cases h0:x<0
     ·clear hbad
      go_wp2
      go_ret2
      rw[HE.out]
      exact⟨_,rfl,(fun h=>by cases h),fun _=>rfl,Below.refl _ _⟩
     ·have h1:(n:Int)≤x:=by omega
      have h2:(K:Int)+(M:Int)≤x:=by rw[HNM.out];exact h1
      clear hbad
      go_wp2
      go_ret2
      rw[HE.out]
      exact⟨_,rfl,(fun h=>by cases h),fun _=>rfl,Below.refl _ _⟩
    ·have h0:¬x<0:=by omega
     have h2:¬(K:Int)+(M:Int)≤x:=by rw[HNM.out];omega
     have h1:=zh (by omega:0≤x∧x<(n:Int))
     clear hbad
     go_wp2_with fail
     go_roundg (hs.length - (i+1))
     case measure=>omega
     case rel=>exact⟨rfl,i+1,by omega,rfl,by go_num,(fun q hq h=>by
      by_cases e:q=i
      ·subst e;rw[←HX.out];exact h1.out
      ·exact HI.out q hq (by omega))⟩
   ·have hib:idxBad ((K:Int)+(M:Int)) hs=false:=idx_none fun q hq=>by rw[HNM.out];exact HI.out q hq (by omega)
    have HIB:=zh hib
    clear hib HI
    go_wp2_with fail
    go_loopg [9,10] hs.length (fun z v9 v10 wr=>∃i:Nat,i≤hs.length∧z=hs.length - i∧v9=.int .i64 (i:Int)∧Hid (NoDup hs i)∧∃d,wr=w.drewN d)
    case atStart=>exact⟨0,by omega,rfl,rfl,(fun _ _ _ _ h=>by omega),0,rfl⟩
    case round =>
     obtain⟨i,hi,rfl,rfl,HI,d,rfl⟩:=hrel
     by_cases hlt2:i<hs.length
     ·-- W2{
      obtain⟨b,off,va,rfl,hR,c0,c1,hva,hix⟩:=HH.out.at_ hlt2
      obtain⟨x,hx⟩:=zx (hs[i].idx)
      rw[←hx] at c0 hix
      have HX:=zh hx
      clear c1 hva hx hR
      go_wp2_with fail
      go_loopg [10] i (fun z v10 wr=>∃j:Nat,j≤i∧z=i - j∧v10=.int .i64 (j:Int)∧Hid (∀q (hq:q<i),q<j→x≠(hs[q]'(by omega)).idx)∧∃d,wr=w.drewN d)
      case atStart=>exact⟨0,by omega,rfl,rfl,(fun _ _ h=>by omega),d,rfl⟩
      case round =>
       obtain⟨j,hj,rfl,rfl,HJ,d2,rfl⟩:=hrel
       by_cases hlt3:j<i
       ·obtain⟨b',off',va,he,hR,d0,d1,hva,hiy⟩:=HH.out.at_ (k:=j) (by omega)
        obtain⟨rfl,rfl⟩:b=b'∧off=off':=by injection he with h;injection h with h1 h2;exact⟨h1,h2⟩
        obtain⟨y,hy⟩:=zx ((hs[j]'(by omega)).idx)
        rw[←hy] at d0 hiy
        have HY:=zh hy
        have i1:(0:Int)≤(i:Int):=by omega
        have i2:(i:Int)<(hs.length:Int):=by omega
        have j1:(0:Int)≤(j:Int):=by omega
        have j2:(j:Int)<(hs.length:Int):=by omega
        have e0:(w.drewN d2).cell? ⟨b,off+i * 2,none⟩=some (.int .i64 x):=c0
        have e1:(w.drewN d2).cell? ⟨b,off+j * 2,none⟩=some (.int .i64 y):=d0
        clear d1 hva hy hR he d0 c0
        obtain⟨W,hW⟩:=zx (w.drewN d2)
        rw[←hW] at e0 e1
        by_cases hxy:x=y
        ·have hE:=decE_dup HCB.out HIB.out (dup_one i j hlt2 hlt3 (by rw[←HX.out,←HY.out];exact hxy))
         have HE:=zh hE
         have q1:(x==y)=true:=by simp[hxy]
         clear hE hxy
         go_upto_region 14 with fail
         rw[←hW]
         have HW:=zh hW
         clear hW
         go_region
         all_goals
          go_wp2
          go_ret2
          rw[HE.out]
          exact⟨_,rfl,(fun h=>by cases h),fun _=>rfl,by rw[HW.out];exact Below.drewN' (Below.refl _ _) (d2+1)⟩
        ·have q1:(x==y)=false:=by simp[hxy]
         have HXY:=zh hxy
         clear hxy
         go_upto_region 14 with fail
         rw[←hW]
         have HW:=zh hW
         clear hW
         go_region
         all_goals
          go_wp2_with fail
          go_roundg (i - (j+1))
          case measure=>omega
          case rel=>exact⟨j+1,by omega,rfl,by go_num,(fun q hq h=>by
           by_cases e:q=j
           ·subst e;rw[←HY.out];exact HXY.out
           ·exact HJ.out q hq (by omega)),d2+1,by rw[HW.out];rfl⟩
       ·go_wp2_with fail
        go_roundg (hs.length - (i+1))
        case measure=>omega
        case rel=>exact⟨i+1,by omega,rfl,by go_num,(fun a c ha hc h=>by
         by_cases e:a=i
         ·subst e;rw[←HX.out];exact HJ.out c hc (by omega)
         ·exact HI.out a c ha hc (by omega)),d2,rfl⟩
     ·have hdf:dupB hs=false:=dup_none HIB.out fun a c ha hc=>HI.out a c ha hc (by omega)
      have HDF:=zh hdf
      clear hdf HI
      by_cases hsh:hs.length<K
      ·have hE:=decE_short HCB.out HIB.out HDF.out (by omega)
       have HE:=zh hE
       clear hE
       go_wp2
       go_ret2
       rw[HE.out]
       exact⟨_,rfl,(fun h=>by cases h),fun _=>rfl,Below.drewN' (Below.refl _ _) d⟩
      ·go_wp2_with fail
       obtain⟨W0,hW0⟩:=zx (w.drewN d)
       have hb0:Below w.heap.size w W0:=by rw[hW0];exact Below.drewN' (Below.refl _ _) d
       have hsz0:W0.heap.size=w.heap.size:=by rw[hW0];rfl
       rw[←hW0]
       have HW0:=zh hsz0
       have hKl:K≤hs.length:=by omega
       clear hW0 hsz0
       go_loopg [11,12,13] K (fun z v11 v12 v13 wr=>∃(i:Nat) (xs ys:List Value),i≤K∧z=K - i∧v13=.int .i64 (i:Int)∧Two wr w.heap.size v11 v12 xs ys (matP K i hs) ((datas hs).take i)∧Below w.heap.size w wr)
       case atStart=>exact⟨0,[],[],by omega,rfl,rfl,Two.nil _ _,hb0⟩
       case round =>
        obtain⟨i,xs,ys,hi3,rfl,rfl,h2,hb⟩:=hrel
        by_cases hlt4:i<K
        ·-- W3{
         have hih:i<hs.length:=by omega
         obtain⟨b,off,vd,rfl,hR,c0,c1,hvd,hix⟩:=HH.out.at_ hih
         obtain⟨Av,cv,rfl,-,-⟩:=hvd.form
         obtain⟨x,hx⟩:∃x:Nat,hs[i].idx=(x:Int):=⟨hs[i].idx.toNat,by have:=(idx_in HIB.out i hih).1;omega⟩
         have hxn:x<n:=by have:=(idx_in HIB.out i hih).2;have:=HNM.out;omega
         obtain⟨row,hrow⟩:=zx (hs[i].data)
         rw[hx] at c0
         rw[←hrow] at c1 hvd
         have d0:=(hb.cell (p:=⟨b,off+i * 2,none⟩) hR).trans c0
         have d1:=(hb.cell (p:=⟨b,off+i * 2+1,none⟩) hR).trans c1
         have hml:(matP K i hs).length=i:=matP_length (by omega)
         have hdl:((datas hs).take i).length=i:=by rw[List.length_take,datas_length];omega
         obtain⟨A11,c11,rfl⟩:=h2.ownMA.form
         obtain⟨A12,c12,rfl⟩:=h2.ownMR.form
         rw[hml,hdl] at h2 ⊢
         have HTD:=zh h2.drew
         have hoA:=h2.ownA
         have hoR:=h2.ownR
         rw[hml] at hoA
         rw[hdl] at hoR
         have hsz:=hb.size
         have hF:=zh (fun(w:World)=>factors_any K x w (by omega) (by omega))
         have HX:=zh hx
         have HRW:=zh hrow
         have HML:=zh hml
         have HDL:=zh hdl
         have HVD:=zh hvd
         have HBR:=zh hb
         have hone1:(Value.slice Av row.length cv).oneCell'=true:=rfl
         clear h2 hx hrow hml hdl hvd c0 c1 hix
         have i1:(0:Int)≤(i:Int):=by omega
         have i2:(i:Int)<(hs.length:Int):=by omega
         go_upto_region 22 with fail
         have hoA2:wr.drew.ownsRow w.heap.size 88 1 (.slice A11 i c11) i xs:=hoA
         have hoR2:wr.drew.ownsRow w.heap.size 88 1 (.slice A12 i c12) i ys:=hoR
         have HA2:=zh hoA2
         have HR2:=zh hoR2
         have hS0:HeldRF w b (off+i * 2) (off+i * 2+1) (.int .i64 (x:Int)) (.slice Av row.length cv) wr.drew:=⟨d0,d1,hb.drew⟩
         have HS0:=zh hS0
         have hRl:b<w.heap.size:=hR
         clear hoA hoR hoA2 hoR2 hS0
         go_region_held3 (fun w'=>w'.cell? ⟨b,off+i * 2,none⟩=some (.int .i64 (x:Int))∧w'.cell? ⟨b,off+i * 2+1,none⟩=some (.slice Av row.length cv)∧Below w.heap.size w w')
          (first|exact HS0.out|exact HeldRF.below (by assumption) hb2 hRl|exact HeldRF.alloc (by assumption) hRl|exact HeldRF.grown (by assumption) hg9 (fun k h=>(HA2.out.lt k h).1) hRl|exact HeldRF.grown (by assumption) hg17 (fun k h=>(HR2.out.lt k h).1) hRl|go_keep)
          (first
           | (go_at_call 68;refine(hF.out _).mono ?_;rintro e w2 ⟨vc,rfl,hvc,hb2⟩;obtain⟨Ac,cc,hvc2,-,-⟩:=hvc.form;rw[coefR_length] at hvc2;subst hvc2;have HVC:=zh hvc;clear hvc)
           | (refine step_pairA (W:=wr.drew) rfl (.tmp 81) (.tmp 89) rfl w.heap.size (.slice A11 i c11) i xs _ (.slice Ac K cc) HA2.out (by first | with_reducible exact Below.al hb2 _ | with_reducible exact Below.al (Below.al hb2 _) _ | with_reducible exact Below.al (Below.aldd hb2) _) hsz (by omega) (by rfl) (by rfl) (by first | (simp;done) | go_simp) (by rfl) ?_;intro g9 cap9 w9 hP9 own9 hg9 hat9 hlt9 hF9 hsz9)
           | (refine step_pairR (w9:=w9) rfl (.tmp 91) (.tmp 97) rfl w.heap.size (.slice A12 i c12) i ys _ (.slice Av row.length cv) (by have h:=Two.ownR9 HTD.out hP9 hg9;rw[HDL.out] at h;exact h) (by first | with_reducible exact Below.refl _ _ | with_reducible exact Below.al (Below.refl _ _) _) (Nat.le_trans hsz hsz9) (by omega) (by rfl) (by rfl) (by first | (simp;done) | exact hF9 _ _ (Nat.le_refl _) (cell_boxd hb2 _).1 (cell_boxd hb2 _).2 | exact hF9 _ _ hb2.size (by first | (simp;done) | (simp;omega)) (by simp) | exact hF9 _ _ (Nat.le_succ_of_le hb2.size) (by first | (simp;done) | (simp;omega)) (by simp)) (by rfl) ?_;intro g17 cap17 w17 hP17 own17 hg17 hat17 hlt17))
         all_goals
          go_wp2_with fail
          go_roundg (K - (i+1))
          case measure=>omega
          case rel =>
           have hd2:ByS wr.drew (Bl w.heap.size) (.slice Av row.length cv) row:=HVD.out.keep (kept_below HBR.out.drew)
           have h3:=Two.step HTD.out hP9 (by first | with_reducible exact rowAt HVC.out (Nat.le_refl _) (Below.al (Below.refl _ _) _) | with_reducible exact rowAt HVC.out (Nat.le_refl _) (Below.al (Below.al (Below.refl _ _) _) _) | exact rowAt (m:=wr.drew.heap.size) HVC.out (by simp) (Below.al (Below.refl _ _) _)) hd2 hsz (by rw[HML.out];exact own9) hg9 hat9 hP17 (by rw[HDL.out];exact own17) hg17 hat17
           rw[HML.out,HDL.out] at h3
           have e1:matP K i hs++[coefR K x]=matP K (i+1) hs:=by rw[matP_succ hih,HX.out,Int.toNat_natCast]
           have e2:(datas hs).take i++[row]=(datas hs).take (i+1):=by rw[datas_succ hih,←HRW.out]
           rw[e1,e2] at h3
           exact⟨i+1,_,_,by omega,rfl,by go_num,h3,(HeldRF.below (by assumption) (Below.refl _ _) hRl:HeldRF w b (off+i * 2) (off+i * 2+1) _ _ _).2.2⟩
        ·have hiK:i=K:=by omega
         have hA:=h2.ownMA.matS
         have hRr:=h2.ownMR
         have hAK:matP K i hs=matK K hs:=by rw[hiK];rfl
         rw[hAK] at hA
         rw[hiK] at hRr
         have hml:=matK_length hKl
         have hdl:((datas hs).take K).length=K:=by rw[List.length_take,datas_length];omega
         have hIj:=matK_inj HCB.out HIB.out HDF.out (by omega)
         have hKK:((K:Int)).toNat=K:=by omega
         rw[hKK] at hIj
         obtain⟨A11,c11,rfl,-,-⟩:=hA.form
         obtain⟨A12,c12,rfl⟩:=hRr.form
         rw[hml] at hA ⊢
         rw[hdl] at hRr ⊢
         have hiv:=refinvert_any _ (matK K hs) wr hA (by omega) (by omega) (by rw[hml];exact matK_wide K hs) hIj
         have hil:(invT (matK K hs)).length=K:=by rw[invT_length,hml]
         have hiw:Wide (invT (matK K hs)) K:=by have h:=invT_wide (matK K hs) (by rw[hml];exact matK_wide K hs) hIj;rw[hml] at h;exact h
         have HIV:=zh hiv
         have HIL:=zh hil
         have HIW:=zh hiw
         have HRr:=zh hRr
         have HDL:=zh hdl
         have HB0:=zh hb
         clear h2 hA hRr hAK hml hdl hIj hKK hiv hil hiw hiK
         go_wp2_with fail
         refine HIV.out.mono ?_
         rintro e w5 ⟨v14,rfl,hvi,hb5⟩
         have hRw:=(HRr.out.below hb5).matS
         obtain⟨A14,c14,rfl,-,-⟩:=hvi.form
         rw[HIL.out] at hvi ⊢
         have HVI:=zh hvi
         have HRW:=zh hRw
         have hbw5:=HB0.out.trans (hb5.mono HB0.out.size)
         clear hvi hRw hb5 HIV
         go_wp2_with fail
         go_loopg [16,17] K (fun z v16 v17 wr=>∃c:Nat,c≤K∧z=K - c∧v17=.int .i64 (c:Int)∧OwnM wr w5.heap.size v16 ((decD K hs).take c)∧Below w5.heap.size w5 wr∧(0<c→Wide ((datas hs).take K) (rowLen hs)))
         case atStart=>exact⟨0,by omega,rfl,rfl,OwnM.nil _ _,Below.refl _ _,fun h=>by omega⟩
         case round =>
          obtain⟨c,hc,rfl,rfl,hO,hbo,hWd⟩:=hrel
          have hfl:((decD K hs).take c).length=c:=by rw[List.length_take,decD_length];omega
          obtain⟨A16,c16,rfl⟩:=hO.form
          rw[hfl] at hO ⊢
          have hsz:=hbo.size
          have hbw6:=hbw5.trans (hbo.mono hbw5.size)
          have hLm:rowLen hs≤65536:=by
           unfold rowLen
           have h0:0<(datas hs).length:=by rw[datas_length];omega
           rw[getD_lt _ _ h0,datas_getElem hs 0 (by omega)]
           exact HD.out _ (List.getElem_mem _)
          by_cases hlt5:c<K
          ·-- W4{
           obtain⟨bi,oi,vr,rfl,hRi,ci0,hvr⟩:=HVI.out.at_ (k:=c) (by rw[HIL.out];exact hlt5)
           have hrl:=HIW.out _ (List.getElem_mem (by rw[HIL.out];exact hlt5:c<(invT (matK K hs)).length))
           have hrd:=getD_lt (invT (matK K hs)) [] (i:=c) (by rw[HIL.out];exact hlt5)
           have cw:=(hbo.cell (p:=⟨bi,oi+c,none⟩) hRi).trans ci0
           have hdt:(decD K hs).take (c+1)=(decD K hs).take c++[combT ((invT (matK K hs)).getD c []) ((datas hs).take K) (rowLen hs)]:=by
            rw[List.take_succ_eq_append_getElem (by rw[decD_length];exact hlt5)]
            congr 2
            simp[decD]
           rw[hrd] at hdt
           generalize (invT (matK K hs))[c]'(by rw[HIL.out];exact hlt5)=row at *
           obtain⟨Ar,cr,hvr2,-,-⟩:=hvr.form
           rw[hrl] at hvr2
           subst hvr2
           have hrows:MatS wr (Bl wr.heap.size) (.slice A12 K c12) ((datas hs).take K):=HRW.out.below hbo
           have hrow:ByS wr (Bl wr.heap.size) (.slice Ar K cr) row:=hvr.below hbo
           by_cases hwK:Wide ((datas hs).take K) (rowLen hs)
           ·have hcb:=refcombine_any _ _ row ((datas hs).take K) (rowLen hs) wr hrow hrows (by rw[HDL.out,hrl]) (by rw[HDL.out];omega) (by rw[HDL.out];omega) hwK hLm
            have HCB2:=zh hcb
            have HDT:=zh hdt
            have HFL:=zh hfl
            have HWK:=zh hwK
            have hO':=zh hO
            clear hcb hdt hfl hrl hrd hwK hO hrows hrow hWd ci0 hvr
            go_wp2_with fail
            refine HCB2.out.mono ?_
            rintro e w6 ⟨v6,rfl,hv6,hb6⟩
            have hO3:=hO'.out.below hb6
            obtain⟨A6,c6,hv62,-,-⟩:=hv6.form
            rw[combT_length] at hv62
            subst hv62
            obtain⟨xs6,ho6,hc6⟩:=hO3
            rw[HFL.out] at ho6
            have hown0:=hO'.out.choose_spec.1.lt
            have hsz6:=Nat.le_trans hsz hb6.size
            have hone:(Value.slice A6 (rowLen hs) c6).oneCell'=true:=rfl
            have HV6:=zh hv6
            have HB6:=zh hb6
            have HC6:=zh hc6
            have hlen1:c+1≤16777216:=by omega
            clear hv6 hc6
            generalize hrlen:rowLen hs=L at *
            have HRL:=zh hrlen
            clear hrlen
            go_wp2_with (at_builtin;refine app_row (.tmp 122) (.tmp 124) rfl rfl _ _ _ _ (by rfl) ho6 (by rfl) hone hlen1 hsz6 ?_;intro v' w4 hown' hg hat)
            go_roundg (K - (c+1))
            case measure=>omega
            case rel =>
             refine⟨c+1,by omega,rfl,by go_num,?_,(hbo.trans (HB6.out.mono hsz)).grown hg hsz6 (fun b h=>(ho6.lt b h).1),fun _=>HWK.out⟩
             rw[HDT.out]
             refine OwnM.push (by rw[HFL.out];exact ho6) HC6.out (HV6.out.mono (fun b hb=>⟨hb.2,Fr.sub (w:=w6) hb (fun q hq=>(hown0 q hq).2)⟩)) (by rw[HFL.out];exact hown') hg hat
           ·have hrn:((datas hs).take K).getD 0 []=(datas hs).getD 0 []:=by
             rw[getD_lt _ _ (by rw[HDL.out];omega),getD_lt _ _ (by rw[datas_length];omega),List.getElem_take]
            have hcb:=refcombine_bad _ _ row ((datas hs).take K) wr hrow hrows (by rw[HDL.out,hrl]) (by rw[HDL.out];omega) (by rw[HDL.out];omega) (by rw[hrn];exact hwK)
            have hlv:levelB (datas hs)=false:=by
             cases h:levelB (datas hs) with
             | false=>rfl
             | true=>exact absurd (fun r hr=>levelB_wide h r (List.mem_of_mem_take hr)) hwK
            have hE:=decE_level HCB.out HIB.out HDF.out (by omega) hlv
            have HE:=zh hE
            have HCB2:=zh hcb
            clear hcb hdt hfl hrl hrd hwK hO hrows hrow hWd ci0 hvr hrn hlv hE
            go_wp2_with fail
            refine HCB2.out.mono ?_
            rintro e w6 ⟨rfl,hb6⟩
            go_wp2
            go_ret2
            rw[HE.out]
            exact⟨_,rfl,(fun h=>by cases h),fun _=>rfl,hbw6.trans (hb6.mono hbw6.size)⟩
          ·have hcK:c=K:=by omega
           have hWK:=hWd (by omega)
           have hO2:=hO.matS
           rw[hcK,List.take_of_length_le (by rw[decD_length];exact Nat.le_refl _)] at hO2
           have hen:=refencode_any K M (rowLen hs) _ (decD K hs) wr HCB.out (decD_length K hs) hO2 (decD_wide K hs) hLm
           rw[←HN.out] at hen
           have HEN:=zh hen
           have HO2:=zh hO2
           have HCK:=zh hcK
           have hTl:=wordT_length K n (decD K hs) (rowLen hs)
           have hTw:=wordT_wide K n (decD K hs) (rowLen hs)
           have HTL:=zh hTl
           have HTW:=zh hTw
           clear hO hcK hen hO2 hWd hfl hTl hTw
           rw[HCK.out]
           go_wp2_with fail
           refine HEN.out.mono ?_
           rintro e w6 ⟨v20,rfl,hv20,hb6⟩
           have hD6:=HO2.out.below hb6
           have hbw7:=hbw6.trans (hb6.mono hbw6.size)
           obtain⟨A20,c20,rfl,-,-⟩:=hv20.form
           rw[HTL.out] at hv20 ⊢
           have HV6:=zh hv20
           have HD6:=zh hD6
           have hne:∀q (hq:q<hs.length),(wordT K n (decD K hs) (rowLen hs)).getD hs[q].idx.toNat []≠hs[q].data→decE (K:Int) (M:Int) hs=11:=fun q hq hx=>by
            cases hlv:levelB (datas hs) with
            | false=>exact decE_level HCB.out HIB.out HDF.out (by omega) hlv
            | true =>
             refine decE_word HCB.out HIB.out HDF.out (by omega) hlv ?_
             have e1:((K:Int)).toNat=K∧((K:Int)+(M:Int)).toNat=n:=⟨by omega,by rw[HNM.out];omega⟩
             rw[e1.1,e1.2]
             unfold okW
             rw[List.all_eq_false]
             exact⟨hs[q],List.getElem_mem hq,by simpa using hx⟩
           have HNE:=zh hne
           have HH6:=zh (HH.out.below hbw7)
           clear hv20 hD6 hb6 hne HO2 HEN
           go_wp2_with fail
           go_loopg [22] hs.length (fun z v22 wr=>∃q:Nat,q≤hs.length∧z=hs.length - q∧v22=.int .i64 (q:Int)∧Hid (∀i (hi:i<hs.length),i<q→(wordT K n (decD K hs) (rowLen hs)).getD hs[i].idx.toNat []=hs[i].data)∧∃d,wr=w6.drewN d)
           case atStart=>exact⟨0,by omega,rfl,rfl,(fun i _ h=>by omega),0,rfl⟩
           case round =>
            obtain⟨q,hq,rfl,rfl,HQ,d9,rfl⟩:=hrel
            by_cases hlt6:q<hs.length
            ·obtain⟨b,off,va,rfl,hR,c0,c1,hva,hix⟩:=HH6.out.at_ hlt6
             have hin:=idx_in HIB.out q hlt6
             rw[HNM.out] at hin
             obtain⟨x,hx⟩:∃x:Nat,hs[q].idx=(x:Int):=⟨(hs[q].idx).toNat,by omega⟩
             have hxx:(hs[q].idx).toNat=x:=by omega
             have hxn:x<n:=by omega
             obtain⟨bo,oo,vr,rfl,hRo,co0,hvr⟩:=HV6.out.at_ (k:=x) (by rw[HTL.out];exact hxn)
             have hrd:=getD_lt (wordT K n (decD K hs) (rowLen hs)) [] (i:=x) (by rw[HTL.out];exact hxn)
             have HN1:=HNE.out q hlt6
             rw[hxx,hrd] at HN1
             have HIN:Hid ((wordT K n (decD K hs) (rowLen hs)).getD (hs[q].idx).toNat []=(wordT K n (decD K hs) (rowLen hs))[x]'(by rw[HTL.out];exact hxn)):=by rw[hxx];exact hrd
             generalize (wordT K n (decD K hs) (rowLen hs))[x]'(by rw[HTL.out];exact hxn)=row at *
             obtain⟨f,hf⟩:=zx (hs[q].data)
             rw[hx] at c0
             rw[←hf] at hva HN1
             obtain⟨Av,cv,rfl,-,-⟩:=hva.form
             obtain⟨Ar,cr,rfl,-,-⟩:=hvr.form
             obtain⟨wx,hwx⟩:=zx (w6.drewN d9)
             have x0:wx.cell? ⟨b,off+q * 2,none⟩=some (.int .i64 (x:Int)):=by rw[hwx];exact c0
             have x1:wx.cell? ⟨b,off+q * 2+1,none⟩=some (.slice Av f.length cv):=by rw[hwx];exact c1
             have cx:wx.cell? ⟨bo,oo+x,none⟩=some (.slice Ar row.length cr):=by rw[hwx];exact co0
             have y1:=conv_bytes (w:=wx.drew) (hva.keep (w':=wx.drew) (fun _ _=>by rw[hwx];rfl))
             have y2:=conv_bytes (w:=wx.drew) (hvr.keep (w':=wx.drew) (fun _ _=>by rw[hwx];rfl))
             have HWX:=zh hwx
             have HF:=zh hf
             have HN2:=zh HN1
             have i1:(0:Int)≤(x:Int):=by omega
             have i2:(x:Int)<(n:Int):=by omega
             have q1:(0:Int)≤(q:Int):=by omega
             have q2:(q:Int)<(hs.length:Int):=by omega
             clear c0 c1 hva hix hin hx hxx co0 hrd hf hvr HN1
             go_upto_region 38 with fail
             rw[←hwx]
             clear hwx
             by_cases hfe:row=f
             ·have e1:(row==f)=true:=by simpa using hfe
              have HFE:=zh hfe
              clear hfe
              go_region
              all_goals
               go_wp2_with fail
               go_roundg (hs.length - (q+1))
               case measure=>omega
               case rel=>exact⟨q+1,by omega,rfl,by go_num,(fun i hi h=>by
                by_cases e:i=q
                ·subst e;rw[HIN.out,HFE.out,HF.out]
                ·exact HQ.out i hi (by omega)),d9+1,by rw[HWX.out];rfl⟩
             ·have e1:(row==f)=false:=by rw[beq_eq_false_iff_ne];exact hfe
              have HE:=zh (HN2.out hfe)
              clear hfe
              go_region
              all_goals
               go_wp2
               go_ret2
               rw[HE.out]
               exact⟨_,rfl,(fun h=>by cases h),fun _=>rfl,by rw[HWX.out];exact Below.drewN' hbw7 (d9+1)⟩
            ·have hall:∀x∈hs,x.data.length=rowLen hs:=fun x hx=>by
              obtain⟨i,hi,rfl⟩:=List.getElem_of_mem hx
              rw[←HQ.out i hi (by omega)]
              exact HTW.out.getD (by rw[HTL.out];have:=idx_in HIB.out i hi;have:=HNM.out;omega)
             have hlv:levelB (datas hs)=true:=levelB_yes (m:=rowLen hs) fun r hr=>by
              simp only[datas,List.mem_map] at hr
              obtain⟨x,hx,rfl⟩:=hr
              exact hall x hx
             have hok:okW K n hs=true:=by
              unfold okW
              rw[List.all_eq_true]
              intro x hx
              obtain⟨i,hi,rfl⟩:=List.getElem_of_mem hx
              simpa using HQ.out i hi (by omega)
             have hKn:((K:Int)).toNat=K∧((K:Int)+(M:Int)).toNat=n:=⟨by omega,by rw[HNM.out];omega⟩
             have hE:=decE_ok HCB.out HIB.out HDF.out (by omega) hlv (by rw[hKn.1,hKn.2];exact hok)
             have HE:=zh hE
             have HKN:=zh hKn
             clear hE hok hKn hlv hall
             go_wp2
             go_ret2
             rw[HE.out,HKN.out.1]
             exact⟨_,rfl,(fun _=>HD6.out),(fun h=>absurd rfl h),Below.drewN' hbw7 d9⟩
end Go.Proofs.YtmehadfhcdpfcaaGreat
