/- The factors of a row, walked. -/
import Derived.Test.YtmehadfhcdpfcaaGreatMg01
import Derived.StillTailTactics
import Derived.Laws.CopyOwn
import Derived.OwnWalk
import Derived.BigRegion
import Derived.Deep.Cut
import Derived.Test.YtmehadfhcdpfcaaGreatRows
import Derived.ProofKit
import Derived.Deep.LoopGhost
set_option maxRecDepth 100000
set_option maxHeartbeats 12800000
namespace Go.Proofs.YtmehadfhcdpfcaaGreat
open Go.RowKit
set_option linter.unusedVariables false
set_option linter.unusedSimpArgs false
theorem coef_arg(j i:Nat) (hj:j<64) (hi:i<64):bits .xor .u8 (128+(j:Int)) (i:Int)=((UInt8.ofNat (128+j) ^^^ UInt8.ofNat i).toNat:Int):=by
 have h:=xor_int (UInt8.ofNat (128+j)) (UInt8.ofNat i)
 have h1:(((UInt8.ofNat (128+j)).toNat:Nat):Int)=128+(j:Int):=by rw[UInt8.toNat_ofNat'];omega
 have h2:(((UInt8.ofNat i).toNat:Nat):Int)=(i:Int):=by rw[UInt8.toNat_ofNat'];omega
 rw[h1,h2] at h
 exact h
theorem refcoefficient_any(j i:Nat) (w:World) (hj:j<64) (hi:i<64) :
  Calls Tryz.prog 88 #[.int .i64 (j:Int),.int .i64 (i:Int)] w fun e w'=>e=.returned (.int .u8 ((coef j i).toNat:Int))∧w=w':=by
 obtain⟨c,hc⟩:=zx (UInt8.ofNat (128+j) ^^^ UInt8.ofNat i)
 have hx:=coef_arg j i hj hi
 have hcf:coef j i=ginv c:=by rw[hc];rfl
 rw[←hc] at hx
 rw[hcf]
 have HX:=zh hx
 clear hc hx hcf
 go_enter Tryz.func88,Tryz.ntmps88
 go_wp2_with fail
 rw[HX.out]
 refine(refinv_any c _).mono ?_
 rintro e w' ⟨rfl,rfl⟩
 go_wp2
 go_ret
 exact⟨rfl,rfl⟩
def coefP(k a j:Nat):List UInt8:=(List.range k).map fun i=>if i<j then(coefR k a).getD i 0 else 0
theorem coefP_zero(k a:Nat):coefP k a 0=List.replicate k 0:=by
 apply List.ext_getElem
 ·simp[coefP]
 ·intro i h1 h2;simp[coefP]
theorem coefP_all(k a:Nat):coefP k a k=coefR k a:=by
 apply List.ext_getElem
 ·simp[coefP,coefR]
 ·intro i h1 h2
  have h3:i<k:=by simpa[coefP] using h1
  simp only[coefP,List.getElem_map,List.getElem_range,if_pos h3]
  exact getD_lt _ _ h2
theorem coefP_step(k a j:Nat) (hj:j<k):(coefP k a j).set j ((coefR k a).getD j 0)=coefP k a (j+1):=by
 apply List.ext_getElem
 ·simp[coefP]
 ·intro i h1 h2
  rw[List.getElem_set]
  simp only[coefP,List.getElem_map,List.getElem_range]
  by_cases e:j=i
  ·subst e;rw[if_pos rfl,if_pos (by omega)]
  ·rw[if_neg e]
   by_cases h3:i<j
   ·rw[if_pos h3,if_pos (by omega)]
   ·rw[if_neg h3,if_neg (by omega)]
theorem coefP_length(k a j:Nat):(coefP k a j).length=k:=by simp[coefP]
theorem coefP_skip(k a j:Nat) (hj:j<k) (h:(coefR k a).getD j 0=0):coefP k a (j+1)=coefP k a j:=by
 rw[←coefP_step k a j hj,h]
 apply List.ext_getElem
 ·simp[coefP]
 ·intro i h1 h2
  rw[List.getElem_set]
  by_cases e:j=i
  ·subst e;rw[if_pos rfl];simp[coefP]
  ·rw[if_neg e]
theorem factors_any(k a:Nat) (w:World) (hk:k<64) (ha:a<k+64) :
  Calls Tryz.prog 68 #[.int .i64 (k:Int),.int .i64 (a:Int)] w fun e w'=>∃v,e=.returned v∧ByS w' (Fr w.heap.size w'.heap.size) v (coefR k a)∧Below w.heap.size w w':=by
 have hmk:=mk_u8 k (by omega)
 have hB:=BlkB.new w k
 have hb1:Below w.heap.size w (w.alloc (.cells (Array.replicate k (.int .u8 0)) 5)):=(Below.refl _ _).alloc (Nat.le_refl _) _
 go_enter Tryz.func68,Tryz.ntmps68
 go_wp2
 obtain⟨g,hg⟩:=zx w.heap.size
 rw[←hg] at hB ⊢
 have hgw:w.heap.size≤g:=by omega
 generalize w.alloc (.cells (Array.replicate k (.int .u8 0)) 5)=w1 at *
 clear hg hmk
 go_loopg [6] k (fun n v6 wr=>∃j:Nat,j≤k∧n=k - j∧v6=.int .i64 (j:Int)∧BlkB wr g (coefP k a j)∧Below w.heap.size w wr)
 case atStart=>exact⟨0,by omega,rfl,rfl,by rw[coefP_zero];exact hB,hb1⟩
 case round =>
  clear hB hb1
  obtain⟨j,hj,rfl,rfl,hB,hb⟩:=hrel
  by_cases hlt:j<k
  ·have c0:=hB.cellD (j:=j) (by rw[coefP_length];exact hlt)
   have f0:=hB.free j
   by_cases hak:k≤a
   ·obtain⟨d,hd⟩:∃d,a=k+d:=⟨a - k,by omega⟩
    subst hd
    have hc:(coefR k (k+d)).getD j 0=coef d j:=by rw[coefR_getD _ _ _ hlt,if_neg (by omega),Nat.add_sub_cancel_left]
    have HC:=zh hc
    have e1:(k:Int)+(d:Int) - (k:Int)=(d:Int):=by omega
    clear hc
    go_wp2_with fail
    refine(refcoefficient_any d j _ (by omega) (by omega)).mono ?_
    rintro e w' ⟨rfl,rfl⟩
    go_wp2
    go_roundg (k - (j+1))
    case measure=>omega
    case rel =>
     have hB2:=hB.set j (coef d j)
     rw[←HC.out,coefP_step _ _ _ hlt] at hB2
     exact⟨j+1,by omega,rfl,by go_num,by rw[←HC.out];exact hB2,hb.setCell hgw _⟩
   ·by_cases hja:j=a
    ·have hc:(coefR k a).getD j 0=1:=by rw[coefR_getD _ _ _ hlt,if_pos (by omega),if_pos hja]
     have HC:=zh hc
     have e1:((j:Int)==(a:Int))=true:=by simp[hja]
     clear hc hja
     go_wp2
     go_roundg (k - (j+1))
     case measure=>omega
     case rel =>
      have hB2:=hB.set j 1
      have hs:=coefP_step k a j hlt
      rw[HC.out] at hs
      rw[hs] at hB2
      exact⟨j+1,by omega,rfl,by go_num,hB2,hb.setCell hgw _⟩
    ·have hc:(coefR k a).getD j 0=0:=by rw[coefR_getD _ _ _ hlt,if_pos (by omega),if_neg hja]
     have HC:=zh hc
     have e1:((j:Int)==(a:Int))=false:=by simp;omega
     clear hc
     go_wp2
     go_roundg (k - (j+1))
     case measure=>omega
     case rel=>exact⟨j+1,by omega,rfl,by go_num,by rw[coefP_skip _ _ _ hlt HC.out];exact hB,hb⟩
  ·obtain rfl:j=k:=by omega
   go_wp2
   go_ret
   rw[coefP_all] at hB
   have hby:=hB.byS (c:=j) (by rw[coefR_length];exact Nat.le_refl _) (by rw[coefR_length];unfold maxLen;omega) (R:=Fr w.heap.size _) ⟨hgw,hB.lt⟩
   rw[coefR_length] at hby
   exact⟨_,rfl,hby,hb⟩
end Go.Proofs.YtmehadfhcdpfcaaGreat

namespace Go.Proofs.YtmehadfhcdpfcaaGreat
open Go.RowKit
set_option linter.unusedVariables false
set_option linter.unusedSimpArgs false
def combF(cs:List UInt8) (t:Mat) (k i:Nat):UInt8:=gmul (cs.getD i 0) (en t i k)
def combT(cs:List UInt8) (t:Mat) (m:Nat):List UInt8:=(List.range m).map fun k=>lsum (List.range t.length) (combF cs t k)
def combP(cs:List UInt8) (t:Mat) (m r j:Nat):List UInt8:=(List.range m).map fun k=>lsum (List.range (if k<j then r+1 else r)) (combF cs t k)
theorem combP_length(cs:List UInt8) (t:Mat) (m r j:Nat):(combP cs t m r j).length=m:=by simp[combP]
theorem combP_start(cs:List UInt8) (t:Mat) (m:Nat):combP cs t m 0 0=List.replicate m 0:=by
 apply List.ext_getElem
 ·simp[combP]
 ·intro i h1 h2;simp[combP,lsum]
theorem combP_row(cs:List UInt8) (t:Mat) (m r:Nat):combP cs t m r m=combP cs t m (r+1) 0:=by
 apply List.ext_getElem
 ·simp[combP]
 ·intro i h1 h2
  have h3:i<m:=by simpa[combP] using h1
  simp[combP,h3]
theorem combP_end(cs:List UInt8) (t:Mat) (m:Nat):combP cs t m t.length 0=combT cs t m:=by
 unfold combP combT;simp
theorem combP_step(cs:List UInt8) (t:Mat) (m r j:Nat) (hj:j<m):(combP cs t m r j).set j ((combP cs t m r j).getD j 0 ^^^ combF cs t j r)=combP cs t m r (j+1):=by
 apply List.ext_getElem
 ·simp[combP]
 ·intro i h1 h2
  rw[List.getElem_set]
  by_cases e:j=i
  ·subst e
   rw[if_pos rfl,getD_lt _ _ (by simpa[combP] using hj)]
   simp only[combP,List.getElem_map,List.getElem_range]
   rw[if_neg (by omega),if_pos (by omega),List.range_succ,lsum_append]
   simp[lsum]
  ·rw[if_neg e]
   simp only[combP,List.getElem_map,List.getElem_range]
   by_cases h3:i<j
   ·rw[if_pos h3,if_pos (by omega)]
   ·rw[if_neg h3,if_neg (by omega)]
theorem combT_length(cs:List UInt8) (t:Mat) (m:Nat):(combT cs t m).length=m:=by simp[combT]
theorem Calls.eqw{P:Program} {f:FuncId} {args:Array Value} {w:World} {v:Value} (h:Calls P f args w fun e w'=>e=.returned v∧w=w'):Calls P f args w fun e w'=>e=.returned v∧w'=w:=h.mono fun _ _ ⟨a,b⟩=>⟨a,b.symm⟩
end Go.Proofs.YtmehadfhcdpfcaaGreat

namespace Go.Proofs.YtmehadfhcdpfcaaGreat
open Go.RowKit
set_option linter.unusedVariables false
set_option linter.unusedSimpArgs false
theorem refcombine_any(vc vt:Value) (cs:List UInt8) (t:Mat) (m:Nat) (w:World) (hc:ByS w (Bl w.heap.size) vc cs) (ht:MatS w (Bl w.heap.size) vt t) (hl:cs.length=t.length) (h0:0<t.length) (hn:t.length≤64) (hw:Wide t m) (hm:m≤65536) :
  Calls Tryz.prog 67 #[vc,vt] w fun e w'=>∃v,e=.returned (.tuple #[v,.int .i64 0])∧ByS w' (Fr w.heap.size w'.heap.size) v (combT cs t m)∧Below w.heap.size w w':=by
 obtain⟨Ac,cc,rfl,-,-⟩:=hc.form
 obtain⟨At,ct,rfl,hct,-⟩:=ht.form
 obtain⟨bt,ot,va0,rfl,hRt,ca0,hva0⟩:=ht.at_ h0
 obtain⟨A0,c0,rfl,-,-⟩:=hva0.form
 have hm0:=hw _ (List.getElem_mem h0)
 rw[hm0,Nat.add_zero] at ca0
 rw[hl] at hc ⊢
 have HL:=zh hl
 have HA0:=zh ca0
 have e0:((t.length:Int)==0)=false:=by rw[beq_eq_false_iff_ne];omega
 have hti:(0:Int)<(t.length:Int):=by omega
 clear hl hm0 hva0 ca0
 go_enter Tryz.func67,Tryz.ntmps67
 go_wp2
 go_loopg [6] t.length (fun n v6 wr=>∃r:Nat,r≤t.length∧n=t.length - r∧v6=.int .i64 (r:Int)∧Hid (∃k,wr=w.drewN k))
 case atStart=>exact⟨0,by omega,rfl,rfl,0,rfl⟩
 case round =>
  obtain⟨r,hr,rfl,rfl,hwr⟩:=hrel
  obtain⟨k,rfl⟩:=hwr.out
  clear hwr
  have ca0:=HA0.out
  by_cases hlt:r<t.length
  ·obtain⟨b1,o1,va,hA1,hR1,c1,hva⟩:=ht.at_ hlt
   obtain⟨rfl,rfl⟩:bt=b1∧ot=o1:=by injection hA1 with h;injection h with h1 h2;exact⟨h1,h2⟩
   have hmr:=hw _ (List.getElem_mem hlt)
   obtain⟨A1,c1',rfl,-,-⟩:=hva.form
   rw[hmr] at c1
   clear hmr hA1 hva
   have hri:(r:Int)<(t.length:Int):=by omega
   have hr0:(0:Int)≤(r:Int):=by omega
   go_wp2_with fail
   go_quiet (fail)
   go_wp2
   go_roundg (t.length - (r+1))
   case measure=>omega
   case rel=>exact⟨r+1,by omega,rfl,by go_num,⟨_,rfl⟩⟩
  ·have hrt:Hid (r=t.length):=(by omega:r=t.length)
   have hmk:=mk_u8 m (by omega)
   have hB:=BlkB.new (w.drewN k) m
   have hb1:Below w.heap.size w ((w.drewN k).alloc (.cells (Array.replicate m (.int .u8 0)) 5)):=(Below.drewN' (Below.refl _ _) k).alloc (Nat.le_refl _) _
   go_wp2
   obtain⟨g,hg⟩:=zx w.heap.size
   have hB':BlkB ((w.drewN k).alloc (.cells (Array.replicate m (.int .u8 0)) 5)) w.heap.size (List.replicate m 0):=hB
   rw[←hg] at hB' ⊢
   have hgw:w.heap.size≤g:=by omega
   clear hB
   generalize (w.drewN k).alloc (.cells (Array.replicate m (.int .u8 0)) 5)=w1 at *
   clear hg hmk ca0
   go_loopg [8] t.length (fun n v8 wr=>∃r:Nat,r≤t.length∧n=t.length - r∧v8=.int .i64 (r:Int)∧BlkB wr g (combP cs t m r 0)∧Below w.heap.size w wr)
   case atStart=>exact⟨0,by omega,rfl,rfl,by rw[combP_start];exact hB',hb1⟩
   case round =>
    clear hB' hb1 hrt hr hlt
    obtain⟨r,hr,rfl,rfl,hB,hb⟩:=hrel
    by_cases hlt:r<t.length
    ·obtain⟨b1,o1,va,hA1,hR1,c1,hva⟩:=ht.at_ hlt
     obtain⟨rfl,rfl⟩:bt=b1∧ot=o1:=by injection hA1 with h;injection h with h1 h2;exact⟨h1,h2⟩
     obtain⟨bc,oc,rfl,hRc,cc1⟩:=hc.at_ (k:=r) (by rw[HL.out];exact hlt)
     have hmr:=hw _ (List.getElem_mem hlt)
     have hrow:=getD_lt t [] hlt
     generalize t[r]=row at *
     obtain⟨A1,c1',rfl,-,-⟩:=hva.form
     rw[hmr] at c1 hva
     have HROW:=zh hrow
     have HMR:=zh hmr
     have hcr:=getD_lt cs 0 (i:=r) (by rw[HL.out];exact hlt)
     rw[←hcr] at cc1
     have HCT:=zh c1
     have HC1:=zh cc1
     clear hrow hmr hcr hA1 c1 cc1
     go_wp2
     go_loopg [9] m (fun n v9 wx=>∃j:Nat,j≤m∧n=m - j∧v9=.int .i64 (j:Int)∧BlkB wx g (combP cs t m r j)∧Below w.heap.size w wx)
     case atStart=>exact⟨0,by omega,rfl,rfl,hB,hb⟩
     case round =>
      clear hB hb
      obtain⟨j,hj,rfl,rfl,hB,hb⟩:=hrel
      by_cases hjt:j<m
      ·obtain⟨b2,o2,rfl,hR2,c2⟩:=hva.at_ (k:=j) (by rw[HMR.out];exact hjt)
       have hen:row[j]'(by rw[HMR.out];exact hjt)=en t r j:=by
        unfold en;rw[HROW.out,getD_lt row 0 (by rw[HMR.out];exact hjt)]
       rw[hen] at c2
       have c1w:=(hb.cell (p:=⟨bt,ot+r,none⟩) hR1).trans HCT.out
       have c2w:=(hb.cell (p:=⟨b2,o2+j,none⟩) hR2).trans c2
       have cc2:=(hb.cell (p:=⟨bc,oc+r,none⟩) hRc).trans HC1.out
       have c0:=hB.cellD (j:=j) (by rw[combP_length];exact hjt)
       have f0:=hB.free j
       obtain⟨y,hy⟩:=zx (en t r j)
       obtain⟨f,hf⟩:=zx (cs.getD r 0)
       rw[←hy] at c2w
       rw[←hf] at cc2
       have hstep:=combP_step cs t m r j hjt
       have hcf:combF cs t j r=gmul f y:=by rw[hf,hy];rfl
       rw[hcf] at hstep
       generalize (combP cs t m r j).getD j 0=x at *
       have HS:=zh hstep
       clear hen c2 hy hf hstep hcf
       go_wp2_with fail
       go_still_tail 20,(by kernel_rfl)
       still_call (Calls.eqw (refmul_any f y _))
       repeat still_step
       refine wpStill_nil ?_
       change wpList _ _ _ _ _ (World.drew _)
       go_wp2
       go_roundg (m - (j+1))
       case measure=>omega
       case rel =>
        have hB2:=(hB.set j (x ^^^ gmul f y)).drewN 1
        rw[HS.out] at hB2
        exact⟨j+1,by omega,rfl,by go_num,by rw[xor_int];exact hB2,(hb.setCell hgw _).drew⟩
      ·obtain rfl:j=m:=by omega
       go_wp2
       go_roundg (t.length - (r+1))
       case measure=>omega
       case rel=>exact⟨r+1,by omega,rfl,by go_num,by rw[←combP_row];exact hB,hb⟩
    ·obtain rfl:r=t.length:=by omega
     go_wp2
     go_ret2
     rw[combP_end] at hB
     have hby:=hB.byS (c:=m) (by rw[combT_length];exact Nat.le_refl _) (by rw[combT_length];unfold maxLen;omega) (R:=Fr w.heap.size _) ⟨hgw,hB.lt⟩
     rw[combT_length] at hby
     exact⟨_,rfl,hby,hb⟩
end Go.Proofs.YtmehadfhcdpfcaaGreat

namespace Go.Proofs.YtmehadfhcdpfcaaGreat
open Go.RowKit
set_option linter.unusedVariables false
set_option linter.unusedSimpArgs false
def rowV(m q:Nat):Value:=.slice (some ⟨q,0,none⟩) m m
structure MatW (W:World) (B g:Nat) (qs:List Nat) (t:Mat) (m:Nat) (rest:List Value):Prop where
 outer:W.heap[g]?=some (.cells (qs.map (rowV m)++rest).toArray 88 (0,0))
 len:qs.length=t.length
 inj:∀i j,i<t.length→j<t.length→qs.getD i 0=qs.getD j 0→i=j
 inner:∀i,i<t.length→BlkB W (qs.getD i 0) (t.getD i [])
 wide:Wide t m
 base:∀i,i<t.length→B≤qs.getD i 0
 bg:B≤g
 ng:∀i,i<t.length→qs.getD i 0≠g
section
variable {W : World} {B g : Nat} {qs : List Nat} {t : Mat} {m : Nat} {rest : List Value}
theorem MatW.cellO(h:MatW W B g qs t m rest) {i:Nat} (hi:i<t.length):W.cell? ⟨g,i,none⟩=some (.slice (some ⟨qs.getD i 0,0,none⟩) m m):=by
 have hl:=h.len
 rw[cell_of_row W g i _ _ _ h.outer]
 rw[List.getElem?_toArray,List.getElem?_append_left (by simp;omega),List.getElem?_map,List.getElem?_eq_getElem (by omega),getD_lt _ _ (by omega)]
 rfl
theorem MatW.ltO(h:MatW W B g qs t m rest):g<W.heap.size:=by
 have h1:=h.outer
 rcases Nat.lt_or_ge g W.heap.size with h2 | h2
 ·exact h2
 ·rw[Array.getElem?_eq_none h2] at h1;cases h1
theorem MatW.rowlen(h:MatW W B g qs t m rest) {i:Nat} (hi:i<t.length):(t.getD i []).length=m:=h.wide.getD hi
theorem MatW.drewN(h:MatW W B g qs t m rest) (n:Nat):MatW (W.drewN n) B g qs t m rest:=⟨h.outer,h.len,h.inj,h.inner,h.wide,h.base,h.bg,h.ng⟩
theorem set_length(t:Mat) (i:Nat) (r:List UInt8):(t.set i r).length=t.length:=by simp
theorem wide_set{t:Mat} {m:Nat} (h:Wide t m) (i:Nat) {r:List UInt8} (hr:r.length=m):Wide (t.set i r) m:=by
 intro x hx
 rcases List.mem_or_eq_of_mem_set hx with h1 | h1
 ·exact h x h1
 ·rw[h1];exact hr
theorem MatW.put(h:MatW W B g qs t m rest) {i j:Nat} (hi:i<t.length) (y:UInt8):MatW (W.setCell ⟨qs.getD i 0,j,none⟩ (.int .u8 (y.toNat:Int))) B g qs (t.set i ((t.getD i []).set j y)) m rest:=by
 refine⟨?_,by rw[set_length];exact h.len,?_,?_,wide_set h.wide i (by rw[List.length_set];exact h.rowlen hi),?_,h.bg,?_⟩
 ·exact(heap_setCell_other W _ g _ (fun e=>h.ng i hi e.symm)).trans h.outer
 ·intro a b ha hb;rw[set_length] at ha hb;exact h.inj a b ha hb
 ·intro a ha
  rw[set_length] at ha
  rw[getD_set _ _ _ _ _ hi]
  by_cases e:a=i
  ·rw[if_pos e,e];exact(h.inner i hi).set j y
  ·rw[if_neg e];exact(h.inner a ha).other (fun e2=>e (h.inj a i ha hi e2)) _
 ·intro a ha;rw[set_length] at ha;exact h.base a ha
 ·intro a ha;rw[set_length] at ha;exact h.ng a ha
theorem MatW.matS(h:MatW W B g qs t m []) (hm:m≤maxLen) (hn:t.length≤maxLen):MatS W (Bl W.heap.size) (.slice (some ⟨g,0,none⟩) t.length t.length) t :=
 ⟨_,_,rfl,Nat.le_refl _,hn,fun _=>⟨g,0,rfl,h.ltO,fun k r hk=>by
  have hj:k<t.length:=(List.getElem?_eq_some_iff.1 hk).1
  have hx:t[k]=r:=(List.getElem?_eq_some_iff.1 hk).2
  have h1:=h.cellO hj
  have h2:=h.inner k hj
  rw[getD_lt _ _ hj,hx] at h2
  have h3:r.length=m:=by rw[←hx];exact h.wide _ (List.getElem_mem hj)
  refine⟨_,by rw[Nat.zero_add];exact h1,?_⟩
  have h4:=h2.byS (c:=m) (R:=Bl W.heap.size) (by rw[h3];exact Nat.le_refl _) (by rw[h3];exact hm) h2.lt
  rw[h3] at h4
  exact h4⟩⟩
end
end Go.Proofs.YtmehadfhcdpfcaaGreat

namespace Go.Proofs.YtmehadfhcdpfcaaGreat
open Go.RowKit
set_option linter.unusedVariables false
set_option linter.unusedSimpArgs false
structure MatX (W:World) (B g:Nat) (qs cs:List Nat) (t:Mat) (m:Nat):Prop where
 outer:∀i,i<t.length→W.cell? ⟨g,i,none⟩=some (.slice (some ⟨qs.getD i 0,0,none⟩) m (cs.getD i 0))∧W.frozen? ⟨g,i,none⟩=false
 len:qs.length=t.length
 lenc:cs.length=t.length
 inj:∀i j,i<t.length→j<t.length→qs.getD i 0=qs.getD j 0→i=j
 inner:∀i,i<t.length→∀j,j<m→W.cell? ⟨qs.getD i 0,j,none⟩=some (.int .u8 ((en t i j).toNat:Int))∧W.frozen? ⟨qs.getD i 0,j,none⟩=false
 wide:Wide t m
 base:∀i,i<t.length→B≤qs.getD i 0
 bg:B≤g
 ng:∀i,i<t.length→qs.getD i 0≠g
 cap:∀i,i<t.length→m≤cs.getD i 0
section
variable {W : World} {B g : Nat} {qs cs : List Nat} {t : Mat} {m : Nat}
theorem frozen_setM(W:World) (a b:Addr) (v:Value):(W.setCell a v).frozen? b=W.frozen? b:=by simp
theorem MatX.cellO(h:MatX W B g qs cs t m) {i:Nat} (hi:i<t.length):W.cell? ⟨g,i,none⟩=some (.slice (some ⟨qs.getD i 0,0,none⟩) m (cs.getD i 0)):=(h.outer i hi).1
theorem MatX.rowlen(h:MatX W B g qs cs t m) {i:Nat} (hi:i<t.length):(t.getD i []).length=m:=h.wide.getD hi
theorem MatX.drewN(h:MatX W B g qs cs t m) (n:Nat):MatX (W.drewN n) B g qs cs t m:=⟨h.outer,h.len,h.lenc,h.inj,h.inner,h.wide,h.base,h.bg,h.ng,h.cap⟩
theorem MatX.put(h:MatX W B g qs cs t m) {i j:Nat} (hi:i<t.length) (hj:j<m) (y:UInt8):MatX (W.setCell ⟨qs.getD i 0,j,none⟩ (.int .u8 (y.toNat:Int))) B g qs cs (t.set i ((t.getD i []).set j y)) m:=by
 have hrl:=h.rowlen hi
 refine⟨?_,by rw[set_length];exact h.len,by rw[set_length];exact h.lenc,?_,?_,wide_set h.wide i (by rw[List.length_set];exact hrl),?_,h.bg,?_,?_⟩
 ·intro a ha
  rw[set_length] at ha
  rw[World.cell?_setCell_other W _ _ _ (fun e=>h.ng i hi (by injection e)),frozen_setM]
  exact h.outer a ha
 ·intro a b ha hb;rw[set_length] at ha hb;exact h.inj a b ha hb
 ·intro a ha b hb
  rw[set_length] at ha
  rw[frozen_setM]
  refine⟨?_,(h.inner a ha b hb).2⟩
  unfold en
  rw[getD_set _ _ _ _ _ hi]
  by_cases e:a=i
  ·subst e
   rw[if_pos rfl,getD_set _ _ _ _ _ (by rw[hrl];exact hj)]
   by_cases e2:b=j
   ·subst e2
    rw[if_pos rfl]
    exact World.cell?_setCell_same W _ _ (h.inner a ha b hb).1
   ·rw[if_neg e2,World.cell?_setCell_other W _ _ _ (fun e3=>e2 (by injection e3 with _ e4;exact e4.symm))]
    exact(h.inner a ha b hb).1
  ·rw[if_neg e,World.cell?_setCell_other W _ _ _ (fun e3=>e (h.inj a i ha hi (by injection e3 with e4;exact e4.symm)))]
   exact(h.inner a ha b hb).1
 ·intro a ha;rw[set_length] at ha;exact h.base a ha
 ·intro a ha;rw[set_length] at ha;exact h.ng a ha
 ·intro a ha;rw[set_length] at ha;exact h.cap a ha
end
end Go.Proofs.YtmehadfhcdpfcaaGreat

namespace Go.Proofs.YtmehadfhcdpfcaaGreat
open Go.RowKit
set_option linter.unusedVariables false
set_option linter.unusedSimpArgs false
theorem map_snoc_rep(qs:List Nat) (m q:Nat) (rest:List Value):((qs.map (rowV m)++.slice none 0 0 :: rest).toArray.setIfInBounds qs.length (rowV m q))=((qs++[q]).map (rowV m)++rest).toArray:=by
 simp[List.set_append]
theorem MatW.push{W:World} {B g:Nat} {qs:List Nat} {t:Mat} {m:Nat} {rest:List Value} (h:MatW W B g qs t m (.slice none 0 0 :: rest)) (hB:B≤W.heap.size) :
  MatW ((W.setCell ⟨g,t.length,none⟩ (rowV m W.heap.size)).alloc (.cells (Array.replicate m (.int .u8 0)) 5)) B g (qs++[W.heap.size]) (t++[List.replicate m 0]) m rest:=by
 have hl:=h.len
 have hg:=h.ltO
 have hlt:∀i,i<t.length→qs.getD i 0<W.heap.size:=fun i hi=>(h.inner i hi).lt
 have hqn:∀i,i<t.length→(qs++[W.heap.size]).getD i 0=qs.getD i 0:=fun i hi=>by rw[List.getD,List.getElem?_append_left (by omega),List.getD]
 have hqe:(qs++[W.heap.size]).getD t.length 0=W.heap.size:=by rw[List.getD,List.getElem?_append_right (by omega),hl,Nat.sub_self];rfl
 have htn:∀i,i<t.length→(t++[List.replicate m (0:UInt8)]).getD i []=t.getD i []:=fun i hi=>by rw[List.getD,List.getElem?_append_left (by omega),List.getD]
 have hte:(t++[List.replicate m (0:UInt8)]).getD t.length []=List.replicate m 0:=by rw[List.getD,List.getElem?_append_right (by omega),Nat.sub_self];rfl
 have hlen:(t++[List.replicate m (0:UInt8)]).length=t.length+1:=by simp
 refine⟨?_,by simp[hl],?_,?_,?_,?_,h.bg,?_⟩
 ·rw[Below.heap_alloc _ _ _ (by simpa using hg),heap_setCell_same W g t.length _ _ _ h.outer,←hl,map_snoc_rep]
 ·intro i j hi hj e
  rw[hlen] at hi hj
  by_cases h1:i<t.length
  ·by_cases h2:j<t.length
   ·rw[hqn i h1,hqn j h2] at e;exact h.inj i j h1 h2 e
   ·have h3:j=t.length:=by omega
    rw[hqn i h1,h3,hqe] at e
    have:=hlt i h1;omega
  ·have h3:i=t.length:=by omega
   by_cases h2:j<t.length
   ·rw[hqn j h2,h3,hqe] at e
    have:=hlt j h2;omega
   ·omega
 ·intro i hi
  rw[hlen] at hi
  by_cases h1:i<t.length
  ·rw[hqn i h1,htn i h1]
   have h2:=hlt i h1
   exact((Below.heap_alloc _ _ _ (by simpa using h2)).trans ((h.inner i h1).other (h.ng i h1) _))
  ·have h3:i=t.length:=by omega
   rw[h3,hqe,hte]
   have h4:=BlkB.new (W.setCell ⟨g,t.length,none⟩ (rowV m W.heap.size)) m
   have h5:(W.setCell ⟨g,t.length,none⟩ (rowV m W.heap.size)).heap.size=W.heap.size:=by simp
   rw[h5] at h4
   exact h4
 ·intro r hr
  rcases List.mem_append.1 hr with h1 | h1
  ·exact h.wide r h1
  ·rw[List.mem_singleton.1 h1];simp
 ·intro i hi
  rw[hlen] at hi
  by_cases h1:i<t.length
  ·rw[hqn i h1];exact h.base i h1
  ·rw[show i=t.length from by omega,hqe];exact hB
 ·intro i hi
  rw[hlen] at hi
  by_cases h1:i<t.length
  ·rw[hqn i h1];exact h.ng i h1
  ·rw[show i=t.length from by omega,hqe];omega
theorem getD_last{α:Type} (t:List α) (z d:α) (i:Nat) (h:t.length=i):(t++[z]).getD i d=z:=by
 rw[List.getD,List.getElem?_append_right (by omega),h,Nat.sub_self];rfl
theorem own_form{w:World} {base:Nat} {e:TypeId} {size:Nat} {v:Value} {n:Nat} {xs:List Value} (h:w.ownsRow base e size v n xs):∃A c,v=.slice A n c:=by
 rcases h.2 with ⟨rfl,rfl⟩ | ⟨g,cap,cur,rfl,_⟩
 ·exact⟨none,0,rfl⟩
 ·exact⟨_,cap,rfl⟩
theorem snoc_set(vs:List Value) (z v:Value) (rest:List Value) (c:Nat) (h:vs.length=c):((vs++z :: rest).toArray.setIfInBounds c v)=((vs++[v])++rest).toArray:=by
 subst h
 simp[List.set_append]
theorem getD_append_lt{α:Type} (l m:List α) (d:α) {i:Nat} (h:i<l.length):(l++m).getD i d=l.getD i d:=by
 rw[List.getD,List.getElem?_append_left h,List.getD]
end Go.Proofs.YtmehadfhcdpfcaaGreat

namespace Go.Proofs.YtmehadfhcdpfcaaGreat
open Go.RowKit
set_option linter.unusedVariables false
set_option linter.unusedSimpArgs false
def rowC(q m c:Nat):Value:=.slice (some ⟨q,0,none⟩) m c
structure RowsO (W:World) (B:Nat) (qs cs:List Nat) (t:Mat) (m:Nat):Prop where
 len:qs.length=t.length
 lenc:cs.length=t.length
 inj:∀i j,i<t.length→j<t.length→qs.getD i 0=qs.getD j 0→i=j
 wide:Wide t m
 own:∀i,i<t.length→W.ownsRow B 5 1 (rowC (qs.getD i 0) m (cs.getD i 0)) m (bys (t.getD i []))
theorem own_lt{W:World} {B:Nat} {e:TypeId} {q n m c:Nat} {xs:List Value} (h:W.ownsRow B e 1 (rowC q n c) m xs):B≤q∧q<W.heap.size:=h.lt q rfl
theorem own_apart{W:World} {B B':Nat} {e e':TypeId} {s s' n n' g g':Nat} {v v':Value} {xs xs':List Value} (h:W.ownsRow B e s v n xs) (h':W.ownsRow B' e' s' v' n' xs') (he:e≠e') (hg:v.ownBlock=some g) (hg':v'.ownBlock=some g'):g≠g':=by
 intro hgg
 subst hgg
 rcases h.2 with ⟨rfl,_⟩ | ⟨k,cap,cur,rfl,_,hh,_⟩
 ·simp[Value.ownBlock] at hg
 ·rcases h'.2 with ⟨rfl,_⟩ | ⟨k',cap',cur',rfl,_,hh',_⟩
  ·simp[Value.ownBlock] at hg'
  ·simp only[Value.ownBlock,Option.some.injEq] at hg hg'
   subst hg
   subst hg'
   rw[hh] at hh'
   injection hh' with hh'
   injection hh' with _ hh'
   exact he hh'
theorem RowsO.nil(W:World) (B m:Nat):RowsO W B [] [] [] m:=⟨rfl,rfl,(fun i j hi=>by cases hi),(fun r hr=>by cases hr),(fun i hi=>by cases hi)⟩
theorem RowsO.kept{W W':World} {B:Nat} {qs cs:List Nat} {t:Mat} {m:Nat} (h:RowsO W B qs cs t m) {row:Option Nat} (hg:W.grownBy W' row) (hne:∀i,i<t.length→row≠some (qs.getD i 0)):RowsO W' B qs cs t m :=
 ⟨h.len,h.lenc,h.inj,h.wide,fun i hi=>(h.own i hi).kept hg (.inr fun e=>hne i hi (by rw[←e];rfl))⟩
theorem grown_of_below{W W':World} (hb:Below W.heap.size W W'):W.grownBy W' none:=⟨hb.os,hb.tape,hb.output,hb.size,fun k hk _=>hb.block k hk⟩
theorem RowsO.below{W W':World} {B:Nat} {qs cs:List Nat} {t:Mat} {m:Nat} (h:RowsO W B qs cs t m) (hb:Below W.heap.size W W'):RowsO W' B qs cs t m:=h.kept (grown_of_below hb) (fun i hi e=>by cases e)
theorem own_below{w w2:World} {base:Nat} {e:TypeId} {size:Nat} {v:Value} {n:Nat} {xs:List Value} (h:w.ownsRow base e size v n xs) (hb:Below w.heap.size w w2):w2.ownsRow base e size v n xs:=by
 refine h.kept (w':=w2) (row:=none) (grown_of_below hb) ?_
 cases hv:v.ownBlock with
 | none=>exact .inl rfl
 | some g=>exact .inr (by simp)
theorem own_base{W:World} {B B':Nat} {e:TypeId} {s n:Nat} {v:Value} {xs:List Value} (h:W.ownsRow B e s v n xs) (hB:B'≤B):W.ownsRow B' e s v n xs:=by
 refine⟨h.1,?_⟩
 rcases h.2 with h1 | ⟨g,cap,cur,h1,h2,h3⟩
 ·exact .inl h1
 ·exact .inr ⟨g,cap,cur,h1,by omega,h3⟩
theorem RowsO.push{W:World} {B:Nat} {qs cs:List Nat} {t:Mat} {m:Nat} (h:RowsO W B qs cs t m) {q c:Nat} {r:List UInt8} (ho:W.ownsRow B 5 1 (rowC q m c) m (bys r)) (hr:r.length=m) (hq:∀i,i<t.length→qs.getD i 0<q):RowsO W B (qs++[q]) (cs++[c]) (t++[r]) m:=by
 have hl:=h.len
 have hlc:=h.lenc
 have hlen:(t++[r]).length=t.length+1:=by simp
 refine⟨by simp[hl],by simp[hlc],?_,?_,?_⟩
 ·intro i j hi hj e
  rw[hlen] at hi hj
  by_cases h1:i<t.length
  ·by_cases h2:j<t.length
   ·rw[getD_append_lt _ _ _ (by omega),getD_append_lt _ _ _ (by omega)] at e;exact h.inj i j h1 h2 e
   ·have h3:j=t.length:=by omega
    rw[getD_append_lt _ _ _ (by omega),h3,getD_last _ _ _ _ hl] at e
    have:=hq i h1;omega
  ·have h3:i=t.length:=by omega
   by_cases h2:j<t.length
   ·rw[getD_append_lt qs _ _ (i:=j) (by omega),h3,getD_last _ _ _ _ hl] at e
    have:=hq j h2;omega
   ·omega
 ·intro x hx
  rcases List.mem_append.1 hx with h1 | h1
  ·exact h.wide x h1
  ·rw[List.mem_singleton.1 h1];exact hr
 ·intro i hi
  rw[hlen] at hi
  by_cases h1:i<t.length
  ·rw[getD_append_lt _ _ _ (by omega),getD_append_lt _ _ _ (by omega),getD_append_lt _ _ _ h1];exact h.own i h1
  ·have h3:i=t.length:=by omega
   rw[h3,getD_last _ _ _ _ hl,getD_last _ _ _ _ hlc,getD_last _ _ _ _ rfl]
   exact ho
theorem app_u8{ops:Array Oper} {rest:List Oper} {o:Oper} {a:Act} {Q:Exit→Act→World→Prop} {w:World} {x0:Value} (s x:Operand) (hgd:o.guard=none) (ho:o.op=.call { callee:=.builtin .append,args:=#[s,x],argTypes:=#[88,88] })
  (base:Nat) (v:Value) (n:Nat) (xs:List Value) (hs:a.eval s=v) (hown:w.ownsRow base 5 1 v n xs)
  (hx:a.eval x=.slice (some ⟨w.heap.size,0,none⟩) 1 1) (h1:x0.oneCell'=true) (hn:n+1≤16777216) (hbase:base≤w.heap.size)
  (h:∀v' w',w'.ownsRow base 5 1 v' (n+1) (xs++[x0])→w.grownBy w' v.ownBlock→(v'.ownBlock=v.ownBlock∨v'.ownBlock=some (w.heap.size+1))→wpList Tryz.prog ops Q rest (a.put o.dst v') w') :
  wpList Tryz.prog ops Q (o :: rest) a (w.alloc (.cells #[x0] 5)):=by
 obtain⟨i0,hi0,hz0,hz1,hz2⟩:=info_parts info_u8
 exact wpList_append1 hgd s x _ ho base i0 _ 1 1 Tryz.underlying88 hi0 hz0 hz1 hz2 rfl (by omega) (by omega) v n xs hs hown hx rfl (by simpa using h1) hn hbase h
theorem app_row{ops:Array Oper} {rest:List Oper} {o:Oper} {a:Act} {Q:Exit→Act→World→Prop} {w:World} {x0:Value} (s x:Operand) (hgd:o.guard=none) (ho:o.op=.call { callee:=.builtin .append,args:=#[s,x],argTypes:=#[87,87] })
  (base:Nat) (v:Value) (n:Nat) (xs:List Value) (hs:a.eval s=v) (hown:w.ownsRow base 88 1 v n xs)
  (hx:a.eval x=.slice (some ⟨w.heap.size,0,none⟩) 1 1) (h1:x0.oneCell'=true) (hn:n+1≤16777216) (hbase:base≤w.heap.size)
  (h:∀v' w',w'.ownsRow base 88 1 v' (n+1) (xs++[x0])→w.grownBy w' v.ownBlock→(v'.ownBlock=v.ownBlock∨v'.ownBlock=some (w.heap.size+1))→wpList Tryz.prog ops Q rest (a.put o.dst v') w') :
  wpList Tryz.prog ops Q (o :: rest) a (w.alloc (.cells #[x0] 88)):=by
 obtain⟨i0,hi0,hz0,hz1,hz2⟩:=info_parts info_row
 exact wpList_append1 hgd s x _ ho base i0 _ 1 24 Tryz.underlying87 hi0 hz0 hz1 hz2 rfl (by omega) (by omega) v n xs hs hown hx rfl (by simpa using h1) hn hbase h
end Go.Proofs.YtmehadfhcdpfcaaGreat

namespace Go.Proofs.YtmehadfhcdpfcaaGreat
open Go.RowKit
set_option linter.unusedVariables false
set_option linter.unusedSimpArgs false
def codeB(k m:Int):Bool:=decide (1≤k)&&decide (k≤6)&&decide (0≤m)&&decide (m≤4)&&decide (k+m≤8)
theorem codeB_iff(k m:Int):codeB k m=true↔1≤k∧k≤6∧0≤m∧m≤4∧k+m≤8:=by simp[codeB];omega
theorem codeB_no{k m:Int} (h:¬(1≤k∧k≤6∧0≤m∧m≤4∧k+m≤8)):codeB k m=false:=by
 cases e:codeB k m with
 | false=>rfl
 | true=>exact absurd ((codeB_iff k m).1 e) h
theorem codeB_yes{k m:Int} (h:1≤k∧k≤6∧0≤m∧m≤4∧k+m≤8):codeB k m=true:=(codeB_iff k m).2 h
theorem r07code_any(k m:Int) (w:World) (hk:I64 k) (hm:I64 m) :
  Calls Tryz.prog 66 #[.int .i64 k,.int .i64 m] w fun e w'=>e=.returned (.bool (codeB k m))∧w=w':=by
 obtain⟨k0,k1⟩:=hk
 obtain⟨m0,m1⟩:=hm
 by_cases h1:1≤k
 ·by_cases h2:k≤6
  ·by_cases h3:0≤m
   ·by_cases h4:m≤4
    ·by_cases h5:k+m≤8
     ·rw[codeB_yes ⟨h1,h2,h3,h4,h5⟩]
      go_enter Tryz.func66,Tryz.ntmps66
      go_wp2
      go_ret
      exact⟨rfl,rfl⟩
     ·rw[codeB_no (fun h=>h5 h.2.2.2.2)]
      go_enter Tryz.func66,Tryz.ntmps66
      go_wp2
      go_ret
      exact⟨rfl,rfl⟩
    ·rw[codeB_no (fun h=>h4 h.2.2.2.1)]
     go_enter Tryz.func66,Tryz.ntmps66
     go_wp2
     go_ret
     exact⟨rfl,rfl⟩
   ·rw[codeB_no (fun h=>h3 h.2.2.1)]
    go_enter Tryz.func66,Tryz.ntmps66
    go_wp2
    go_ret
    exact⟨rfl,rfl⟩
  ·rw[codeB_no (fun h=>h2 h.2.1)]
   go_enter Tryz.func66,Tryz.ntmps66
   go_wp2
   go_ret
   exact⟨rfl,rfl⟩
 ·rw[codeB_no (fun h=>h1 h.1)]
  go_enter Tryz.func66,Tryz.ntmps66
  go_wp2
  go_ret
  exact⟨rfl,rfl⟩
def wordT(k n:Nat) (d:Mat) (m:Nat):Mat:=(List.range n).map fun a=>combT (coefR k a) d m
theorem wordT_length(k n:Nat) (d:Mat) (m:Nat):(wordT k n d m).length=n:=by simp[wordT]
theorem wordT_wide(k n:Nat) (d:Mat) (m:Nat):Wide (wordT k n d m) m:=by
 intro r hr
 simp only[wordT,List.mem_map] at hr
 obtain⟨a,-,rfl⟩:=hr
 exact combT_length _ _ _
def OwnM(w:World) (base:Nat) (v:Value) (t:Mat):Prop:=∃xs,w.ownsRow base 88 1 v t.length xs∧∀j,j<t.length→ByS w (fun b=>b<w.heap.size∧v.ownBlock≠some b) (xs.getD j undef) (t.getD j [])
theorem OwnM.nil(w:World) (base:Nat):OwnM w base (.slice none 0 0) []:=⟨[],World.ownsRow_nil _ _ _ _,fun j hj=>by cases hj⟩
theorem OwnM.form{w:World} {base:Nat} {v:Value} {t:Mat} (h:OwnM w base v t):∃A c,v=.slice A t.length c:=by
 obtain⟨xs,ho,-⟩:=h
 exact own_form ho
theorem OwnM.below{w w2:World} {base:Nat} {v:Value} {t:Mat} (h:OwnM w base v t) (hb:Below w.heap.size w w2):OwnM w2 base v t:=by
 obtain⟨xs,ho,hc⟩:=h
 exact⟨xs,own_below ho hb,fun j hj=>((hc j hj).keep (fun b hbb=>hb.block b hbb.1)).mono (fun b hbb=>⟨Nat.lt_of_lt_of_le hbb.1 hb.size,hbb.2⟩)⟩
theorem OwnM.matS{w:World} {base:Nat} {v:Value} {t:Mat} (h:OwnM w base v t):MatS w (Bl w.heap.size) v t:=by
 obtain⟨xs,ho,hc⟩:=h
 have hxl:xs.length=t.length:=by have:=ho.1;omega
 rcases ho.2 with ⟨rfl,h0⟩ | ⟨g,cap,cur,rfl,hg0,hg1,h2,h3,hg2⟩
 ·unfold MatS;rw[h0];exact Row.nil _ _ _
 ·have ho':w.ownsRow base 88 1 (rowC g t.length cap) t.length xs:=ho
  refine⟨_,cap,rfl,h2,Nat.le_trans h2 h3,fun _=>⟨g,0,rfl,(own_lt ho').2,fun k r hk=>?_⟩⟩
  have hj:k<t.length:=(List.getElem?_eq_some_iff.1 hk).1
  have hx:t[k]=r:=(List.getElem?_eq_some_iff.1 hk).2
  have h1:=hc k hj
  rw[getD_lt t [] hj,hx] at h1
  refine⟨xs.getD k undef,?_,h1.mono (fun b hb=>hb.1)⟩
  rw[Nat.zero_add,ho.cellAt k (by omega),List.getElem?_eq_getElem (by omega),getD_lt _ _ (by omega)]
theorem OwnM.push{w w':World} {base:Nat} {v v' va:Value} {t:Mat} {r:List UInt8} {xs:List Value} (ho:w.ownsRow base 88 1 v t.length xs) (hc:∀j,j<t.length→ByS w (fun b=>b<w.heap.size∧v.ownBlock≠some b) (xs.getD j undef) (t.getD j []))
  (ha:ByS w (fun b=>b<w.heap.size∧v.ownBlock≠some b) va r)
  (ho':w'.ownsRow base 88 1 v' (t.length+1) (xs++[va])) (hg:w.grownBy w' v.ownBlock) (hat:v'.ownBlock=v.ownBlock∨v'.ownBlock=some (w.heap.size+1)):OwnM w' base v' (t++[r]):=by
 have hxl:xs.length=t.length:=by have:=ho.1;omega
 have hR:∀b,(b<w.heap.size∧v.ownBlock≠some b)→(b<w'.heap.size∧v'.ownBlock≠some b):=fun b hb=>⟨Nat.lt_of_lt_of_le hb.1 hg.size,by
  rcases hat with e | e
  ·rw[e];exact hb.2
  ·rw[e];intro e2;injection e2 with e2;have:=hb.1;omega⟩
 have hkp:Kept (fun b=>b<w.heap.size∧v.ownBlock≠some b) w w':=fun b hb=>hg.block b hb.1 (fun e=>hb.2 e.symm)
 refine⟨xs++[va],by rw[List.length_append];exact ho',fun j hj=>?_⟩
 rw[List.length_append,List.length_singleton] at hj
 by_cases h1:j<t.length
 ·rw[getD_append_lt _ _ _ (by omega),getD_append_lt _ _ _ h1]
  exact((hc j h1).keep hkp).mono hR
 ·have h2:j=t.length:=by omega
  rw[h2,getD_last _ _ _ _ hxl,getD_last _ _ _ _ rfl]
  exact(ha.keep hkp).mono hR
end Go.Proofs.YtmehadfhcdpfcaaGreat

namespace Go.Proofs.YtmehadfhcdpfcaaGreat
open Go.RowKit
set_option linter.unusedVariables false
set_option linter.unusedSimpArgs false
theorem wordT_succ(k a:Nat) (d:Mat) (m:Nat):wordT k (a+1) d m=wordT k a d m++[combT (coefR k a) d m]:=by simp[wordT,List.range_succ]
end Go.Proofs.YtmehadfhcdpfcaaGreat

namespace Go.Proofs.YtmehadfhcdpfcaaGreat
open Go.RowKit
set_option linter.unusedVariables false
set_option linter.unusedSimpArgs false
structure Frg where
 idx:Int
 data:List UInt8
def FragAt(w:World) (R:Nat→Prop) (hs:List Frg) (b off:Nat):Prop :=
 ∀k h,hs[k]?=some h→∃va,w.cell? ⟨b,off+k * 2,none⟩=some (.int .i64 h.idx)∧w.cell? ⟨b,off+k * 2+1,none⟩=some va∧ByS w R va h.data
def FragS(w:World) (R:Nat→Prop) (v:Value) (hs:List Frg):Prop:=Row R v hs.length (FragAt w R hs)∧∀h∈hs,I64 h.idx
theorem FragS.keep{w w':World} {R:Nat→Prop} {v:Value} {hs:List Frg} (h:FragS w R v hs) (hk:Kept R w w'):FragS w' R v hs :=
 ⟨h.1.imp (fun _ hb=>hb) fun b off hb hc k r hr=>by
  obtain⟨va,h1,h2,h3⟩:=hc k r hr
  exact⟨va,(hk.cell hb).trans h1,(hk.cell hb).trans h2,h3.keep hk⟩,h.2⟩
theorem FragS.mono{w:World} {R R':Nat→Prop} {v:Value} {hs:List Frg} (h:FragS w R v hs) (hr:∀b,R b→R' b):FragS w R' v hs :=
 ⟨h.1.imp hr fun b off _ hc k r hk=>by
  obtain⟨va,h1,h2,h3⟩:=hc k r hk
  exact⟨va,h1,h2,h3.mono hr⟩,h.2⟩
theorem FragS.below{w w':World} {v:Value} {hs:List Frg} (h:FragS w (Bl w.heap.size) v hs) (hb:Below w.heap.size w w'):FragS w' (Bl w'.heap.size) v hs:=(h.keep (kept_below hb)).mono (Bl.mono hb.size)
theorem FragS.form{w:World} {R:Nat→Prop} {v:Value} {hs:List Frg} (h:FragS w R v hs):∃A c,v=.slice A hs.length c∧hs.length≤c∧hs.length≤maxLen:=by
 obtain⟨⟨A',c',e,h1,h2,h3⟩,h4⟩:=h
 exact⟨A',c',e,h1,h2⟩
theorem FragS.at_{w:World} {R:Nat→Prop} {A:Option Addr} {n c:Nat} {hs:List Frg} (h:FragS w R (.slice A n c) hs) {k:Nat} (hk:k<hs.length) :
  ∃b off va,A=some ⟨b,off,none⟩∧R b∧w.cell? ⟨b,off+k * 2,none⟩=some (.int .i64 hs[k].idx)∧w.cell? ⟨b,off+k * 2+1,none⟩=some va∧ByS w R va hs[k].data∧I64 hs[k].idx:=by
 obtain⟨⟨A',c',e,_,_,h3⟩,h4⟩:=h
 obtain⟨b,off,e2,hb,hc⟩:=h3 (by omega)
 obtain⟨va,g1,g2,g3⟩:=hc k hs[k] (List.getElem?_eq_getElem hk)
 injection e with e
 exact⟨b,off,va,e.trans e2,hb,g1,g2,g3,h4 _ (List.getElem_mem hk)⟩
end Go.Proofs.YtmehadfhcdpfcaaGreat

namespace Go.Proofs.YtmehadfhcdpfcaaGreat
open Go.RowKit
set_option linter.unusedVariables false
set_option linter.unusedSimpArgs false
theorem info_bool:(Tryz.prog.info? 4).map (fun i=>(i.zero,i.size,i.bytes))=some (some (.bool false),1,1):=by kernel_rfl
theorem conv_bytes{w:World} {R:Nat→Prop} {v:Value} {l:List UInt8} (h:ByS w R v l):(convert 88 9 v).run Tryz.prog w=.ok (.string ⟨l.toArray⟩) w :=
 h.conv Tryz.underlying88 Tryz.underlying5 Tryz.underlying9
def SeenB(W:World) (g n:Nat) (js:List Nat):Prop:=W.heap[g]?=some (.cells ((List.range n).map fun b=>Value.bool (decide (b∈js))).toArray 4 (0,0))
theorem SeenB.cell{W:World} {g n i:Nat} {js:List Nat} (h:SeenB W g n js) (hi:i<n):W.cell? ⟨g,i,none⟩=some (.bool (decide (i∈js))):=by
 rw[cell_of_row W g i _ _ _ h];simp[hi]
theorem SeenB.free{W:World} {g n:Nat} {js:List Nat} (h:SeenB W g n js) (i:Nat):W.frozen? ⟨g,i,none⟩=false:=frozen_of_row W g i _ _ h
theorem SeenB.set{W:World} {g n i:Nat} {js:List Nat} (h:SeenB W g n js) (hi:i<n):SeenB (W.setCell ⟨g,i,none⟩ (.bool true)) g n (js++[i]):=by
 unfold SeenB
 rw[heap_setCell_same W g i _ _ _ h]
 congr 2
 apply Array.ext
 ·simp
 ·intro j h1 h2
  simp at h1
  rw[Array.getElem_setIfInBounds (by simpa using h1)]
  by_cases e:i=j
  ·subst e;simp
  ·have e2:¬j=i:=fun h=>e h.symm
   simp[e,e2]
theorem SeenB.below{W W':World} {g n:Nat} {js:List Nat} (h:SeenB W g n js) (hb:Below W.heap.size W W'):SeenB W' g n js:=by
 have hg:g<W.heap.size:=by
  unfold SeenB at h
  rcases Nat.lt_or_ge g W.heap.size with h1 | h1
  ·exact h1
  ·rw[Array.getElem?_eq_none h1] at h;cases h
 exact(hb.block g hg).trans h
def OwnB(w:World) (base:Nat) (v:Value) (t:Mat):Prop:=∃xs,w.ownsRow base 88 1 v t.length xs∧∀j,j<t.length→ByS w (Bl base) (xs.getD j undef) (t.getD j [])
theorem OwnB.nil(w:World) (base:Nat):OwnB w base (.slice none 0 0) []:=⟨[],World.ownsRow_nil _ _ _ _,fun j hj=>by cases hj⟩
theorem OwnB.form{w:World} {base:Nat} {v:Value} {t:Mat} (h:OwnB w base v t):∃A c,v=.slice A t.length c:=by
 obtain⟨xs,ho,-⟩:=h
 exact own_form ho
theorem OwnB.kept{w w':World} {base:Nat} {v:Value} {t:Mat} {row:Option Nat} (h:OwnB w base v t) (hg:w.grownBy w' row) (hne:v.ownBlock=none∨v.ownBlock≠row) (hk:Kept (Bl base) w w'):OwnB w' base v t:=by
 obtain⟨xs,ho,hc⟩:=h
 exact⟨xs,ho.kept hg hne,fun j hj=>(hc j hj).keep hk⟩
theorem OwnB.below{w w':World} {base:Nat} {v:Value} {t:Mat} (h:OwnB w base v t) (hb:Below w.heap.size w w') (hB:base≤w.heap.size):OwnB w' base v t:=by
 obtain⟨xs,ho,hc⟩:=h
 exact⟨xs,own_below ho hb,fun j hj=>(hc j hj).keep (kept_below' hb hB)⟩
theorem OwnB.push{w w':World} {base:Nat} {v v' va:Value} {t:Mat} {r:List UInt8} {xs:List Value} (ho:w.ownsRow base 88 1 v t.length xs) (hc:∀j,j<t.length→ByS w (Bl base) (xs.getD j undef) (t.getD j []))
  (ha:ByS w (Bl base) va r) (ho':w'.ownsRow base 88 1 v' (t.length+1) (xs++[va])) (hk:Kept (Bl base) w w'):OwnB w' base v' (t++[r]):=by
 have hxl:xs.length=t.length:=by have:=ho.1;omega
 refine⟨xs++[va],by rw[List.length_append];exact ho',fun j hj=>?_⟩
 rw[List.length_append,List.length_singleton] at hj
 by_cases h1:j<t.length
 ·rw[getD_append_lt _ _ _ (by omega),getD_append_lt _ _ _ h1]
  exact(hc j h1).keep hk
 ·have h2:j=t.length:=by omega
  rw[h2,getD_last _ _ _ _ hxl,getD_last _ _ _ _ rfl]
  exact ha.keep hk
theorem OwnB.matS{w:World} {base:Nat} {v:Value} {t:Mat} (h:OwnB w base v t) (hB:base≤w.heap.size):MatS w (Bl w.heap.size) v t:=by
 obtain⟨xs,ho,hc⟩:=h
 have hxl:xs.length=t.length:=by have:=ho.1;omega
 rcases ho.2 with ⟨rfl,h0⟩ | ⟨g,cap,cur,rfl,hg0,hg1,h2,h3,hg2⟩
 ·unfold MatS;rw[h0];exact Row.nil _ _ _
 ·have ho':w.ownsRow base 88 1 (rowC g t.length cap) t.length xs:=ho
  refine⟨_,cap,rfl,h2,Nat.le_trans h2 h3,fun _=>⟨g,0,rfl,(own_lt ho').2,fun k r hk=>?_⟩⟩
  have hj:k<t.length:=(List.getElem?_eq_some_iff.1 hk).1
  have hx:t[k]=r:=(List.getElem?_eq_some_iff.1 hk).2
  have h1:=hc k hj
  rw[getD_lt t [] hj,hx] at h1
  refine⟨xs.getD k undef,?_,h1.mono (Bl.mono hB)⟩
  rw[Nat.zero_add,ho.cellAt k (by omega),List.getElem?_eq_getElem (by omega),getD_lt _ _ (by omega)]
theorem only_set1(w:World) (g i:Nat) (u:Value):w.grownBy (w.setCell ⟨g,i,none⟩ u) (some g) :=
 ⟨rfl,rfl,rfl,by simp[World.setCell],fun k hk hne=>Below.heap_setCell w _ u k (fun e=>hne (by rw[e]))⟩
def FillB(W:World) (h n:Nat) (t:Mat):Prop:=∃vs:List Value,vs.length=t.length∧W.heap[h]?=some (.cells (vs++List.replicate (n - t.length) (Value.slice none 0 0)).toArray 88 (0,0))∧∀j,j<t.length→ByS W (fun b=>b<W.heap.size∧b≠h) (vs.getD j undef) (t.getD j [])
theorem FillB.new(W:World) (n:Nat):FillB (W.alloc (.cells (Array.replicate n (.slice none 0 0)) 88)) W.heap.size n []:=⟨[],rfl,by rw[heap_alloc_new];simp,fun j hj=>by cases hj⟩
theorem FillB.lt{W:World} {h n:Nat} {t:Mat} (hf:FillB W h n t):h<W.heap.size:=by
 obtain⟨vs,-,h1,-⟩:=hf
 rcases Nat.lt_or_ge h W.heap.size with h2 | h2
 ·exact h2
 ·rw[Array.getElem?_eq_none h2] at h1;cases h1
theorem FillB.below{W W':World} {h n:Nat} {t:Mat} (hf:FillB W h n t) (hb:Below W.heap.size W W'):FillB W' h n t:=by
 have hlt:=hf.lt
 obtain⟨vs,h0,h1,h2⟩:=hf
 exact⟨vs,h0,(hb.block h hlt).trans h1,fun j hj=>((h2 j hj).keep (fun b hbb=>hb.block b hbb.1)).mono (fun b hbb=>⟨Nat.lt_of_lt_of_le hbb.1 hb.size,hbb.2⟩)⟩
theorem FillB.next{W:World} {h n:Nat} {t:Mat} (hf:FillB W h n t) (hn:t.length<n):W.cell? ⟨h,t.length,none⟩=some (.slice none 0 0)∧W.frozen? ⟨h,t.length,none⟩=false:=by
 obtain⟨vs,h0,h1,h2⟩:=hf
 refine⟨?_,frozen_of_row W h _ _ _ h1⟩
 rw[cell_of_row W h _ _ _ _ h1,List.getElem?_toArray,List.getElem?_append_right (by omega),h0,Nat.sub_self]
 rw[show n - t.length=(n - t.length - 1)+1 from by omega,List.replicate_succ];rfl
theorem FillB.store{W:World} {h n:Nat} {t:Mat} {v:Value} {r:List UInt8} (hf:FillB W h n t) (hn:t.length<n) (hv:ByS W (fun b=>b<W.heap.size∧b≠h) v r):FillB (W.setCell ⟨h,t.length,none⟩ v) h n (t++[r]):=by
 obtain⟨vs,h0,h1,h2⟩:=hf
 have hs:(W.setCell ⟨h,t.length,none⟩ v).heap.size=W.heap.size:=by simp
 have hk:Kept (fun b=>b<W.heap.size∧b≠h) W (W.setCell ⟨h,t.length,none⟩ v):=fun b hb=>heap_setCell_other W ⟨h,t.length,none⟩ b v hb.2
 have hr:List.replicate (n - t.length) (Value.slice none 0 0)=Value.slice none 0 0 :: List.replicate (n - (t++[r]).length) (Value.slice none 0 0):=by
  rw[List.length_append,List.length_singleton,show n - t.length=n - (t.length+1)+1 from by omega,List.replicate_succ]
 refine⟨vs++[v],by simp[h0],?_,fun j hj=>?_⟩
 ·rw[heap_setCell_same W h _ _ _ _ h1,hr,snoc_set vs _ _ _ _ h0]
 ·rw[List.length_append,List.length_singleton] at hj
  rw[hs]
  by_cases h3:j<t.length
  ·rw[getD_append_lt _ _ _ (by omega),getD_append_lt _ _ _ h3];exact(h2 j h3).keep hk
  ·have h4:j=t.length:=by omega
   rw[h4,getD_last _ _ _ _ h0,getD_last _ _ _ _ rfl];exact hv.keep hk
theorem FillB.matS{W:World} {h n:Nat} {t:Mat} (hf:FillB W h n t) (hn:t.length=n) (hm:n≤maxLen):MatS W (Bl W.heap.size) (.slice (some ⟨h,0,none⟩) n n) t:=by
 have hlt:=hf.lt
 obtain⟨vs,h0,h1,h2⟩:=hf
 refine⟨some ⟨h,0,none⟩,n,by rw[hn],by omega,by omega,fun _=>⟨h,0,rfl,hlt,fun j r hj=>?_⟩⟩
 have hjl:j<t.length:=(List.getElem?_eq_some_iff.1 hj).1
 have hjr:t[j]=r:=(List.getElem?_eq_some_iff.1 hj).2
 have h3:=h2 j hjl
 rw[getD_lt t [] hjl,hjr] at h3
 refine⟨vs.getD j undef,?_,h3.mono (fun b hb=>hb.1)⟩
 rw[Nat.zero_add,cell_of_row W h j _ _ _ h1,List.getElem?_toArray,List.getElem?_append_left (by omega),List.getElem?_eq_getElem (by omega),getD_lt _ _ (by omega)]
end Go.Proofs.YtmehadfhcdpfcaaGreat

namespace Go.Proofs.YtmehadfhcdpfcaaGreat
open Go.RowKit
set_option linter.unusedVariables false
set_option linter.unusedSimpArgs false
def within(x n:Int):Int:=if n<1 then 0 else x % n
theorem within_small(x n:Int) (h:n<1):within x n=0:=by unfold within;rw[if_pos h]
theorem within_range(x n:Int) (h:1≤n):0≤within x n∧within x n<n:=by
 unfold within;rw[if_neg (by omega)];exact⟨Int.emod_nonneg _ (by omega),Int.emod_lt_of_pos _ (by omega)⟩
theorem tmod_cases{x n:Int} (hn:1≤n):x.tmod n=x % n∨(x.tmod n=x % n - n∧0<x % n):=by
 have e:=Int.tmod_eq_emod (a:=x) (b:=n)
 have h1:=Int.emod_nonneg x (show n≠0 by omega)
 by_cases h:0≤x∨n ∣ x
 ·rw[if_pos h] at e;left;omega
 ·rw[if_neg h] at e
  have h2:x % n≠0:=fun h0=>h (.inr (Int.dvd_of_emod_eq_zero h0))
  right;omega
theorem tmod_neg{x n:Int} (hn:1≤n) (h:x.tmod n<0):x.tmod n+n=x % n ∧ -n<x.tmod n:=by
 have h1:=Int.emod_nonneg x (show n≠0 by omega)
 rcases tmod_cases (x:=x) hn with e | ⟨e,h2⟩ <;> omega
theorem tmod_pos{x n:Int} (hn:1≤n) (h:0≤x.tmod n):x.tmod n=x % n:=by
 have h1:=Int.emod_lt_of_pos x (show 0<n by omega)
 rcases tmod_cases (x:=x) hn with e | ⟨e,h2⟩ <;> omega
def TapeB(W:World) (g:Nat) (vl:Value) (I:Nat):Prop:=W.heap[g]?=some (.cells #[vl,.int .i64 (I:Int)] 48 (0,0))
theorem TapeB.cells{W:World} {g:Nat} {vl:Value} {I:Nat} (h:TapeB W g vl I):W.cell? ⟨g,0,none⟩=some vl∧W.cell? ⟨g,1,none⟩=some (.int .i64 (I:Int))∧W.frozen? ⟨g,1,none⟩=false∧g<W.heap.size:=by
 have h0:=cell_of_row W g 0 _ _ _ h
 have h1:=cell_of_row W g 1 _ _ _ h
 exact⟨by simpa using h0,by simpa using h1,frozen_of_row W g 1 _ _ h,block_lt_of_cell h0⟩
def tapeX(xs:List Int) (I:Nat):Int:=if h:I<xs.length then xs[I] else((I:Int) % 3)
theorem only_set2{a w:World} {g:Nat} (h:a.grownBy w (some g)) (i:Nat) (u:Value):a.grownBy (w.setCell ⟨g,i,none⟩ u) (some g) :=
 ⟨h.os,h.tape,h.output,by simpa[World.setCell] using h.size,fun k hk hne=>(Below.heap_setCell w _ u k (fun e=>hne (by rw[e]))).trans (h.block k hk hne)⟩
theorem only_drew2{a w:World} {g:Nat} (h:a.grownBy w (some g)) (n:Nat):a.grownBy (w.drewN n) (some g):=⟨h.os,h.tape,h.output,h.size,h.block⟩
theorem only_refl2(w:World) (g:Nat):w.grownBy w (some g):=⟨rfl,rfl,rfl,Nat.le_refl _,fun _ _ _=>rfl⟩
theorem next_any(g:Nat) (vl:Value) (xs:List Int) (I:Nat) (n:Int) (w:World) (R:Nat→Prop) (hT:TapeB w g vl I) (hx:IntS w R vl xs) (hI:I≤4611686018427387904) (hn:I64 n) :
  Calls Tryz.prog 18 #[.pointer (some ⟨g,0,none⟩),.int .i64 n] w fun e w'=>e=.returned (.int .i64 (within (tapeX xs I) n))∧TapeB w' g vl (I+1)∧w.grownBy w' (some g):=by
 obtain⟨c0,c1,f1,hg⟩:=hT.cells
 obtain⟨g0,g1⟩:=hn
 obtain⟨A,c,rfl,-,hm⟩:∃A c,vl=.slice A xs.length c∧xs.length≤c∧xs.length≤maxLen:=by
  obtain⟨⟨A',c',e,h1,h2,h3⟩,h4⟩:=hx
  exact⟨A',c',e,h1,h2⟩
 unfold maxLen at hm
 have hT2:=heap_setCell_same w g 1 _ _ (.int .i64 ((I+1:Nat):Int)) hT
 have e1:(((I+1:Nat):Int))=(I:Int)+1:=by omega
 rw[e1] at hT2
 have HT2:=zh hT2
 have i0:(0:Int)≤(I:Int):=by omega
 by_cases hlt:I<xs.length
 ·have hx0:tapeX xs I=xs[I]:=dif_pos hlt
  obtain⟨b,off,hA,hc,h64⟩:∃b off,A=some ⟨b,off,none⟩∧w.cell? ⟨b,off+I,none⟩=some (.int .i64 xs[I])∧I64 xs[I]:=by
   obtain⟨⟨A',c',e,_,_,h3⟩,h4⟩:=hx
   obtain⟨b,off,e2,hb,hc⟩:=h3 (by omega)
   injection e with e
   exact⟨b,off,e.trans e2,hc I _ (List.getElem?_eq_getElem hlt),h4 _ (List.getElem_mem hlt)⟩
  subst hA
  rw[hx0]
  obtain⟨x,hxx⟩:=zx (xs[I])
  rw[←hxx] at hc h64 ⊢
  obtain⟨h0,h1⟩:=h64
  have il:(I:Int)<(xs.length:Int):=by omega
  clear hx0 hxx hT hx e1 hT2
  go_enter Tryz.func18,Tryz.ntmps18
  go_wp2_with fail
  go_quiet (fail)
  go_wp2_with fail
  go_quiet (fail)
  go_wp2
  ·go_ret
   exact⟨ret_int (within_small _ _ (by assumption)).symm,HT2.out,only_set2 (only_drew2 (only_refl2 w g) _) 1 _⟩
  ·go_ret
   have hn:1≤n:=by assumption
   have h:=tmod_neg hn (by assumption)
   refine⟨ret_int ?_,HT2.out,only_set2 (only_drew2 (only_refl2 w g) _) 1 _⟩
   show wrap64 _=_
   rw[IntWalk.wrap64_in _ (by omega),h.1]
   unfold within;rw[if_neg (by omega)]
  ·go_ret
   have hn:1≤n:=by assumption
   refine⟨ret_int ?_,HT2.out,only_set2 (only_drew2 (only_refl2 w g) _) 1 _⟩
   show Int.tmod _ _=_
   rw[tmod_pos hn (by assumption)]
   unfold within;rw[if_neg (by omega)]
 ·have hx0:tapeX xs I=(I:Int) % 3:=dif_neg hlt
  rw[hx0]
  obtain⟨x,hxx⟩:=zx ((I:Int) % 3)
  rw[←hxx]
  have HXX:=zh hxx
  have il:¬(I:Int)<(xs.length:Int):=by omega
  clear hx0 hxx hT hx e1 hT2
  go_enter Tryz.func18,Tryz.ntmps18
  go_wp2_with fail
  go_quiet (fail)
  go_wp2
  ·go_ret
   exact⟨ret_int (within_small _ _ (by assumption)).symm,HT2.out,only_set2 (only_drew2 (only_refl2 w g) _) 1 _⟩
  ·go_ret
   have hn:1≤n:=by assumption
   refine⟨ret_int ?_,HT2.out,only_set2 (only_drew2 (only_refl2 w g) _) 1 _⟩
   rw[HXX.out]
   unfold within;rw[if_neg (by omega)]
end Go.Proofs.YtmehadfhcdpfcaaGreat

namespace Go.Proofs.YtmehadfhcdpfcaaGreat
open Go.RowKit
set_option linter.unusedVariables false
set_option linter.unusedSimpArgs false
def OwnF(w:World) (base:Nat) (v:Value) (t:Mat):Prop:=∃xs,w.ownsRow base 88 1 v t.length xs∧∀j,j<t.length→ByS w (fun b=>base≤b∧b<w.heap.size∧v.ownBlock≠some b) (xs.getD j undef) (t.getD j [])
theorem OwnF.nil(w:World) (base:Nat):OwnF w base (.slice none 0 0) []:=⟨[],World.ownsRow_nil _ _ _ _,fun j hj=>by cases hj⟩
theorem OwnF.form{w:World} {base:Nat} {v:Value} {t:Mat} (h:OwnF w base v t):∃A c,v=.slice A t.length c:=by
 obtain⟨xs,ho,-⟩:=h
 exact own_form ho
theorem OwnF.grown{w w2:World} {base g:Nat} {v:Value} {t:Mat} (h:OwnF w base v t) (hg:w.grownBy w2 (some g)) (hgb:g<base):OwnF w2 base v t:=by
 obtain⟨xs,ho,hc⟩:=h
 refine⟨xs,ho.kept hg ?_,fun j hj=>((hc j hj).keep (fun b hbb=>hg.block b hbb.2.1 (fun e=>by injection e with e;omega))).mono (fun b hbb=>⟨hbb.1,Nat.lt_of_lt_of_le hbb.2.1 hg.size,hbb.2.2⟩)⟩
 cases hv:v.ownBlock with
 | none=>exact .inl rfl
 | some q=>exact .inr (fun e=>by injection e with e;have:=(ho.lt q hv).1;omega)
theorem OwnF.matS{w:World} {base:Nat} {v:Value} {t:Mat} (h:OwnF w base v t):MatS w (Fr base w.heap.size) v t:=by
 obtain⟨xs,ho,hc⟩:=h
 have hxl:xs.length=t.length:=by have:=ho.1;omega
 rcases ho.2 with ⟨rfl,h0⟩ | ⟨g,cap,cur,rfl,hg0,hg1,h2,h3,hg2⟩
 ·unfold MatS;rw[h0];exact Row.nil _ _ _
 ·have ho':w.ownsRow base 88 1 (rowC g t.length cap) t.length xs:=ho
  refine⟨_,cap,rfl,h2,Nat.le_trans h2 h3,fun _=>⟨g,0,rfl,own_lt ho',fun k r hk=>?_⟩⟩
  have hj:k<t.length:=(List.getElem?_eq_some_iff.1 hk).1
  have hx:t[k]=r:=(List.getElem?_eq_some_iff.1 hk).2
  have h1:=hc k hj
  rw[getD_lt t [] hj,hx] at h1
  refine⟨xs.getD k undef,?_,h1.mono (fun b hb=>⟨hb.1,hb.2.1⟩)⟩
  rw[Nat.zero_add,ho.cellAt k (by omega),List.getElem?_eq_getElem (by omega),getD_lt _ _ (by omega)]
theorem OwnF.push{w w':World} {base:Nat} {v v' va:Value} {t:Mat} {r:List UInt8} {xs:List Value} (ho:w.ownsRow base 88 1 v t.length xs) (hc:∀j,j<t.length→ByS w (fun b=>base≤b∧b<w.heap.size∧v.ownBlock≠some b) (xs.getD j undef) (t.getD j []))
  (ha:ByS w (fun b=>base≤b∧b<w.heap.size∧v.ownBlock≠some b) va r)
  (ho':w'.ownsRow base 88 1 v' (t.length+1) (xs++[va])) (hg:w.grownBy w' v.ownBlock) (hat:v'.ownBlock=v.ownBlock∨v'.ownBlock=some (w.heap.size+1)):OwnF w' base v' (t++[r]):=by
 have hxl:xs.length=t.length:=by have:=ho.1;omega
 have hR:∀b,(base≤b∧b<w.heap.size∧v.ownBlock≠some b)→(base≤b∧b<w'.heap.size∧v'.ownBlock≠some b):=fun b hb=>⟨hb.1,Nat.lt_of_lt_of_le hb.2.1 hg.size,by
  rcases hat with e | e
  ·rw[e];exact hb.2.2
  ·rw[e];intro e2;injection e2 with e2;have:=hb.2.1;omega⟩
 have hkp:Kept (fun b=>base≤b∧b<w.heap.size∧v.ownBlock≠some b) w w':=fun b hb=>hg.block b hb.2.1 (fun e=>hb.2.2 e.symm)
 refine⟨xs++[va],by rw[List.length_append];exact ho',fun j hj=>?_⟩
 rw[List.length_append,List.length_singleton] at hj
 by_cases h1:j<t.length
 ·rw[getD_append_lt _ _ _ (by omega),getD_append_lt _ _ _ h1]
  exact((hc j h1).keep hkp).mono hR
 ·have h2:j=t.length:=by omega
  rw[h2,getD_last _ _ _ _ hxl,getD_last _ _ _ _ rfl]
  exact(ha.keep hkp).mono hR
theorem grown_trans{a b c:World} {g:Nat} (h:a.grownBy b (some g)) (k:b.grownBy c (some g)):a.grownBy c (some g) :=
 ⟨k.os.trans h.os,k.tape.trans h.tape,k.output.trans h.output,Nat.le_trans h.size k.size,fun i hi hne=>(k.block i (Nat.lt_of_lt_of_le hi h.size) hne).trans (h.block i hi hne)⟩
end Go.Proofs.YtmehadfhcdpfcaaGreat

namespace Go.Proofs.YtmehadfhcdpfcaaGreat
open Go.RowKit
set_option linter.unusedVariables false
set_option linter.unusedSimpArgs false
theorem MatS.take{w:World} {R:Nat→Prop} {A:Option Addr} {n c:Nat} {t:Mat} (h:MatS w R (.slice A n c) t) (k:Nat) (hk:k≤t.length):MatS w R (.slice A k k) (t.take k):=by
 obtain⟨A',c',e,h1,h2,h3⟩:=h
 have htl:(t.take k).length=k:=by rw[List.length_take];omega
 refine⟨A,k,by rw[htl],by omega,by omega,fun h0=>?_⟩
 obtain⟨b,off,e2,hb,hc⟩:=h3 (by omega)
 injection e with e
 exact⟨b,off,e.trans e2,hb,fun j r hj=>hc j r (by
  have hj':j<k:=by have:=(List.getElem?_eq_some_iff.1 hj).1;omega
  rwa [List.getElem?_take_of_lt hj'] at hj)⟩
end Go.Proofs.YtmehadfhcdpfcaaGreat

namespace Go.Proofs.YtmehadfhcdpfcaaGreat
open Go.RowKit
set_option linter.unusedVariables false
set_option linter.unusedSimpArgs false
def FgC(w:World) (v:Value) (hs:List Frg) (cs:List Value):Prop :=
 ∀k h,hs[k]?=some h→∃va,cs[k * 2]?=some (.int .i64 h.idx)∧cs[k * 2+1]?=some va∧ByS w (fun b=>b<w.heap.size∧v.ownBlock≠some b) va h.data
def OwnFg(w:World) (base:Nat) (v:Value) (hs:List Frg):Prop :=
 (∃cs,w.ownsRow base 124 2 v hs.length cs∧FgC w v hs cs)∧∀h∈hs,I64 h.idx
theorem OwnFg.nil(w:World) (base:Nat):OwnFg w base (.slice none 0 0) []:=⟨⟨[],World.ownsRow_nil _ _ _ _,fun k r h=>by simp at h⟩,fun r h=>by cases h⟩
theorem OwnFg.form{w:World} {base:Nat} {v:Value} {hs:List Frg} (h:OwnFg w base v hs):∃A c,v=.slice A hs.length c:=by
 obtain⟨⟨cs,ho,-⟩,-⟩:=h
 exact own_form ho
theorem OwnFg.base{w:World} {base b2:Nat} {v:Value} {hs:List Frg} (h:OwnFg w base v hs) (hb:b2≤base):OwnFg w b2 v hs:=by
 obtain⟨⟨cs,ho,hc⟩,hk⟩:=h
 exact⟨⟨cs,own_base ho hb,hc⟩,hk⟩
theorem OwnFg.below{w w2:World} {base:Nat} {v:Value} {hs:List Frg} (h:OwnFg w base v hs) (hb:Below w.heap.size w w2):OwnFg w2 base v hs:=by
 obtain⟨⟨cs,ho,hc⟩,hk⟩:=h
 refine⟨⟨cs,own_below ho hb,fun k r hr=>?_⟩,hk⟩
 obtain⟨va,h1,h2,h3⟩:=hc k r hr
 exact⟨va,h1,h2,(h3.keep (fun b hbb=>hb.block b hbb.1)).mono (fun b hbb=>⟨Nat.lt_of_lt_of_le hbb.1 hb.size,hbb.2⟩)⟩
theorem OwnFg.push{w w':World} {base:Nat} {v v' va:Value} {hs:List Frg} {cs:List Value} {h:Frg} (hk:∀h∈hs,I64 h.idx)
  (hc:FgC w v hs cs) (ho:w.ownsRow base 124 2 v hs.length cs) (hr:I64 h.idx) (ha:ByS w (fun b=>b<w.heap.size∧v.ownBlock≠some b) va h.data)
  (ho':w'.ownsRow base 124 2 v' (hs.length+1) (cs++[.int .i64 h.idx,va])) (hg:w.grownBy w' v.ownBlock) (hat:v'.ownBlock=v.ownBlock∨v'.ownBlock=some (w.heap.size+1)):OwnFg w' base v' (hs++[h]):=by
 have hR:∀b,(b<w.heap.size∧v.ownBlock≠some b)→(b<w'.heap.size∧v'.ownBlock≠some b):=fun b hb=>⟨Nat.lt_of_lt_of_le hb.1 hg.size,by
  rcases hat with e | e
  ·rw[e];exact hb.2
  ·rw[e];intro e2;injection e2 with e2;have:=hb.1;omega⟩
 have hkp:Kept (fun b=>b<w.heap.size∧v.ownBlock≠some b) w w':=fun b hb=>hg.block b hb.1 (fun e=>hb.2 e.symm)
 have hl:cs.length=hs.length * 2:=ho.1
 refine⟨⟨_,by rw[List.length_append];exact ho',fun k x hx=>?_⟩,fun x hx=>?_⟩
 ·rcases Nat.lt_or_ge k hs.length with hlt | hge
  ·rw[List.getElem?_append_left hlt] at hx
   obtain⟨vb,h1,h2,h3⟩:=hc k x hx
   exact⟨vb,by rw[List.getElem?_append_left (by omega)];exact h1,by rw[List.getElem?_append_left (by omega)];exact h2,(h3.keep hkp).mono hR⟩
  ·rw[List.getElem?_append_right hge] at hx
   have hk0:k - hs.length=0:=by
    rcases Nat.eq_zero_or_pos (k - hs.length) with h0 | h0
    ·exact h0
    ·rw[List.getElem?_eq_none (by simp;omega)] at hx;cases hx
   rw[hk0] at hx
   simp at hx
   subst hx
   have hke:k=hs.length:=by omega
   subst hke
   exact⟨va,by rw[List.getElem?_append_right (by omega),hl];simp,by rw[List.getElem?_append_right (by omega),hl];simp,(ha.keep hkp).mono hR⟩
 ·rcases List.mem_append.1 hx with h | h
  ·exact hk x h
  ·rw[List.mem_singleton.1 h];exact hr
end Go.Proofs.YtmehadfhcdpfcaaGreat

namespace Go.Proofs.YtmehadfhcdpfcaaGreat
open Go.RowKit
set_option linter.unusedVariables false
end Go.Proofs.YtmehadfhcdpfcaaGreat

namespace Go.Proofs.YtmehadfhcdpfcaaGreat
open Go.RowKit
set_option linter.unusedVariables false
set_option linter.unusedSimpArgs false
theorem FragS.same{w:World} {R R':Nat→Prop} {v:Value} {hs:List Frg} (h:FragS w R v hs) (hr:∀b,R b→R' b):FragS w R' v hs:=h.mono hr
end Go.Proofs.YtmehadfhcdpfcaaGreat
