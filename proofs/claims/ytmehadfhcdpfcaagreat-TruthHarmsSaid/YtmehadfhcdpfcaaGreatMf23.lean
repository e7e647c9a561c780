/- The stripes that are lost or unavailable: the reference, walked. -/
import Derived.Test.YtmehadfhcdpfcaaGreatMf19
import Derived.Test.YtmehadfhcdpfcaaGreatMf22
import Derived.Test.YtmehadfhcdpfcaaGreatMf01
import Derived.Test.YtmehadfhcdpfcaaGreatMf08
set_option maxRecDepth 100000
set_option maxHeartbeats 12800000
namespace Go.Proofs.YtmehadfhcdpfcaaGreat
open Go.RowKit
set_option linter.unusedVariables false
set_option linter.unusedSimpArgs false
theorem rvalidate_any(N:Nat) (hN:N≤12) (vl vm vd vv vp vo:Value) (F:FltM) (w:World) (hf:FleetS w (Bl w.heap.size) vl vm vd vv vp vo F) (hok:FleetOk N F) :
  Calls Tryz.prog 44 #[.agg #[.int .i64 F.ext,vl,vm,vd,vv,vp,vo]] w fun e w'=>e=.returned (.int .i64 0)∧Below w.heap.size w w':=by
 obtain⟨W0,hW0⟩:=zx (w.alloc (.cells #[.int .i64 F.ext,vl,vm,vd,vv,vp,vo] 37))
 obtain⟨z,hz⟩:=zx w.heap.size
 have hb0:Below w.heap.size w W0:=by rw[hW0];exact(Below.refl _ _).alloc (Nat.le_refl _) _
 have hzk:W0.heap[z]?=some (.cells #[.int .i64 F.ext,vl,vm,vd,vv,vp,vo] 37 (0,0)):=by rw[hW0,hz];exact heap_alloc_new _ _
 obtain⟨c0,c1,c2,c3,c4,c5,c6⟩:=cells7 hzk
 have HV:=zh (rvalidf_any N hN vl vm vd vv vp vo F W0 (hf.below hb0) hok)
 have HW0:=zh hW0
 have HZ:=zh hz
 have HB0:=zh hb0
 obtain⟨EX,hEX⟩:=zx F.ext
 rw[←hEX] at HV HW0 c0 ⊢
 clear hf hok hW0 hz hb0 hzk hEX
 go_enter Tryz.func44,Tryz.ntmps44
 go_wp2_with fail
 rw[←HW0.out]
 refine HV.out.mono ?_
 rintro e w1 ⟨rfl,hb1⟩
 have HB1:=zh hb1
 clear c0 c1 c2 c3 c4 c5 c6 hb1
 go_wp2_with fail
 go_ret
 exact⟨rfl,HB0.out.trans (HB1.out.mono HB0.out.size)⟩
def HeldY(W0:World) (z y:Nat) (a b c d e f g p q r:Value) (w':World):Prop :=
 w'.cell? ⟨z,0,none⟩=some a∧w'.cell? ⟨z,1,none⟩=some b∧w'.cell? ⟨z,2,none⟩=some c∧w'.cell? ⟨z,3,none⟩=some d∧w'.cell? ⟨z,4,none⟩=some e∧w'.cell? ⟨z,5,none⟩=some f∧w'.cell? ⟨z,6,none⟩=some g ∧
 w'.cell? ⟨y,0,none⟩=some p∧w'.cell? ⟨y,1,none⟩=some q∧w'.cell? ⟨y,2,none⟩=some r∧Below W0.heap.size W0 w'
theorem HeldY.bl{W0 wc:World} {z y:Nat} {a b c d e f g p q r:Value} (h:HeldY W0 z y a b c d e f g p q r wc):Below W0.heap.size W0 wc:=h.2.2.2.2.2.2.2.2.2.2
theorem HeldY.below{W0 wc w2:World} {z y:Nat} {a b c d e f g p q r:Value} (h:HeldY W0 z y a b c d e f g p q r wc) (hb:Below wc.heap.size wc w2) (h1:z<W0.heap.size) (h2:y<W0.heap.size):HeldY W0 z y a b c d e f g p q r w2:=by
 have hs:=h.bl.size
 have hB:=h.bl
 obtain⟨c0,c1,c2,c3,c4,c5,c6,d0,d1,d2,-⟩:=h
 have k:∀i,w2.cell? ⟨z,i,none⟩=wc.cell? ⟨z,i,none⟩:=fun i=>hb.cell (p:=⟨z,i,none⟩) (Nat.lt_of_lt_of_le h1 hs)
 have k':∀i,w2.cell? ⟨y,i,none⟩=wc.cell? ⟨y,i,none⟩:=fun i=>hb.cell (p:=⟨y,i,none⟩) (Nat.lt_of_lt_of_le h2 hs)
 exact⟨(k _).trans c0,(k _).trans c1,(k _).trans c2,(k _).trans c3,(k _).trans c4,(k _).trans c5,(k _).trans c6,(k' _).trans d0,(k' _).trans d1,(k' _).trans d2,hB.trans (hb.mono hs)⟩
theorem HeldY.start{W0 wz:World} {z y:Nat} {a b c d e f g p q r:Value} (h:HeldY W0 z y a b c d e f g p q r wz):HeldY wz z y a b c d e f g p q r wz.drew:=by
 obtain⟨c0,c1,c2,c3,c4,c5,c6,d0,d1,d2,-⟩:=h
 exact⟨c0,c1,c2,c3,c4,c5,c6,d0,d1,d2,(Below.refl _ _).drew⟩
theorem fvalidate_empty(w:World):Calls Tryz.prog 37 #[.agg #[.int .i64 0,.slice none 0 0,.slice none 0 0,.slice none 0 0,.slice none 0 0,.slice none 0 0,.slice none 0 0]] w fun e w'=>e=.returned (.int .i64 1)∧Below w.heap.size w w':=by
 have HI:=zh (fun w=>fin_any 0 1 4 w)
 rw[decide_eq_false (show ¬((1:Int)≤0∧(0:Int)≤4) by omega)] at HI
 go_enter Tryz.func37,Tryz.ntmps37
 go_wp2_with fail
 refine(HI.out _).mono ?_
 rintro e w1 ⟨rfl,rfl⟩
 go_wp2_with fail
 go_ret
 exact⟨rfl,(Below.refl _ _).alloc (Nat.le_refl _) _⟩
theorem isStripe_no(ext:Int) (vl vm vd vv vp:Value) (A:Option Addr) (NO co:Nat) (v s:Int) (w:World) (hn:¬(0≤v∧v<(NO:Int)∧0≤s∧s<ext)) :
  Calls Tryz.prog 39 #[.agg #[.int .i64 ext,vl,vm,vd,vv,vp,.slice A NO co],.int .i64 v,.int .i64 s] w fun e w'=>e=.returned (.bool false)∧Below w.heap.size w w':=by
 by_cases h1:0≤v
 ·have f1:decide (0≤v)=true:=decide_eq_true h1
  by_cases h2:v<(NO:Int)
  ·have f2:decide (v<(NO:Int))=true:=decide_eq_true h2
   by_cases h3:0≤s
   ·have f3:decide (0≤s)=true:=decide_eq_true h3
    have f4:decide (s<ext)=false:=decide_eq_false (fun h4=>hn ⟨h1,h2,h3,h4⟩)
    clear h1 h2 h3 hn
    go_enter Tryz.func39,Tryz.ntmps39
    go_wp2_with fail
    go_ret
    exact⟨rfl,(Below.refl _ _).alloc (Nat.le_refl _) _⟩
   ·have f3:decide (0≤s)=false:=decide_eq_false h3
    clear h1 h2 h3 hn
    go_enter Tryz.func39,Tryz.ntmps39
    go_wp2_with fail
    go_ret
    exact⟨rfl,(Below.refl _ _).alloc (Nat.le_refl _) _⟩
  ·have f2:decide (v<(NO:Int))=false:=decide_eq_false h2
   clear h1 h2 hn
   go_enter Tryz.func39,Tryz.ntmps39
   go_wp2_with fail
   go_ret
   exact⟨rfl,(Below.refl _ _).alloc (Nat.le_refl _) _⟩
 ·have f1:decide (0≤v)=false:=decide_eq_false h1
  clear h1 hn
  go_enter Tryz.func39,Tryz.ntmps39
  go_wp2_with fail
  go_ret
  exact⟨rfl,(Below.refl _ _).alloc (Nat.le_refl _) _⟩
theorem has_any(v:Value) (xs:List Int) (x:Int) (R:Nat→Prop) (w:World) (h:IntS w R v xs) :
  Calls Tryz.prog 50 #[v,.int .i64 x] w fun e w'=>e=.returned (.bool (decide (x∈xs)))∧w=w':=by
 obtain⟨A,c,rfl,-,hm⟩:=h.form7
 unfold maxLen at hm
 have HS:=zh h
 obtain⟨L,hL⟩:=zx xs.length
 rw[←hL] at HS hm ⊢
 have HL:=zh hL
 clear h hL
 go_enter Tryz.func50,Tryz.ntmps50
 go_wp2_with fail
 go_loopg [5] L (fun z v5 wr=>w=wr∧∃j:Nat,j≤L∧z=L - j∧v5=.int .i64 (j:Int)∧Hid (x∉xs.take j))
 case atStart=>exact⟨rfl,0,by omega,rfl,rfl,fun h=>nomatch h⟩
 case round =>
  obtain⟨rfl,j,hj,rfl,rfl,HNO⟩:=hrel
  by_cases hlt:j<L
  ·have hjl:j<xs.length:=by rw[←HL.out];exact hlt
   obtain⟨b,off,rfl,-,hc,-⟩:=HS.out.at7 (k:=j) hjl
   have htk:xs.take (j+1)=xs.take j++[xs[j]]:=List.take_succ_eq_append_getElem hjl
   have hmem:xs[j]∈xs:=List.getElem_mem hjl
   obtain⟨y,hy⟩:=zx (xs[j])
   rw[←hy] at hc htk hmem
   have HTK:=zh htk
   have HM:=zh hmem
   by_cases hyx:y=x
   ·have h1:(y==x)=true:=by rw[hyx];simp
    have HYX:=zh hyx
    clear hy htk hmem hyx hjl
    go_wp2_with fail
    go_ret
    exact⟨by rw[decide_eq_true (by rw[←HYX.out];exact HM.out)];rfl,rfl⟩
   ·have h1:(y==x)=false:=by simpa using hyx
    have HYX:=zh hyx
    clear hy htk hmem hyx hjl
    go_wp2_with fail
    go_roundg (L - (j+1))
    case measure=>omega
    case rel =>
     refine⟨rfl,j+1,by omega,rfl,by go_num,?_⟩
     rw[HTK.out]
     intro hin
     rcases List.mem_append.1 hin with h2 | h2
     ·exact HNO.out h2
     ·exact HYX.out (List.mem_singleton.1 h2).symm
  ·obtain rfl:L=j:=by omega
   go_wp2_with fail
   go_ret
   refine⟨?_,rfl⟩
   have h2:=HNO.out
   rw[List.take_of_length_le (by rw[HL.out];exact Nat.le_refl _)] at h2
   rw[decide_eq_false h2];rfl
def ackB(v s:Int) (a:Ac):Bool:=a.vol==v&&a.stripe==s
def idxA(l:List Ac) (v s:Int):Int:=match l.findIdx? (ackB v s) with | some j=>(j:Int) | none => -1
theorem idxA_hit{l:List Ac} {v s:Int} {j:Nat} (hn:∀t (h:t<l.length),t<j→ackB v s l[t]=false) (hj:j<l.length) (hb:ackB v s l[j]=true):idxA l v s=(j:Int):=by
 unfold idxA
 have:l.findIdx? (ackB v s)=some j:=by
  rw[List.findIdx?_eq_some_iff_getElem]
  exact⟨hj,hb,fun t ht=>by rw[hn t (by omega) ht];simp⟩
 rw[this]
theorem idxA_miss{l:List Ac} {v s:Int} (hn:∀t (h:t<l.length),ackB v s l[t]=false):idxA l v s = -1:=by
 unfold idxA
 have:l.findIdx? (ackB v s)=none:=by
  rw[List.findIdx?_eq_none_iff]
  intro x hx
  obtain⟨t,ht,rfl⟩:=List.getElem_of_mem hx
  exact hn t ht
 rw[this]
theorem idxA_cases(l:List Ac) (v s:Int):(idxA l v s = -1∧verOf l v s=none)∨∃(j:Nat) (hj:j<l.length),idxA l v s=(j:Int)∧verOf l v s=some l[j].ver:=by
 unfold idxA verOf
 cases h:l.findIdx? (ackB v s) with
 | none =>
  left
  refine⟨rfl,?_⟩
  rw[List.findIdx?_eq_none_iff] at h
  have:l.find? (fun a=>a.vol==v&&a.stripe==s)=none:=by
   rw[List.find?_eq_none]
   intro x hx
   have:=h x hx
   unfold ackB at this
   simpa using this
  rw[this];rfl
 | some j =>
  right
  rw[List.findIdx?_eq_some_iff_getElem] at h
  obtain⟨hj,hb,hn⟩:=h
  refine⟨j,hj,rfl,?_⟩
  have:l.find? (fun a=>a.vol==v&&a.stripe==s)=some l[j]:=by
   rw[List.find?_eq_some_iff_getElem]
   exact⟨hb,j,hj,rfl,fun t ht=>by
    have h3:(l[t].vol==v&&l[t].stripe==s)=false:=by have:=hn t ht;unfold ackB at this;simpa using this
    rw[h3];rfl⟩
  rw[this];rfl
theorem ack1_any(b0 b1 b2 b3 v s:Int) (g:Nat) (w:World) (h0:w.cell? ⟨g,0,none⟩=some (.int .i64 v)) (h1:w.cell? ⟨g,1,none⟩=some (.int .i64 s)) :
  Calls Tryz.prog 41 #[.agg #[.int .i64 b0,.int .i64 b1,.int .i64 b2,.int .i64 b3],.pointer (some ⟨g,0,none⟩)] w fun e w'=>e=.returned (.bool (b0==v&&b1==s))∧Below w.heap.size w w':=by
 obtain⟨W0,hW0⟩:=zx (w.alloc (.cells #[.int .i64 b0,.int .i64 b1,.int .i64 b2,.int .i64 b3] 53))
 obtain⟨q,hq⟩:=zx w.heap.size
 have hb0:Below w.heap.size w W0:=by rw[hW0];exact(Below.refl _ _).alloc (Nat.le_refl _) _
 have n0:W0.cell? ⟨q,0,none⟩=some (.int .i64 b0):=by rw[hW0,hq];simp
 have n1:W0.cell? ⟨q,1,none⟩=some (.int .i64 b1):=by rw[hW0,hq];simp
 have mv:∀b o x,w.cell? ⟨b,o,none⟩=some x→W0.cell? ⟨b,o,none⟩=some x:=fun b o x hx=>(hb0.cell (p:=⟨b,o,none⟩) (World.block_lt_of_cell? w _ hx)).trans hx
 have k0:=mv _ _ _ h0
 have k1:=mv _ _ _ h1
 have HW0:=zh hW0
 have HG:=zh hq
 have HB0:=zh hb0
 clear h0 h1 hW0 hq hb0 mv
 cases hc:(b0==v) with
 | false =>
  go_enter Tryz.func41,Tryz.ntmps41
  go_upto_region 1 with fail
  rw[←HW0.out,←HG.out]
  go_wp2_with fail
  go_ret
  exact⟨rfl,HB0.out⟩
 | true =>
  cases hd:(b1==s) with
  | false =>
   go_enter Tryz.func41,Tryz.ntmps41
   go_upto_region 1 with fail
   rw[←HW0.out,←HG.out]
   go_wp2_with fail
   go_ret
   exact⟨rfl,HB0.out⟩
  | true =>
   go_enter Tryz.func41,Tryz.ntmps41
   go_upto_region 1 with fail
   rw[←HW0.out,←HG.out]
   go_wp2_with fail
   go_ret
   exact⟨rfl,HB0.out⟩
theorem indexa_any(vl:Value) (l:List Ac) (v s:Int) (g:Nat) (w:World) (hl:SlS 4 AcK w (Bl w.heap.size) vl l) (h0:w.cell? ⟨g,0,none⟩=some (.int .i64 v)) (h1:w.cell? ⟨g,1,none⟩=some (.int .i64 s)) :
  Calls Tryz.prog 40 #[vl,.func (.func 41) #[] #[.pointer (some ⟨g,0,none⟩)]] w fun e w'=>e=.returned (.int .i64 (idxA l v s))∧Below w.heap.size w w':=by
 obtain⟨A,c,rfl,-,hm⟩:=hl.form
 unfold maxLen at hm
 have HL:=zh hl
 have mv:=fun(w':World) (hb:Below w.heap.size w w') b o x (hx:w.cell? ⟨b,o,none⟩=some x)=>(hb.cell (p:=⟨b,o,none⟩) (World.block_lt_of_cell? w _ hx)).trans hx
 have HCL:=zh (fun(w':World) (hb:Below w.heap.size w w') b0 b1 b2 b3=>ack1_any b0 b1 b2 b3 v s g w' (mv w' hb _ _ _ h0) (mv w' hb _ _ _ h1))
 obtain⟨L,hL⟩:=zx l.length
 rw[←hL] at HL hm ⊢
 have HLL:=zh hL
 clear hl h0 h1 mv hL
 go_enter Tryz.func40,Tryz.ntmps40
 go_wp2_with fail
 go_loopg [8] L (fun z v8 wr=>∃j:Nat,j≤L∧z=L - j∧v8=.int .i64 (j:Int)∧Hid (∀t (h:t<l.length),t<j→ackB v s l[t]=false)∧Hid (Below w.heap.size w wr))
 case atStart=>exact⟨0,by omega,rfl,rfl,fun t _ ht=>absurd ht (Nat.not_lt_zero t),Below.refl _ _⟩
 case round =>
  obtain⟨j,hj,rfl,rfl,HNO,HBR⟩:=hrel
  by_cases hlt:j<L
  ·have hjl:j<l.length:=by rw[←HLL.out];exact hlt
   obtain⟨b,off,cs,rfl,hRb,-,hcs,hfk,-⟩:=HL.out.at_ (k:=j) hjl
   have hsv:ackB v s l[j]=(l[j].vol==v&&l[j].stripe==s):=rfl
   obtain⟨x,hx⟩:=zx (l[j])
   rw[←hx] at hfk hsv
   have HX:=zh hx
   subst hfk
   have kk:∀i u,w.cell? ⟨b,i,none⟩=some u→wr.cell? ⟨b,i,none⟩=some u:=fun i u e=>(HBR.out.cell (p:=⟨b,i,none⟩) hRb).trans e
   obtain⟨b0,b1,b2,b3⟩:=x
   simp only at hcs hsv
   obtain⟨d0,d1,d2,d3⟩:=four hcs rfl
   have m0:=kk _ _ d0
   have m1:=kk _ _ d1
   have m2:=kk _ _ d2
   have m3:=kk _ _ d3
   have HC:=zh (HCL.out wr HBR.out b0 b1 b2 b3)
   obtain⟨sb,hsb⟩:=zx ((b0==v&&b1==s))
   rw[←hsb] at HC hsv
   have HSV:=zh hsv
   clear hcs hsv hx kk hsb hRb d0 d1 d2 d3
   go_wp2_with fail
   refine HC.out.mono ?_
   rintro e w1 ⟨rfl,hb1⟩
   have HB1:=zh (HBR.out.trans (hb1.mono HBR.out.size))
   clear hb1 m0 m1 m2 m3
   cases hs:sb with
   | true =>
    have HS:=zh hs
    go_wp2_with fail
    go_ret
    refine⟨?_,HB1.out⟩
    have hjl:j<l.length:=by rw[←HLL.out];exact hlt
    rw[idxA_hit HNO.out hjl (by rw[←HX.out,HSV.out];exact HS.out)]
    rfl
   | false =>
    have HS:=zh hs
    go_wp2_with fail
    go_roundg (L - (j+1))
    case measure=>omega
    case rel =>
     refine⟨j+1,by omega,rfl,by go_num,?_,HB1.out⟩
     intro t ht htj
     rcases Nat.lt_or_ge t j with h1 | h1
     ·exact HNO.out t ht h1
     ·obtain rfl:t=j:=by omega
      rw[←HX.out,HSV.out];exact HS.out
  ·obtain rfl:L=j:=by omega
   go_wp2_with fail
   go_ret
   refine⟨?_,HBR.out⟩
   rw[idxA_miss (fun t ht=>HNO.out t ht (by rw[HLL.out];exact ht))]
   rfl
def harmC(F:FltM) (b a:Re) (v s:Nat):Bool :=
 match verOf b.acks (v:Int) (s:Int) with
 | none=>true
 | some x=>if verOf a.acks (v:Int) (s:Int)=some x then(intI b (v:Int) (s:Int) false).all (fun i=>decide (i∈intI a (v:Int) (s:Int) false)) else decide (qOf F v≤cntI a v s false (kOf F v+mOf F v))
def harmP(F:FltM) (b a:Re) (x:Nat×Nat):Bool:=harmC F b a x.1 x.2
def harmB(F:FltM) (b a:Re) (ext NV:Nat):Bool:=(keysTo ext NV 0).all (harmP F b a)
theorem harm_none{F:FltM} {b a:Re} {v s:Nat} (h:verOf b.acks (v:Int) (s:Int)=none):harmC F b a v s=true:=by unfold harmC;rw[h]
theorem harm_new{F:FltM} {b a:Re} {v s:Nat} {x:Int} (h:verOf b.acks (v:Int) (s:Int)=some x) (h2:verOf a.acks (v:Int) (s:Int)≠some x):harmC F b a v s=decide (qOf F v≤cntI a v s false (kOf F v+mOf F v)):=by
 unfold harmC;rw[h];simp only;rw[if_neg h2]
theorem harm_old{F:FltM} {b a:Re} {v s:Nat} {x:Int} (h:verOf b.acks (v:Int) (s:Int)=some x) (h2:verOf a.acks (v:Int) (s:Int)=some x):harmC F b a v s=(intI b (v:Int) (s:Int) false).all (fun i=>decide (i∈intI a (v:Int) (s:Int) false)):=by
 unfold harmC;rw[h];simp only;rw[if_pos h2]
theorem in_keysTo{ext NV v s:Nat} (hv:v<NV) (hs:s<ext):(v,s)∈keysTo ext NV 0:=by
 unfold keysTo
 rw[List.mem_append]
 left
 rw[List.mem_flatMap]
 exact⟨v,by simpa using hv,by rw[List.mem_map];exact⟨s,by simpa using hs,rfl⟩⟩
theorem harm_false{F:FltM} {b a:Re} {ext NV v s:Nat} (hv:v<NV) (hs:s<ext) (h:harmC F b a v s=false):harmB F b a ext NV=false:=by
 unfold harmB
 rw[List.all_eq_false]
 exact⟨(v,s),in_keysTo hv hs,by unfold harmP;simp only;rw[h];decide⟩
theorem harm_true{F:FltM} {b a:Re} {ext NV:Nat} (h:∀v s,v<NV→s<ext→harmC F b a v s=true):harmB F b a ext NV=true:=by
 unfold harmB
 rw[List.all_eq_true]
 intro x hx
 obtain⟨v,s⟩:=x
 have:=keysTo_mem hx
 exact h v s this.1 this.2
theorem harm_self(F:FltM) (r:Re) (ext NV:Nat):harmB F r r ext NV=true:=harm_true fun v s _ _=>by
 cases h:verOf r.acks (v:Int) (s:Int) with
 | none=>exact harm_none h
 | some x =>
  rw[harm_old h h,List.all_eq_true]
  intro i hi
  exact decide_eq_true hi
def seenF(ext NV:Nat) (l:List Ac):Int→Int→Option Value:=fun x y=>if(verOf l x y).isSome=true∧(0≤x∧x<(NV:Int)∧0≤y∧y<(ext:Int)) then some (.bool true) else none
theorem verOf_snoc(l:List Ac) (j:Nat) (hj:j<l.length) (x y:Int):(verOf (l.take (j+1)) x y).isSome=true↔(verOf (l.take j) x y).isSome=true∨(l[j].vol=x∧l[j].stripe=y):=by
 by_cases h:(verOf (l.take j) x y).isSome=true
 ·rw[verOf_have hj h];simp[h]
 ·have hn:verOf (l.take j) x y=none:=by simpa using h
  by_cases h2:l[j].vol=x∧l[j].stripe=y
  ·obtain⟨rfl,rfl⟩:=h2
   rw[verOf_new hj hn];simp
  ·rw[verOf_take hn hj h2];simp[h2,hn]
theorem seen_skip{ext NV:Nat} {l:List Ac} {j:Nat} (hj:j<l.length) (h:(verOf (l.take j) l[j].vol l[j].stripe).isSome=true∨¬(0≤l[j].vol∧l[j].vol<(NV:Int)∧0≤l[j].stripe∧l[j].stripe<(ext:Int))):∀x y,seenF ext NV (l.take j) x y=seenF ext NV (l.take (j+1)) x y:=by
 intro x y
 unfold seenF
 congr 1
 rw[eq_iff_iff,verOf_snoc l j hj]
 constructor
 ·rintro ⟨h1,h2⟩;exact⟨.inl h1,h2⟩
 ·rintro ⟨h1 | ⟨rfl,rfl⟩,h2⟩
  ·exact⟨h1,h2⟩
  ·rcases h with h | h
   ·exact⟨h,h2⟩
   ·exact absurd h2 h
theorem seen_new{ext NV:Nat} {l:List Ac} {j:Nat} (hj:j<l.length) (h:0≤l[j].vol∧l[j].vol<(NV:Int)∧0≤l[j].stripe∧l[j].stripe<(ext:Int)):∀x y,upd (seenF ext NV (l.take j)) l[j].vol l[j].stripe (.bool true) x y=seenF ext NV (l.take (j+1)) x y:=by
 intro x y
 by_cases hxy:x=l[j].vol∧y=l[j].stripe
 ·obtain⟨rfl,rfl⟩:=hxy
  rw[upd_same]
  unfold seenF
  rw[if_pos ⟨(verOf_snoc l j hj _ _).2 (.inr ⟨rfl,rfl⟩),h⟩]
 ·rw[upd_other hxy]
  unfold seenF
  congr 1
  rw[eq_iff_iff,verOf_snoc l j hj]
  constructor
  ·rintro ⟨h1,h2⟩;exact⟨.inl h1,h2⟩
  ·rintro ⟨h1 | ⟨e1,e2⟩,h2⟩
   ·exact⟨h1,h2⟩
   ·exact absurd ⟨e1.symm,e2.symm⟩ hxy
theorem seen_at{ext NV:Nat} {l:List Ac} {x y:Int}:seenF ext NV l x y=none∨seenF ext NV l x y=some (.bool true):=by
 unfold seenF
 split
 ·exact .inr rfl
 ·exact .inl rfl
def HarmTo(F:FltM) (b a:Re) (ext NV j:Nat):Prop:=∀v s:Nat,v<NV→s<ext→(verOf (b.acks.take j) (v:Int) (s:Int)).isSome=true→harmC F b a v s=true
theorem HarmTo.skip{F:FltM} {b a:Re} {ext NV j:Nat} (h:HarmTo F b a ext NV j) (hj:j<b.acks.length) (h2:(verOf (b.acks.take j) b.acks[j].vol b.acks[j].stripe).isSome=true∨¬(0≤b.acks[j].vol∧b.acks[j].vol<(NV:Int)∧0≤b.acks[j].stripe∧b.acks[j].stripe<(ext:Int))):HarmTo F b a ext NV (j+1):=by
 intro v s hv hs hx
 rcases (verOf_snoc b.acks j hj _ _).1 hx with h1 | ⟨e1,e2⟩
 ·exact h v s hv hs h1
 ·rcases h2 with h2 | h2
  ·rw[e1,e2] at h2;exact h v s hv hs h2
  ·exact absurd (by rw[e1,e2];omega) h2
theorem HarmTo.step{F:FltM} {b a:Re} {ext NV j:Nat} (h:HarmTo F b a ext NV j) (hj:j<b.acks.length) {v s:Nat} (e1:b.acks[j].vol=(v:Int)) (e2:b.acks[j].stripe=(s:Int)) (h2:harmC F b a v s=true):HarmTo F b a ext NV (j+1):=by
 intro v' s' hv hs hx
 rcases (verOf_snoc b.acks j hj _ _).1 hx with h1 | ⟨d1,d2⟩
 ·exact h v' s' hv hs h1
 ·obtain rfl:v=v':=by rw[e1] at d1;omega
  obtain rfl:s=s':=by rw[e2] at d2;omega
  exact h2
theorem HarmTo.done{F:FltM} {b a:Re} {ext NV:Nat} (h:HarmTo F b a ext NV b.acks.length):harmB F b a ext NV=true:=harm_true fun v s hv hs=>by
 cases hx:verOf b.acks (v:Int) (s:Int) with
 | none=>exact harm_none hx
 | some x=>exact h v s hv hs (by rw[List.take_of_length_le (Nat.le_refl _),hx];rfl)
theorem int_none{r:Re} {v s:Int} (h:verOf r.acks v s=none):intI r v s false=[]:=by
 unfold intI
 rw[intTo_out r (pieces r) v s false 8 8 (by omega)]
 have:stripeP (pieces r) v s=[]:=by
  unfold stripeP
  rw[List.filter_eq_nil_iff]
  intro x hx hc
  have h1:=(piecesTo_all r r.plat.length x hx).2
  simp only[Bool.and_eq_true,beq_iff_eq] at hc
  rw[hc.1,hc.2,h] at h1
  cases h1
 rw[this]
 unfold outTo
 rw[List.filterMap_eq_nil_iff]
 intro i _
 unfold hasB
 simp
end Go.Proofs.YtmehadfhcdpfcaaGreat
