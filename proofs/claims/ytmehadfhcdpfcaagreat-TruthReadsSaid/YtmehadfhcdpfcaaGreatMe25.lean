/- The stripes that are lost or unavailable: the reference, walked. -/
import Derived.Test.YtmehadfhcdpfcaaGreatMe21
import Derived.Test.YtmehadfhcdpfcaaGreatMe24
import Derived.Test.YtmehadfhcdpfcaaGreatMe01
import Derived.Deep.AppendLies
import Derived.Deep.RegionHeld3
import Derived.Test.YtmehadfhcdpfcaaGreatMe05
import Derived.Test.YtmehadfhcdpfcaaGreatMe03
set_option maxRecDepth 100000
set_option maxHeartbeats 12800000
namespace Go.Proofs.YtmehadfhcdpfcaaGreat
open Go.RowKit
set_option linter.unusedVariables false
set_option linter.unusedSimpArgs false
theorem rvalidate_any(N:Nat) (hN:N≤12) (vl vm vd vv vp vo:Value) (F:FltM) (w:World) (hf:FleetS w (Bl w.heap.size) vl vm vd vv vp vo F) (hok:FleetOk N F) :
  Calls Tryz.prog 44 #[.agg #[.int .i64 F.ext,vl,vm,vd,vv,vp,vo]] w fun e w'=>e=.returned (.int .i64 0)∧Below w.heap.size w w':=by
 obtain⟨W0,hW0⟩:=zx (w.alloc (.cells #[.int .i64 F.ext,vl,vm,vd,vv,vp,vo] 37))
 obtain⟨z,hz⟩:=zx w.heap.size
 have hb0:Below w.heap.size w W0:=by rw[hW0];exact(Below.refl _ _).alloc (Nat.le_refl _) _
 have hzk:W0.heap[z]?=some (.cells #[.int .i64 F.ext,vl,vm,vd,vv,vp,vo] 37 (0,0)):=by rw[hW0,hz];exact heap_alloc_new _ _
 obtain⟨c0,c1,c2,c3,c4,c5,c6⟩:=cells7 hzk
 have HV:=zh (rvalidf_any N hN vl vm vd vv vp vo F W0 (hf.below hb0) hok)
 have HW0:=zh hW0
 have HZ:=zh hz
 have HB0:=zh hb0
 obtain⟨EX,hEX⟩:=zx F.ext
 rw[←hEX] at HV HW0 c0 ⊢
 clear hf hok hW0 hz hb0 hzk hEX
 go_enter Tryz.func44,Tryz.ntmps44
 go_wp2_with fail
 rw[←HW0.out]
 refine HV.out.mono ?_
 rintro e w1 ⟨rfl,hb1⟩
 have HB1:=zh hb1
 clear c0 c1 c2 c3 c4 c5 c6 hb1
 go_wp2_with fail
 go_ret
 exact⟨rfl,HB0.out.trans (HB1.out.mono HB0.out.size)⟩
def HeldY(W0:World) (z y:Nat) (a b c d e f g p q r:Value) (w':World):Prop :=
 w'.cell? ⟨z,0,none⟩=some a∧w'.cell? ⟨z,1,none⟩=some b∧w'.cell? ⟨z,2,none⟩=some c∧w'.cell? ⟨z,3,none⟩=some d∧w'.cell? ⟨z,4,none⟩=some e∧w'.cell? ⟨z,5,none⟩=some f∧w'.cell? ⟨z,6,none⟩=some g ∧
 w'.cell? ⟨y,0,none⟩=some p∧w'.cell? ⟨y,1,none⟩=some q∧w'.cell? ⟨y,2,none⟩=some r∧Below W0.heap.size W0 w'
theorem HeldY.bl{W0 wc:World} {z y:Nat} {a b c d e f g p q r:Value} (h:HeldY W0 z y a b c d e f g p q r wc):Below W0.heap.size W0 wc:=h.2.2.2.2.2.2.2.2.2.2
theorem HeldY.below{W0 wc w2:World} {z y:Nat} {a b c d e f g p q r:Value} (h:HeldY W0 z y a b c d e f g p q r wc) (hb:Below wc.heap.size wc w2) (h1:z<W0.heap.size) (h2:y<W0.heap.size):HeldY W0 z y a b c d e f g p q r w2:=by
 have hs:=h.bl.size
 have hB:=h.bl
 obtain⟨c0,c1,c2,c3,c4,c5,c6,d0,d1,d2,-⟩:=h
 have k:∀i,w2.cell? ⟨z,i,none⟩=wc.cell? ⟨z,i,none⟩:=fun i=>hb.cell (p:=⟨z,i,none⟩) (Nat.lt_of_lt_of_le h1 hs)
 have k':∀i,w2.cell? ⟨y,i,none⟩=wc.cell? ⟨y,i,none⟩:=fun i=>hb.cell (p:=⟨y,i,none⟩) (Nat.lt_of_lt_of_le h2 hs)
 exact⟨(k _).trans c0,(k _).trans c1,(k _).trans c2,(k _).trans c3,(k _).trans c4,(k _).trans c5,(k _).trans c6,(k' _).trans d0,(k' _).trans d1,(k' _).trans d2,hB.trans (hb.mono hs)⟩
theorem HeldY.start{W0 wz:World} {z y:Nat} {a b c d e f g p q r:Value} (h:HeldY W0 z y a b c d e f g p q r wz):HeldY wz z y a b c d e f g p q r wz.drew:=by
 obtain⟨c0,c1,c2,c3,c4,c5,c6,d0,d1,d2,-⟩:=h
 exact⟨c0,c1,c2,c3,c4,c5,c6,d0,d1,d2,(Below.refl _ _).drew⟩
theorem fvalidate_empty(w:World):Calls Tryz.prog 37 #[.agg #[.int .i64 0,.slice none 0 0,.slice none 0 0,.slice none 0 0,.slice none 0 0,.slice none 0 0,.slice none 0 0]] w fun e w'=>e=.returned (.int .i64 1)∧Below w.heap.size w w':=by
 have HI:=zh (fun w=>fin_any 0 1 4 w)
 rw[decide_eq_false (show ¬((1:Int)≤0∧(0:Int)≤4) by omega)] at HI
 go_enter Tryz.func37,Tryz.ntmps37
 go_wp2_with fail
 refine(HI.out _).mono ?_
 rintro e w1 ⟨rfl,rfl⟩
 go_wp2_with fail
 go_ret
 exact⟨rfl,(Below.refl _ _).alloc (Nat.le_refl _) _⟩
theorem isStripe_no(ext:Int) (vl vm vd vv vp:Value) (A:Option Addr) (NO co:Nat) (v s:Int) (w:World) (hn:¬(0≤v∧v<(NO:Int)∧0≤s∧s<ext)) :
  Calls Tryz.prog 39 #[.agg #[.int .i64 ext,vl,vm,vd,vv,vp,.slice A NO co],.int .i64 v,.int .i64 s] w fun e w'=>e=.returned (.bool false)∧Below w.heap.size w w':=by
 by_cases h1:0≤v
 ·have f1:decide (0≤v)=true:=decide_eq_true h1
  by_cases h2:v<(NO:Int)
  ·have f2:decide (v<(NO:Int))=true:=decide_eq_true h2
   by_cases h3:0≤s
   ·have f3:decide (0≤s)=true:=decide_eq_true h3
    have f4:decide (s<ext)=false:=decide_eq_false (fun h4=>hn ⟨h1,h2,h3,h4⟩)
    clear h1 h2 h3 hn
    go_enter Tryz.func39,Tryz.ntmps39
    go_wp2_with fail
    go_ret
    exact⟨rfl,(Below.refl _ _).alloc (Nat.le_refl _) _⟩
   ·have f3:decide (0≤s)=false:=decide_eq_false h3
    clear h1 h2 h3 hn
    go_enter Tryz.func39,Tryz.ntmps39
    go_wp2_with fail
    go_ret
    exact⟨rfl,(Below.refl _ _).alloc (Nat.le_refl _) _⟩
  ·have f2:decide (v<(NO:Int))=false:=decide_eq_false h2
   clear h1 h2 hn
   go_enter Tryz.func39,Tryz.ntmps39
   go_wp2_with fail
   go_ret
   exact⟨rfl,(Below.refl _ _).alloc (Nat.le_refl _) _⟩
 ·have f1:decide (0≤v)=false:=decide_eq_false h1
  clear h1 hn
  go_enter Tryz.func39,Tryz.ntmps39
  go_wp2_with fail
  go_ret
  exact⟨rfl,(Below.refl _ _).alloc (Nat.le_refl _) _⟩
theorem contents_bad(N:Nat) (hN:N≤12) (vl vm vd vv vp vo vp0 vo0 va0:Value) (F:FltM) (v s:Int) (up:Bool) (w:World) (hf:FleetS w (Bl w.heap.size) vl vm vd vv vp vo F) (hok:FleetOk N F)
  (hn:¬(0≤v∧v<(F.vols.length:Int)∧0≤s∧s<F.ext)) :
  Calls Tryz.prog 25 #[.agg #[.int .i64 F.ext,vl,vm,vd,vv,vp,vo],.agg #[vp0,vo0,va0],.int .i64 v,.int .i64 s,.bool up] w fun e w'=>e=.returned (.tuple #[.string ⟨#[]⟩,.int .i64 1])∧Below w.heap.size w w':=by
 obtain⟨A6,c6',rfl,-⟩:=SlS.form hf.2.2.2.2.2
 have HVA:=zh (fun(w':World) (hb:Below w.heap.size w w')=>fvalidate_any N hN vl vm vd vv _ _ F w' (hf.below hb) hok)
 have HIS:=zh (fun(w':World)=>isStripe_no F.ext vl vm vd vv vp A6 F.vols.length c6' v s w' hn)
 obtain⟨NO,hNO⟩:=zx F.vols.length
 obtain⟨EX,hEX⟩:=zx F.ext
 rw[←hNO] at HVA HIS ⊢
 rw[←hEX] at HVA HIS ⊢
 obtain⟨W0,hW0⟩:=zx (((w.alloc (.cells #[.int .i64 EX,vl,vm,vd,vv,vp,.slice A6 NO c6'] 37)).alloc (.cells #[vp0,vo0,va0] 27)).alloc (.cells #[.bool up] 4))
 obtain⟨z,hz⟩:=zx w.heap.size
 have hb0:Below w.heap.size w W0:=by rw[hW0];exact(((Below.refl _ _).alloc (Nat.le_refl _) _).alloc (by simp) _).alloc (by simp;omega) _
 have hzk:W0.heap[z]?=some (.cells #[.int .i64 EX,vl,vm,vd,vv,vp,.slice A6 NO c6'] 37 (0,0)):=by
  rw[hW0,hz];exact(Below.heap_alloc _ _ _ (by simp;omega)).trans ((Below.heap_alloc _ _ _ (by simp)).trans (heap_alloc_new w _))
 have hzl:z<W0.heap.size:=(Array.getElem?_eq_some_iff.1 hzk).1
 have HC:=zh (fun(w':World) (hb:Below W0.heap.size W0 w')=>cells7 ((hb.block z hzl).trans hzk))
 have HW0:=zh hW0
 have HZ:=zh hz
 have HB0:=zh hb0
 obtain⟨c0,c1,c2,c3,c4,c5,c6⟩:=HC.out W0 (Below.refl _ _)
 clear hf hok hn hNO hEX hW0 hz hb0 hzk hzl
 go_enter Tryz.func25,Tryz.ntmps25
 go_wp2_with fail
 rw[←HW0.out,←HZ.out]
 refine(HVA.out _ HB0.out).mono ?_
 rintro e w0 ⟨rfl,hb00⟩
 have HB00:=zh hb00
 clear c0 c1 c2 c3 c4 c5 c6 hb00
 obtain⟨c0,c1,c2,c3,c4,c5,c6⟩:=HC.out w0 HB00.out
 go_wp2_with fail
 refine(HIS.out _).mono ?_
 rintro e w1 ⟨rfl,hb1⟩
 have HB1:=zh (HB0.out.trans ((HB00.out.trans (hb1.mono HB00.out.size)).mono HB0.out.size))
 clear c0 c1 c2 c3 c4 c5 c6 hb1
 go_wp2_with fail
 go_ret2
 exact⟨rfl,HB1.out⟩
theorem contents_empty(vp0 vo0 va0:Value) (v s:Int) (up:Bool) (w:World) :
  Calls Tryz.prog 25 #[.agg #[.int .i64 0,.slice none 0 0,.slice none 0 0,.slice none 0 0,.slice none 0 0,.slice none 0 0,.slice none 0 0],.agg #[vp0,vo0,va0],.int .i64 v,.int .i64 s,.bool up] w fun e w'=>e=.returned (.tuple #[.string ⟨#[]⟩,.int .i64 1])∧Below w.heap.size w w':=by
 have HVA:=zh (fun(w':World)=>fvalidate_empty w')
 obtain⟨W0,hW0⟩:=zx (((w.alloc (.cells #[.int .i64 0,.slice none 0 0,.slice none 0 0,.slice none 0 0,.slice none 0 0,.slice none 0 0,.slice none 0 0] 37)).alloc (.cells #[vp0,vo0,va0] 27)).alloc (.cells #[.bool up] 4))
 obtain⟨z,hz⟩:=zx w.heap.size
 have hb0:Below w.heap.size w W0:=by rw[hW0];exact(((Below.refl _ _).alloc (Nat.le_refl _) _).alloc (by simp) _).alloc (by simp;omega) _
 have hzk:W0.heap[z]?=some (.cells #[.int .i64 0,.slice none 0 0,.slice none 0 0,.slice none 0 0,.slice none 0 0,.slice none 0 0,.slice none 0 0] 37 (0,0)):=by
  rw[hW0,hz];exact(Below.heap_alloc _ _ _ (by simp;omega)).trans ((Below.heap_alloc _ _ _ (by simp)).trans (heap_alloc_new w _))
 have HW0:=zh hW0
 have HZ:=zh hz
 have HB0:=zh hb0
 obtain⟨c0,c1,c2,c3,c4,c5,c6⟩:=cells7 hzk
 clear hW0 hz hb0 hzk
 go_enter Tryz.func25,Tryz.ntmps25
 go_wp2_with fail
 rw[←HW0.out,←HZ.out]
 refine(HVA.out _).mono ?_
 rintro e w0 ⟨rfl,hb00⟩
 have HB00:=zh (HB0.out.trans (hb00.mono HB0.out.size))
 clear c0 c1 c2 c3 c4 c5 c6 hb00
 go_wp2_with fail
 go_ret2
 exact⟨rfl,HB00.out⟩
def Nb(W:World) (va vr:Value) (b:Nat):Prop:=b<W.heap.size∧va.ownBlock≠some b∧vr.ownBlock≠some b
structure Two (W:World) (B:Nat) (va vr:Value) (xs ys:List Value) (ta tr:Mat):Prop where
 ownA:W.ownsRow B 88 1 va ta.length xs
 ownR:W.ownsRow B 88 1 vr tr.length ys
 apart:∀b,va.ownBlock=some b→vr.ownBlock≠some b
 rowA:∀j,j<ta.length→ByS W (Nb W va vr) (xs.getD j undef) (ta.getD j [])
 rowR:∀j,j<tr.length→ByS W (Nb W va vr) (ys.getD j undef) (tr.getD j [])
theorem Two.nil(W:World) (B:Nat):Two W B (.slice none 0 0) (.slice none 0 0) [] [] [] [] :=
 ⟨World.ownsRow_nil _ _ _ _,World.ownsRow_nil _ _ _ _,(fun b h=>by cases h),(fun j h=>absurd h (Nat.not_lt_zero _)),(fun j h=>absurd h (Nat.not_lt_zero _))⟩
theorem Below.al{w w2:World} (h:Below w.heap.size w w2) (o:Obj):Below w.heap.size w (w2.alloc o):=h.alloc h.size o
theorem step_pairA{ops:Array Oper} {o:Oper} {a:Act} {w W:World} {K:Act→World→Prop} {Q:Exit→Act→World→Prop} {E:Prop}
  (hgd:o.guard=none) (s x:Operand) (ho:o.op=.call { callee:=.builtin .append,args:=#[s,x],argTypes:=#[87,87] })
  (B:Nat) (v:Value) (n:Nat) (xs:List Value) (q:Nat) (u:Value) (hown:W.ownsRow B 88 1 v n xs) (hP:Below W.heap.size W w) (hB:B≤W.heap.size) (hn:n≤1048576)
  (hs:a.eval s=v) (hx:a.eval x=.slice (some ⟨q,0,none⟩) 1 1) (hc:w.cell? ⟨q,0,none⟩=some u) (h1:u.oneCell'=true)
  (h:∀g cap w',Below W.heap.size W w→w'.ownsRow B 88 1 (.slice (some ⟨g,0,none⟩) (n+1) cap) (n+1) (xs++[u])→w.grownBy w' v.ownBlock→(v.ownBlock=some g∨g=w.heap.size)→g<w'.heap.size →
   (∀p z,W.heap.size≤p→p<w.heap.size→w.cell? ⟨p,0,none⟩=some z→w'.cell? ⟨p,0,none⟩=some z)→W.heap.size≤w'.heap.size→K (a.put o.dst (.slice (some ⟨g,0,none⟩) (n+1) cap)) w') :
  if Region.wanted o (yielded ops a.tmps)=true then Oper.wp Tryz.prog o a w K Q else E:=by
 obtain⟨i0,hi0,hz0,hz1,hz2⟩:=info_parts info_row
 have hlt:=hown.lt
 refine step_append_lies w hgd s x 87 ho B 88 i0 _ 1 24 Tryz.underlying87 hi0 hz0 hz1 hz2 rfl (by omega) v n xs hs (own_below hown hP) ⟨q,0,none⟩ 1 1 [u] hx rfl ?_ ?_ (by omega) (by unfold maxLen;omega) (by omega) (Nat.le_trans hB hP.size) _ rfl ?_
 ·intro j z hj
  have hj0:j=0:=by have:=(List.getElem?_eq_some_iff.1 hj).1;simpa using this
  subst hj0
  simp at hj
  subst hj
  simpa[Addr.add] using hc
 ·intro z hz;rw[List.mem_singleton.1 hz];exact h1
 ·intro g cap w' h2 h3 h4 h5
  exact h g cap w' hP h2 h3 h4 h5 (fun p z hp hp2 hz=>(World.cell?_of_block (w:=w) (h3.block p hp2 (fun e=>by have:=(hlt p e.symm).2;omega))).trans hz) (Nat.le_trans hP.size h3.size)
theorem step_pairR{ops:Array Oper} {o:Oper} {a:Act} {w w9:World} {K:Act→World→Prop} {Q:Exit→Act→World→Prop} {E:Prop}
  (hgd:o.guard=none) (s x:Operand) (ho:o.op=.call { callee:=.builtin .append,args:=#[s,x],argTypes:=#[87,87] })
  (B:Nat) (v:Value) (n:Nat) (ys:List Value) (q:Nat) (u:Value) (hown:w9.ownsRow B 88 1 v n ys) (hP:Below w9.heap.size w9 w) (hB:B≤w9.heap.size) (hn:n≤1048576)
  (hs:a.eval s=v) (hx:a.eval x=.slice (some ⟨q,0,none⟩) 1 1) (hc:w.cell? ⟨q,0,none⟩=some u) (h1:u.oneCell'=true)
  (h:∀g cap w',Below w9.heap.size w9 w→w'.ownsRow B 88 1 (.slice (some ⟨g,0,none⟩) (n+1) cap) (n+1) (ys++[u])→w.grownBy w' v.ownBlock→(v.ownBlock=some g∨g=w.heap.size)→g<w'.heap.size→K (a.put o.dst (.slice (some ⟨g,0,none⟩) (n+1) cap)) w') :
  if Region.wanted o (yielded ops a.tmps)=true then Oper.wp Tryz.prog o a w K Q else E:=by
 obtain⟨i0,hi0,hz0,hz1,hz2⟩:=info_parts info_row
 refine step_append_lies w hgd s x 87 ho B 88 i0 _ 1 24 Tryz.underlying87 hi0 hz0 hz1 hz2 rfl (by omega) v n ys hs (own_below hown hP) ⟨q,0,none⟩ 1 1 [u] hx rfl ?_ ?_ (by omega) (by unfold maxLen;omega) (by omega) (Nat.le_trans hB hP.size) _ rfl ?_
 ·intro j z hj
  have hj0:j=0:=by have:=(List.getElem?_eq_some_iff.1 hj).1;simpa using this
  subst hj0
  simp at hj
  subst hj
  simpa[Addr.add] using hc
 ·intro z hz;rw[List.mem_singleton.1 hz];exact h1
 ·intro g cap w' h2 h3 h4 h5
  exact h g cap w' hP h2 h3 h4 h5
theorem getD_append_one{α:Type} (l:List α) (x d:α) (n:Nat) (h:l.length=n):(l++[x]).getD n d=x:=by
 rw[getD_lt _ _ (by simp;omega),List.getElem_append_right (by omega)];simp
theorem own_not{W:World} {B:Nat} {e:TypeId} {s n:Nat} {v:Value} {xs:List Value} (h:W.ownsRow B e s v n xs) {b:Nat} (hb:W.heap.size≤b):v.ownBlock≠some b:=fun e=>by have:=(h.lt b e).2;omega
theorem Two.step{W wA w9 wB w17:World} {B g9 cap9 g17 cap17:Nat} {va vr u d:Value} {xs ys:List Value} {ta tr:Mat} {r s:List UInt8} (h:Two W B va vr xs ys ta tr) (hA:Below W.heap.size W wA)
  (hr:ByS wA (Fr W.heap.size wA.heap.size) u r) (hd:ByS W (Bl B) d s) (hBW:B≤W.heap.size)
  (own9:w9.ownsRow B 88 1 (.slice (some ⟨g9,0,none⟩) (ta.length+1) cap9) (ta.length+1) (xs++[u])) (hg9:wA.grownBy w9 va.ownBlock) (hat9:va.ownBlock=some g9∨g9=wA.heap.size) (hB:Below w9.heap.size w9 wB)
  (own17:w17.ownsRow B 88 1 (.slice (some ⟨g17,0,none⟩) (tr.length+1) cap17) (tr.length+1) (ys++[d])) (hg17:wB.grownBy w17 vr.ownBlock) (hat17:vr.ownBlock=some g17∨g17=wB.heap.size) :
  Two w17 B (.slice (some ⟨g9,0,none⟩) (ta.length+1) cap9) (.slice (some ⟨g17,0,none⟩) (tr.length+1) cap17) (xs++[u]) (ys++[d]) (ta++[r]) (tr++[s]):=by
 have hxl:xs.length=ta.length:=by have:=h.ownA.1;omega
 have hyl:ys.length=tr.length:=by have:=h.ownR.1;omega
 have hszA:=hA.size
 have hsz9:=hg9.size
 have hszB:=hB.size
 have hsz17:=hg17.size
 have hlt9:g9<w9.heap.size:=(own9.lt g9 rfl).2
 have hlt17:g17<w17.heap.size:=(own17.lt g17 rfl).2
 have hvaL:=h.ownA.lt
 have hvrL:=h.ownR.lt
 have h9r:vr.ownBlock≠some g9:=by
  rcases hat9 with e | e
  ·exact h.apart g9 e
  ·rw[e];exact own_not h.ownR hszA
 have h97:g9≠g17:=by
  rcases hat17 with e | e
  ·intro e2;subst e2;exact h9r e
  ·omega
 -- a block that is as at W,or new and not one of the two
 have kept:∀b,b<wA.heap.size→va.ownBlock≠some b→vr.ownBlock≠some b→w17.heap[b]?=wA.heap[b]?:=fun b hb h1 h2 =>
  ((hg17.block b (by omega) (fun e=>h2 e.symm)).trans (hB.block b (by omega))).trans (hg9.block b hb (fun e=>h1 e.symm))
 have nb:∀b,b<wA.heap.size→va.ownBlock≠some b→vr.ownBlock≠some b→Nb w17 (.slice (some ⟨g9,0,none⟩) (ta.length+1) cap9) (.slice (some ⟨g17,0,none⟩) (tr.length+1) cap17) b:=fun b hb h1 h2 =>
  ⟨by omega,(fun e=>by
   have e':g9=b:=by simpa[Value.ownBlock] using e
   subst e'
   rcases hat9 with e3 | e3
   ·exact h1 e3
   ·omega),(fun e=>by
   have e':g17=b:=by simpa[Value.ownBlock] using e
   subst e'
   rcases hat17 with e3 | e3
   ·exact h2 e3
   ·omega)⟩
 have old:∀v l,ByS W (Nb W va vr) v l→ByS w17 (Nb w17 (.slice (some ⟨g9,0,none⟩) (ta.length+1) cap9) (.slice (some ⟨g17,0,none⟩) (tr.length+1) cap17)) v l:=fun v l hv =>
  (hv.keep (w':=w17) (fun b hb=>(kept b (Nat.lt_of_lt_of_le hb.1 hszA) hb.2.1 hb.2.2).trans (hA.block b hb.1))).mono (fun b hb=>nb b (Nat.lt_of_lt_of_le hb.1 hszA) hb.2.1 hb.2.2)
 refine⟨?_,?_,?_,?_,?_⟩
 ·rw[List.length_append]
  refine(own_below own9 hB).kept hg17 (.inr ?_)
  show some g9≠_
  exact fun e=>h9r e.symm
 ·rw[List.length_append];exact own17
 ·intro b hb e
  have e1:g9=b:=by simpa[Value.ownBlock] using hb
  have e2:g17=b:=by simpa[Value.ownBlock] using e
  omega
 ·intro j hj
  rw[List.length_append] at hj
  rcases Nat.lt_or_ge j ta.length with hlt | hge
  ·rw[getD_append_lt _ _ _ (by omega),getD_append_lt _ _ _ hlt]
   exact old _ _ (h.rowA j hlt)
  ·have:j=ta.length:=by simp at hj;omega
   subst this
   rw[getD_append_one _ _ _ _ hxl,getD_append_one _ _ _ _ rfl]
   exact(hr.keep (w':=w17) (fun b hb=>kept b hb.2 (own_not h.ownA hb.1) (own_not h.ownR hb.1))).mono (fun b hb=>nb b hb.2 (own_not h.ownA hb.1) (own_not h.ownR hb.1))
 ·intro j hj
  rw[List.length_append] at hj
  rcases Nat.lt_or_ge j tr.length with hlt | hge
  ·rw[getD_append_lt _ _ _ (by omega),getD_append_lt _ _ _ hlt]
   exact old _ _ (h.rowR j hlt)
  ·have:j=tr.length:=by simp at hj;omega
   subst this
   rw[getD_append_one _ _ _ _ hyl,getD_append_one _ _ _ _ rfl]
   refine old _ _ (hd.mono fun b hb=>⟨Nat.lt_of_lt_of_le hb hBW,fun e=>by have:=(hvaL b e).1;have:b<B:=hb;omega,fun e=>by have:=(hvrL b e).1;have:b<B:=hb;omega⟩)
theorem Below.aldd{w w2:World} {o:Obj} (h:Below (w.alloc o).drew.heap.size (w.alloc o).drew w2):Below w.drew.heap.size w.drew w2:=by
 have h1:=below_boxd h
 exact⟨h1.os,h1.tape,h1.output,h1.size,h1.block⟩
theorem cell_boxd{w w2:World} {u:Value} {t:TypeId} (h:Below (w.alloc (.cells #[u] t)).drew.heap.size (w.alloc (.cells #[u] t)).drew w2) (o:Obj):w.heap.size<(w2.alloc o).heap.size∧(w2.alloc o).cell? ⟨w.heap.size,0,none⟩=some u:=by
 have hs:=h.size
 simp at hs
 refine⟨by simp;omega,?_⟩
 rw[World.cell?_of_block (w:=w2) (a:=⟨w.heap.size,0,none⟩) (Below.heap_alloc w2 o _ (by show w.heap.size<_;omega)),h.cell (p:=⟨w.heap.size,0,none⟩) (by simp)]
 simp
theorem Two.drew{W:World} {B:Nat} {va vr:Value} {xs ys:List Value} {ta tr:Mat} (h:Two W B va vr xs ys ta tr):Two W.drew B va vr xs ys ta tr :=
 ⟨h.ownA,h.ownR,h.apart,fun j hj=>(h.rowA j hj).keep (w':=W.drew) (fun _ _=>rfl),fun j hj=>(h.rowR j hj).keep (w':=W.drew) (fun _ _=>rfl)⟩
theorem Two.ownR9{W wA w9:World} {B:Nat} {va vr:Value} {xs ys:List Value} {ta tr:Mat} (h:Two W B va vr xs ys ta tr) (hA:Below W.heap.size W wA) (hg:wA.grownBy w9 va.ownBlock):w9.ownsRow B 88 1 vr tr.length ys:=by
 refine(own_below h.ownR hA).kept hg ?_
 cases hv:va.ownBlock with
 | none=>cases hr:vr.ownBlock with
  | none=>exact .inl rfl
  | some b=>exact .inr (by simp)
 | some b=>exact .inr (h.apart b hv)
theorem Two.base{W:World} {B B':Nat} {va vr:Value} {xs ys:List Value} {ta tr:Mat} (h:Two W B va vr xs ys ta tr) (hB:B'≤B):Two W B' va vr xs ys ta tr:=⟨own_base h.ownA hB,own_base h.ownR hB,h.apart,h.rowA,h.rowR⟩
theorem Two.ownMA{W:World} {B:Nat} {va vr:Value} {xs ys:List Value} {ta tr:Mat} (h:Two W B va vr xs ys ta tr):OwnM W B va ta:=⟨xs,h.ownA,fun j hj=>(h.rowA j hj).mono (fun b hb=>⟨hb.1,hb.2.1⟩)⟩
theorem Two.ownMR{W:World} {B:Nat} {va vr:Value} {xs ys:List Value} {ta tr:Mat} (h:Two W B va vr xs ys ta tr):OwnM W B vr tr:=⟨ys,h.ownR,fun j hj=>(h.rowR j hj).mono (fun b hb=>⟨hb.1,hb.2.2⟩)⟩
theorem unit_take(n i d:Nat) (hd:d<n):bys ((unitR n i).take d)++[Value.int .u8 (if i=d then 1 else 0)]=bys ((unitR n i).take (d+1)):=by
 have hl:d<(unitR n i).length:=by rw[unitR_length];exact hd
 rw[List.take_succ_eq_append_getElem hl,bys_append]
 congr 1
 have e:(unitR n i)[d]=if d=i then 1 else 0:=by simp[unitR]
 rw[e]
 by_cases h:i=d
 ·subst h;simp[bys]
 ·rw[if_neg h,if_neg (fun e=>h e.symm)];rfl
theorem aug_take2(A:Mat) (i:Nat) (hi:i<A.length) (row:List UInt8) (hr:row=A[i]):(augT A).take i++[row++unitR A.length i]=(augT A).take (i+1):=aug_take A _ i hi rfl row hr
theorem refinvert_any(va:Value) (A:Mat) (w:World) (ha:MatS w (Bl w.heap.size) va A) (h0:0<A.length) (h32:A.length≤32) (hw:Wide A A.length) (hI:Inj A) :
  Calls Tryz.prog 122 #[va] w fun e w'=>∃v,e=.returned (.tuple #[v,.int .i64 0])∧MatS w' (Bl w'.heap.size) v (invT A)∧Below w.heap.size w w':=by
 obtain⟨Aa,ca,rfl,hca,-⟩:=ha.form
 obtain⟨n,hn⟩:=zx A.length
 rw[←hn] at h0 h32 hw hca ⊢
 have HN:=zh hn
 have HI:=zh hI
 have HA:=zh ha
 rw[←hn] at HA
 obtain⟨ba,oa,va0,rfl,-,-,-⟩:=ha.at_ (k:=0) (by omega)
 obtain⟨m,hm⟩:=zx (n+n)
 have e2:2 * (n:Int)=(m:Int):=by omega
 have hm1:m≤n+n:=by omega
 have hm2:n+n≤m:=by omega
 have HM:=zh hm
 have e0:¬(n:Int)<1:=by omega
 clear hn hI ha hm
 go_enter Tryz.func122,Tryz.ntmps122
 go_wp2
 go_loopg [5,6] n (fun z v5 v6 wr=>∃(c:Nat) (qs cs:List Nat) (xs:List Value),c≤n∧z=n - c∧v6=.int .i64 (c:Int)∧Hid (∃t,t=(augT A).take c∧RowsO wr w.heap.size qs cs t m)∧wr.ownsRow w.heap.size 88 1 v5 c xs∧Hid (∀i,i<c→xs.getD i undef=rowC (qs.getD i 0) m (cs.getD i 0))∧Below w.heap.size w wr)
 case atStart=>exact⟨0,[],[],[],by omega,rfl,rfl,⟨[],by simp,RowsO.nil _ _ _⟩,World.ownsRow_nil _ _ _ _,(fun i hi=>by omega),Below.refl _ _⟩
 case round =>
  obtain⟨c,qs,cs,xs,hc,rfl,rfl,HR,hown,HX,hb⟩:=hrel
  obtain⟨A5,c5,rfl⟩:=own_form hown
  by_cases hlt:c<n
  ·obtain⟨t,ht,hR⟩:=HR.out
   have htl:t.length=c:=by rw[ht,List.length_take,aug_length,←HN.out];omega
   have HT:=zh ht
   have HTL:=zh htl
   have HRO:=zh hR
   clear ht HR htl hR
   obtain⟨b1,o1,vr,hA1,hR1,c1,hvr⟩:=HA.out.at_ (k:=c) (by rw[←HN.out];exact hlt)
   obtain⟨rfl,rfl⟩:ba=b1∧oa=o1:=by injection hA1 with h;injection h with h1 h2;exact⟨h1,h2⟩
   have hrl:A[c].length=n:=hw _ (List.getElem_mem _)
   obtain⟨row,hrow⟩:=zx (A[c]'(by rw[←HN.out];exact hlt))
   rw[←hrow] at hvr hrl
   obtain⟨Ar,cr,rfl,-,-⟩:=hvr.form
   rw[hrl] at c1 hvr
   obtain⟨br,orr,rfl,hRr,hcells⟩:=hvr.all (by rw[hrl];exact h0)
   have c1w:=(hb.cell (p:=⟨ba,oa+c,none⟩) hR1).trans c1
   have hcw:∀k (h:k<row.length),wr.cell? ⟨br,orr+k,none⟩=some (.int .u8 (row[k].toNat:Int)):=fun k h=>(hb.cell (p:=⟨br,orr+k,none⟩) hRr).trans (hcells k h)
   have HCW:=zh hcw
   have HROW:=zh hrow
   have HRL:=zh hrl
   have hr6:row.length≤65536:=by omega
   obtain⟨wo,rfl⟩:=zx (wr:World)
   clear hrow hrl hA1 c1 hvr hcells hcw
   go_wp2_with (at_builtin;refine app_copyO (.const (.slice none 0 0)) (.tmp 42) (by rfl) (by rfl) row br orr n cr (by rfl) (by rfl) HRL.out HCW.out hr6 ?_;intro v7 w7 hown7 hb7)
   have hszo:=hb.size
   go_loopg [7,8] n (fun z v7 v8 wr=>∃d:Nat,d≤n∧z=n - d∧v8=.int .i64 (d:Int)∧wr.ownsRow wo.heap.size 5 1 v7 (n+d) (bys (row++(unitR n c).take d))∧Below wo.heap.size wo wr)
   case atStart=>exact⟨0,by omega,rfl,rfl,by rw[List.take_zero,List.append_nil];exact hown7,hb7⟩
   case round =>
    clear hown7 hb7 c1w
    obtain⟨d,hd,rfl,rfl,hownr,hbr⟩:=hrel
    have hszr:=hbr.size
    by_cases hdn:d<n
    ·have hut:=unit_take n c d hdn
     by_cases hcd:c=d
     ·have hce:((c:Int)==(d:Int))=true:=by simp[hcd]
      rw[if_pos hcd] at hut
      have HUT:=zh hut
      clear hcd hut
      go_wp2_with (at_builtin;refine app_u8 (.tmp 52) (.tmp 53) rfl rfl _ _ _ _ (by rfl) hownr (by rfl) rfl (by omega) hszr ?_;intro v' w1 hown' hg hat)
      go_roundg (n - (d+1))
      case measure=>omega
      case rel=>exact⟨d+1,by omega,rfl,by go_num,by rw[bys_append,List.append_assoc,HUT.out,←bys_append] at hown';exact hown',hbr.grown hg hszr (fun b h=>(hownr.lt b h).1)⟩
     ·have hce:((c:Int)==(d:Int))=false:=by simp;omega
      rw[if_neg hcd] at hut
      have HUT:=zh hut
      clear hcd hut
      go_wp2_with (at_builtin;refine app_u8 (.tmp 55) (.tmp 56) rfl rfl _ _ _ _ (by rfl) hownr (by rfl) rfl (by omega) hszr ?_;intro v' w1 hown' hg hat)
      go_roundg (n - (d+1))
      case measure=>omega
      case rel=>exact⟨d+1,by omega,rfl,by go_num,by rw[bys_append,List.append_assoc,HUT.out,←bys_append] at hown';exact hown',hbr.grown hg hszr (fun b h=>(hownr.lt b h).1)⟩
    ·have hdI:d=n:=by omega
     rw[hdI,←HM.out,List.take_of_length_le (by rw[unitR_length];exact Nat.le_refl _)] at hownr
     have HDI:=zh hdI
     clear hdI
     have hq:∃q cap,u7=rowC q m cap:=by
      rcases hownr.2 with ⟨-,h1⟩ | ⟨q,cap,cur,h1,-⟩
      ·omega
      ·exact⟨q,cap,h1⟩
     obtain⟨q,cap,hu7⟩:=hq
     have hu8:u7=.slice (some ⟨q,0,none⟩) m cap:=hu7
     clear hu7
     subst hu8
     have hown5:=own_below hown hbr
     have hR5:=HRO.out.below hbr
     have hlq:=own_lt (q:=q) (n:=m) (c:=cap) hownr
     have hR6:=hR5.push (own_base hownr hszo) (by rw[List.length_append,unitR_length,HRL.out,HM.out]) (fun i hi=>Nat.lt_of_lt_of_le (own_lt (HRO.out.own i hi)).2 hlq.1)
     rw[HT.out,HN.out,aug_take2 A c (by rw[←HN.out];exact hlt) row HROW.out] at hR6
     have hxl:xs.length=c:=by have:=hown.1;omega
     have hql:qs.length=c:=by rw[HRO.out.len,HTL.out]
     have hcl:cs.length=c:=by rw[HRO.out.lenc,HTL.out]
     have hX6:∀i,i<c+1→(xs++[rowC q m cap]).getD i undef=rowC ((qs++[q]).getD i 0) m ((cs++[cap]).getD i 0):=by
      intro i hi
      by_cases h1:i<c
      ·rw[getD_append_lt _ _ _ (by omega),getD_append_lt _ _ _ (by omega),getD_append_lt _ _ _ (by omega)];exact HX.out i h1
      ·have h2:i=c:=by omega
       rw[h2,getD_last _ _ _ _ hxl,getD_last _ _ _ _ hql,getD_last _ _ _ _ hcl]
     have hone:(Value.slice (some ⟨q,0,none⟩) m cap).oneCell'=true:=rfl
     have HR6:=zh hR6
     have HX6:=zh hX6
     have hszw:w.heap.size≤wr.heap.size:=Nat.le_trans hszo hszr
     clear hR5 hR6 hX6 hxl hql hcl hownr hlq
     go_wp2_with (at_builtin;refine app_row (.tmp 58) (.tmp 60) rfl rfl _ _ _ _ (by rfl) hown5 (by rfl) hone (by omega) hszw ?_;intro v' w1 hown' hg hat)
     have hR8:RowsO w1 w.heap.size (qs++[q]) (cs++[cap]) ((augT A).take (c+1)) m:=HR6.out.kept hg (fun i hi e=>own_apart (HR6.out.own i hi) hown5 (by decide) (g:=(qs++[q]).getD i 0) (g':=(qs++[q]).getD i 0) rfl e rfl)
     go_roundg (n - (c+1))
     case measure=>omega
     case rel=>exact⟨c+1,_,_,_,by omega,rfl,by go_num,⟨_,rfl,hR8⟩,hown',HX6.out,(hb.trans (hbr.mono hszo)).grown hg hszw (fun b h=>(hown5.lt b h).1)⟩
  ·obtain rfl:n=c:=by omega
   obtain⟨t,ht,hR⟩:=HR.out
   have hta:t=augT A:=by rw[ht,HN.out,←aug_length A,List.take_length]
   have htl:t.length=n:=by rw[hta,aug_length,←HN.out]
   obtain⟨g,hA5⟩:∃g,A5=some ⟨g,0,none⟩:=by
    rcases hown.2 with ⟨-,h1⟩ | ⟨g,cap,cur,h1,-⟩
    ·omega
    ·injection h1 with h1;exact⟨g,h1⟩
   subst hA5
   have hcap5:n≤c5:=own_cap (q:=g) hown
   have hMa:MatX wr w.heap.size g qs cs (gaussN (augT A) 0) m:=by rw[←show t=gaussN (augT A) 0 from hta];exact hR.matX (g:=g) (cap:=c5) hown htl.symm HX.out
   have hgw:=hMa.bg
   clear hta ht hR htl hown HX HR
   obtain⟨i,hi⟩:=zx n
   subst hi
   go_wp2
   go_loopg [9] i (fun z v9 wx=>∃(k:Nat) (ps es:List Nat),k≤i∧z=i - k∧v9=.int .i64 (k:Int)∧MatX wx w.heap.size g ps es (gaussN (augT A) k) m∧Below w.heap.size w wx)
   case atStart=>exact⟨0,qs,cs,by omega,rfl,rfl,hMa,hb⟩
   case round =>
    clear hMa hb qs cs t xs
    obtain⟨k,ps,es,hk,rfl,rfl,hM,hb⟩:=hrel
    have hgl:(gaussN (augT A) k).length=i:=by rw[gaussN_length,aug_length,←HN.out]
    by_cases hlt:k<i
    ·-- R3{
     have hgi:=gauss_inv A (by rw[←HN.out];exact hw) HI.out k (by rw[←HN.out];exact hk)
     rw[←HN.out] at hgi
     obtain⟨-,hpv⟩:=hgi
     have hpv:=hpv hlt
     have hps:=piv_spec (gaussN (augT A) k) k (by omega)
     have hstep:gaussN (augT A) (k+1)=gstep (gaussN (augT A) k) k:=rfl
     have HSTEP:=zh hstep
     generalize gaussN (augT A) k=t at *
     obtain⟨p1,-,p3,p4⟩:=hps
     have p4:=p4 (by omega)
     obtain⟨p,hp⟩:=zx (piv t k)
     rw[←hp] at hpv p1 p3 p4
     have HPV:=zh hp
     have P3:=zh p3
     have P4:=zh p4
     have HGL:=zh hgl
     have hc0:=fun(a:Nat) (ha:a<i)=>hM.cellO (i:=a) (by omega)
     have hc1:=fun(a:Nat) (ha:a<i)=>hM.cellI (i:=a) (j:=k) (by omega) (by omega)
     have HC0:=zh hc0
     have HC1:=zh hc1
     clear hp p3 p4 hgl hstep hc0 hc1
     go_wp2_with fail
     obtain⟨wo,rfl⟩:=zx (wr:World)
     go_loopg [10] (i - k) (fun z v10 wy=>∃a:Nat,k≤a∧a≤p∧z=i - a∧v10=.int .i64 (a:Int)∧wo=wy)
     case atStart=>exact⟨k,by omega,p1,rfl,rfl,rfl⟩
     case round =>
      obtain⟨a,ha1,ha2,rfl,rfl,rfl⟩:=hrel
      have c0:=HC0.out a (by omega)
      have c1:=HC1.out a (by omega)
      generalize ps.getD a 0=q at c0 c1
      generalize es.getD a 0=ea0 at c0
      by_cases hap:a<p
      ·have hz:=P3.out a ha1 hap
       have h00:((UInt8.toNat 0:Nat):Int)=0:=rfl
       rw[hz,h00] at c1
       clear hz h00
       go_wp2
       go_roundg (i - (a+1))
       case measure=>omega
       case rel=>exact⟨a+1,by omega,by omega,rfl,by go_num,rfl⟩
      ·obtain rfl:a=p:=by omega
       have hne:(((en t a k).toNat:Int)==0)=false:=by
        rw[beq_eq_false_iff_ne];intro e;apply P4.out;apply UInt8.toNat_inj.1;rw[show(0:UInt8).toNat=0 from rfl];omega
       have hai:((a:Int)==(i:Int))=false:=by simp;omega
       go_upto_region 26 with fail
       have d0:=hM.cellO (i:=a) (by rw[HGL.out];omega)
       have d1:=hM.cellO (i:=k) (by rw[HGL.out];omega)
       have fa:=hM.freeO (i:=a) (by rw[HGL.out];omega)
       have fk:=hM.freeO (i:=k) (by rw[HGL.out];omega)
       have i1:(0:Int)≤(a:Int):=by omega
       have i2:(a:Int)<(i:Int):=by omega
       have i3:(0:Int)≤(k:Int):=by omega
       have i4:(k:Int)<(i:Int):=by omega
       have hsw:=hM.swap (a:=a) (k:=k) (by rw[HGL.out];omega) (by rw[HGL.out];omega)
       have hak2:swapL t a a=t→True:=fun _=>trivial
       clear c0 c1
       obtain⟨qa,hqa⟩:=zx (ps.getD a 0)
       obtain⟨qk,hqk⟩:=zx (ps.getD k 0)
       obtain⟨ea,hea⟩:=zx (es.getD a 0)
       obtain⟨ek,hek⟩:=zx (es.getD k 0)
       rw[←hqa,←hqk,←hea,←hek] at hsw
       rw[←hqa,←hea] at d0
       rw[←hqk,←hek] at d1
       have HEA:=zh hea
       have HEK:=zh hek
       clear hea hek
       have HSW:=zh hsw
       have HQA:=zh hqa
       have HQK:=zh hqk
       have HM0:=zh hM
       clear hsw hqa hqk hak2 hM
       go_cut [9,10] from 86 to 99 (fun v8 v9 wc=>v8=.int .i64 (k:Int)∧v9=.int .i64 (a:Int)∧MatX wc w.heap.size g (swapQ ps a k) (swapQ es a k) (swapL t a k) m∧Below w.heap.size w wc)
       case first =>
        by_cases hak:a=k
        ·have hqq:qa=qk:=by rw[HQA.out,HQK.out,hak]
         have hee:ea=ek:=by rw[HEA.out,HEK.out,hak]
         subst hak
         subst hqq
         subst hee
         clear d1 fk i3 i4
         go_region
         all_goals
          go_wp2_with fail
          go_meet
          exact⟨rfl,rfl,HSW.out.drewN 1,((hb.setCell hgw _).setCell hgw _).drew⟩
        ·have hak1:¬k=a:=fun e=>hak e.symm
         go_region
         all_goals
          go_wp2_with fail
          go_meet
          exact⟨rfl,rfl,HSW.out.drewN 1,((hb.setCell hgw _).setCell hgw _).drew⟩
       case rest =>
        clear HSW HM0 d0 d1 fa fk hb
        obtain⟨rfl,rfl,hM,hb⟩:=hcut
        have hsl:(swapL t a k).length=i:=by rw[swapL_length,HGL.out]
        obtain⟨s,hs⟩:=zx (swapL t a k)
        rw[←hs] at hM hsl
        have HS:=zh hs
        have HSL:=zh hsl
        generalize swapQ ps a k=rs at *
        generalize swapQ es a k=fs at *
        have hki:k<s.length:=by omega
        have hrl:=hM.rowlen hki
        have HRL:=zh hrl
        clear hs
        have c0:=hM.cellO hki
        have c1:=hM.cellI (j:=k) hki (by omega)
        obtain⟨q,hq⟩:=zx (rs.getD k 0)
        rw[←hq] at c0 c1
        generalize fs.getD k 0=cq0 at c0
        have HQ:=zh hq
        obtain⟨x,hx⟩:=zx (en s k k)
        rw[←hx] at c1
        have HX:=zh hx
        clear hq hx hsl hki hrl
        go_wp2_with fail
        refine(refinv_any x _).mono ?_
        rintro e w' ⟨rfl,rfl⟩
        obtain⟨f,hf⟩:=zx (ginv x)
        rw[←hf]
        have HF:=zh hf
        clear hf
        go_wp2_with fail
        go_loopg [13] m (fun z v13 wr=>∃j:Nat,j≤m∧z=m - j∧v13=.int .i64 (j:Int)∧MatX wr w.heap.size g rs fs (s.set k ((s.getD k []).mapIdx fun i x=>if i<j then gmul x f else x)) m∧Below w.heap.size w wr)
        case atStart=>exact⟨0,by omega,rfl,rfl,by rw[mapIdx_zero (fun _ x=>gmul x f),set_getD_self];exact hM,hb⟩
        case round =>
         clear c0 c1 hM hb
         obtain⟨j,hj,rfl,rfl,hM,hb⟩:=hrel
         have hki:k<(s.set k ((s.getD k []).mapIdx fun i x=>if i<j then gmul x f else x)).length:=by rw[set_length,HSL.out];omega
         have hki0:k<s.length:=by rw[HSL.out];omega
         by_cases hjm:j<m
         ·-- R2{
          have hjr:j<(s.getD k []).length:=by rw[HRL.out];exact hjm
          have c0:=hM.cellO hki
          have c2:=hM.cellI (j:=j) hki hjm
          have f2:=hM.freeI hki hjm
          have hp:=hM.put (j:=j) hki hjm (gmul ((s.getD k []).getD j 0) f)
          have he:en (s.set k ((s.getD k []).mapIdx fun i x=>if i<j then gmul x f else x)) k j=(s.getD k []).getD j 0:=by
           unfold en
           rw[getD_set _ _ _ _ _ hki0,if_pos rfl,getD_mapIdx _ _ 0 0 hjr,if_neg (by omega)]
          have hpp:(s.set k ((s.getD k []).mapIdx fun i x=>if i<j then gmul x f else x)).set k (((s.set k ((s.getD k []).mapIdx fun i x=>if i<j then gmul x f else x)).getD k []).set j (gmul ((s.getD k []).getD j 0) f))=s.set k ((s.getD k []).mapIdx fun i x=>if i<j+1 then gmul x f else x):=by
           rw[getD_set _ _ _ _ _ hki0,if_pos rfl,List.set_set,getD_lt _ 0 hjr,mapIdx_step (fun _ x=>gmul x f) _ _ hjr]
          rw[hpp] at hp
          rw[he] at c2
          rw[←HQ.out] at c0 c2 f2 hp
          generalize fs.getD k 0=cq at c0
          have hbq:=hM.base k hki
          rw[←HQ.out] at hbq
          generalize (s.getD k []).getD j 0=y at *
          have HP:=zh hp
          clear hp hpp he hki hki0 hjr hM
          go_wp2_with fail
          go_still_tail 15,(by kernel_rfl)
          still_call (Calls.eqw (refmul_any y f _))
          repeat still_step
          refine wpStill_nil ?_
          change wpList _ _ _ _ _ (World.drew _)
          go_wp2
          go_roundg (m - (j+1))
          case measure=>omega
          case rel=>exact⟨j+1,by omega,rfl,by go_num,HP.out.drewN 1,(hb.setCell hbq _).drew⟩
         ·obtain rfl:m=j:=by omega
          rw[mapIdx_all (fun _ x=>gmul x f) _ _ (by rw[HRL.out];exact Nat.le_refl _)] at hM
          have hpr:(s.getD k []).mapIdx (fun _ x=>gmul x f)=rowP s k:=by unfold rowP scaleR;rw[HF.out,HX.out]
          rw[hpr] at hM
          obtain⟨p,hp⟩:=zx (rowP s k)
          have hpl:p.length=m:=by rw[hp,←hpr,List.length_mapIdx,HRL.out]
          obtain⟨t5,ht5⟩:=zx (s.set k p)
          rw[←hp,←ht5] at hM
          have ht5l:t5.length=i:=by rw[ht5,set_length,HSL.out]
          have hk5:t5.getD k []=p:=by rw[ht5,getD_set _ _ _ _ _ hki0,if_pos rfl]
          have hend:elimT t5 k p=gaussN (augT A) (k+1):=by rw[HSTEP.out];show _=elimT ((swapL t (piv t k) k).set k (rowP (swapL t (piv t k) k) k)) k (rowP (swapL t (piv t k) k) k);rw[←HPV.out,←HS.out,ht5,hp]
          have HPL:=zh hpl
          have HT5:=zh ht5l
          have HK5:=zh hk5
          have HEND:=zh hend
          clear hpr hp ht5 ht5l hk5 hend hpl hki hki0 HSTEP HPV HRL HX HF HGL HC0 HC1 P3 P4
          go_wp2_with fail
          go_loopg [14] i (fun z v14 wr=>∃c:Nat,c≤i∧z=i - c∧v14=.int .i64 (c:Int)∧MatX wr w.heap.size g rs fs (t5.mapIdx fun i' r=>if i'<c then(if i'=k then r else elimR (r.getD k 0) p r) else r) m∧Below w.heap.size w wr)
          case atStart=>exact⟨0,by omega,rfl,rfl,by rw[mapIdx_zero (fun i' r=>if i'=k then r else elimR (r.getD k 0) p r)];exact hM,hb⟩
          case round =>
           clear hM hb
           obtain⟨c,hc,rfl,rfl,hM,hb⟩:=hrel
           have hul:(t5.mapIdx fun i' r=>if i'<c then(if i'=k then r else elimR (r.getD k 0) p r) else r).length=i:=by rw[List.length_mapIdx,HT5.out]
           by_cases hci:c<i
           ·have hcu:(t5.mapIdx fun i' r=>if i'<c then(if i'=k then r else elimR (r.getD k 0) p r) else r).getD c []=t5.getD c []:=by
             rw[getD_mapIdx _ _ [] [] (by rw[HT5.out];exact hci),if_neg (by omega)]
            have hku:(t5.mapIdx fun i' r=>if i'<c then(if i'=k then r else elimR (r.getD k 0) p r) else r).getD k []=p:=by
             rw[getD_mapIdx _ _ [] [] (by rw[HT5.out];omega),HK5.out];split <;> simp
            have hnext:=mapIdx_step (fun i' r=>if i'=k then r else elimR (r.getD k 0) p r) t5 c (by rw[HT5.out];exact hci)
            rw[←getD_lt t5 [] (by rw[HT5.out];exact hci)] at hnext
            generalize (t5.mapIdx fun i' r=>if i'<c then(if i'=k then r else elimR (r.getD k 0) p r) else r)=u at *
            have hrl:=hM.rowlen (i:=c) (by omega)
            have c0:=hM.cellO (i:=c) (by omega)
            have c1:=hM.cellI (i:=c) (j:=k) (by omega) (by omega)
            have hen:en u c k=(t5.getD c []).getD k 0:=by unfold en;rw[hcu]
            rw[hen] at c1
            rw[hcu] at hrl
            generalize t5.getD c []=row at *
            obtain⟨qc,hqc⟩:=zx (rs.getD c 0)
            rw[←hqc] at c0 c1
            generalize fs.getD c 0=cc0 at c0
            obtain⟨y,hy⟩:=zx (row.getD k 0)
            rw[←hy] at c1 hnext
            have HQC:=zh hqc
            have HUL:=zh hul
            have HCU:=zh hcu
            have HKU:=zh hku
            have HNX:=zh hnext
            have HY:=zh hy
            have HRW:=zh hrl
            clear hqc hul hcu hku hnext hy hrl hen
            by_cases hck:c=k
            ·have hb1:((c:Int) != (k:Int))=false:=by simp[hck]
             have hsame:u.set c row=u:=by rw[←HCU.out,set_getD_self]
             have hn2:=HNX.out
             rw[if_pos hck,hsame] at hn2
             have HN2:=zh hn2
             clear hck hn2 hsame
             go_wp2_with fail
             go_loopg [16] 0 (fun z v16 wr=>v16=.int .i64 0∧z=0∧MatX wr w.heap.size g rs fs u m∧Below w.heap.size w wr)
             case atStart=>exact⟨rfl,rfl,hM,hb⟩
             case round =>
              clear c0 c1 hM hb
              obtain⟨rfl,rfl,hM,hb⟩:=hrel
              have hm0:(0:Int)<(m:Int):=by omega
              go_wp2
              go_roundg (i - (c+1))
              case measure=>omega
              case rel=>exact⟨c+1,by omega,rfl,by go_num,by rw[←HN2.out];exact hM,hb⟩
            ·have hb1:((c:Int) != (k:Int))=true:=by simp;omega
             have hn2:=HNX.out
             rw[if_neg hck] at hn2
             ·have HN2:=zh hn2
              have HCK:=zh hck
              clear hck hn2
              go_wp2_with fail
              go_loopg [16] m (fun z v16 wr=>∃j:Nat,j≤m∧z=m - j∧v16=.int .i64 (j:Int)∧MatX wr w.heap.size g rs fs (u.set c (row.mapIdx fun i x=>if i<j then x ^^^ gmul y (p.getD i 0) else x)) m∧Below w.heap.size w wr)
              case atStart=>exact⟨0,by omega,rfl,rfl,by rw[mapIdx_zero (fun i x=>x ^^^ gmul y (p.getD i 0)),←HCU.out,set_getD_self];exact hM,hb⟩
              case round =>
               clear c0 c1 hM hb
               obtain⟨j,hj,rfl,rfl,hM,hb⟩:=hrel
               have hcu0:c<u.length:=by rw[HUL.out];omega
               have hci2:c<(u.set c (row.mapIdx fun i x=>if i<j then x ^^^ gmul y (p.getD i 0) else x)).length:=by rw[set_length];exact hcu0
               have hki2:k<(u.set c (row.mapIdx fun i x=>if i<j then x ^^^ gmul y (p.getD i 0) else x)).length:=by rw[set_length,HUL.out];omega
               by_cases hjm:j<m
               ·have hjr:j<row.length:=by rw[HRW.out];exact hjm
                have c0:=hM.cellO hci2
                have ck:=hM.cellO hki2
                have c2:=hM.cellI (j:=j) hci2 hjm
                have c3:=hM.cellI (j:=j) hki2 hjm
                have f2:=hM.freeI hci2 hjm
                have hp:=hM.put (j:=j) hci2 hjm (row.getD j 0 ^^^ gmul y (p.getD j 0))
                have he:en (u.set c (row.mapIdx fun i x=>if i<j then x ^^^ gmul y (p.getD i 0) else x)) c j=row.getD j 0:=by
                 unfold en
                 rw[getD_set _ _ _ _ _ hcu0,if_pos rfl,getD_mapIdx _ _ 0 0 hjr,if_neg (by omega)]
                have he2:en (u.set c (row.mapIdx fun i x=>if i<j then x ^^^ gmul y (p.getD i 0) else x)) k j=p.getD j 0:=by
                 unfold en
                 rw[getD_set _ _ _ _ _ hcu0,if_neg (fun e=>HCK.out e.symm),HKU.out]
                have hpp:(u.set c (row.mapIdx fun i x=>if i<j then x ^^^ gmul y (p.getD i 0) else x)).set c (((u.set c (row.mapIdx fun i x=>if i<j then x ^^^ gmul y (p.getD i 0) else x)).getD c []).set j (row.getD j 0 ^^^ gmul y (p.getD j 0)))=u.set c (row.mapIdx fun i x=>if i<j+1 then x ^^^ gmul y (p.getD i 0) else x):=by
                 rw[getD_set _ _ _ _ _ hcu0,if_pos rfl,List.set_set,getD_lt row 0 hjr,mapIdx_step (fun i x=>x ^^^ gmul y (p.getD i 0)) _ _ hjr]
                rw[hpp] at hp
                rw[he] at c2
                rw[he2] at c3
                have hbq:=hM.base c hci2
                rw[←HQC.out] at c0 c2 f2 hp hbq
                generalize rs.getD k 0=qk at *
                generalize fs.getD k 0=ck2 at ck
                generalize fs.getD c 0=cc2 at c0
                generalize row.getD j 0=z1 at *
                generalize p.getD j 0=z2 at *
                have HP:=zh hp
                clear hp hpp he he2 hci2 hki2 hjr hM hcu0
                go_wp2_with fail
                go_still_tail 23,(by kernel_rfl)
                still_call (Calls.eqw (refmul_any y z2 _))
                repeat still_step
                refine wpStill_nil ?_
                change wpList _ _ _ _ _ (World.drew _)
                go_wp2
                go_roundg (m - (j+1))
                case measure=>omega
                case rel=>exact⟨j+1,by omega,rfl,by go_num,by rw[xor_int];exact HP.out.drewN 1,(hb.setCell hbq _).drew⟩
               ·obtain rfl:m=j:=by omega
                rw[mapIdx_all (fun i x=>x ^^^ gmul y (p.getD i 0)) _ _ (by rw[HRW.out];exact Nat.le_refl _)] at hM
                have hM3:MatX wr w.heap.size g rs fs (u.set c (elimR y p row)) m:=hM
                rw[HN2.out] at hM3
                have HM3:=zh hM3
                clear hM hM3
                go_wp2
                go_roundg (i - (c+1))
                case measure=>omega
                case rel=>exact⟨c+1,by omega,rfl,by go_num,HM3.out,hb⟩
           ·obtain rfl:c=i:=by omega
            rw[mapIdx_all (fun i' r=>if i'=k then r else elimR (r.getD k 0) p r) _ _ (by rw[HT5.out];exact Nat.le_refl _)] at hM
            go_wp2
            go_roundg (c - (k+1))
            case measure=>omega
            case rel =>
             have hM2:MatX wr w.heap.size g rs fs (elimT t5 k p) m:=hM
             rw[HEND.out] at hM2
             exact⟨k+1,rs,fs,by omega,rfl,by go_num,hM2,hb⟩
    ·obtain rfl:i=k:=by omega
     have HMW:=zh hM
     have HGL:=zh hgl
     have hgW:=block_lt_of_cell (hM.cellO (i:=0) (by rw[hgl];omega))
     have hgW:g<wr.heap.size:=hgW
     clear hM hgl
     go_wp2_with fail
     obtain⟨wo,rfl⟩:=zx (wr:World)
     go_loopg [17,18] i (fun z v17 v18 wr=>∃(c:Nat) (ys:List Value),c≤i∧z=i - c∧v18=.int .i64 (c:Int)∧wr.ownsRow wo.heap.size 88 1 v17 c ys∧Hid (∀j,j<c→ByS wr (fun b=>b<wr.heap.size∧v17.ownBlock≠some b) (ys.getD j undef) ((invT A).getD j []))∧Below wo.heap.size wo wr)
     case atStart=>exact⟨0,[],by omega,rfl,rfl,World.ownsRow_nil _ _ _ _,fun j hj=>by omega,Below.refl _ _⟩
     case round =>
      obtain⟨c,ys,hc,rfl,rfl,hownO,HV,hbo⟩:=hrel
      obtain⟨A17,c17,rfl⟩:=own_form hownO
      have hszo:=hbo.size
      by_cases hlt2:c<i
      ·have hinv:=invT_getD A c (by rw[←HN.out];exact hlt2)
       rw[←HN.out] at hinv
       have hrl:=HMW.out.rowlen (i:=c) (by rw[HGL.out];exact hlt2)
       have c0:=HMW.out.cellO (i:=c) (by rw[HGL.out];exact hlt2)
       have hin:=fun j (hj:j<m)=>HMW.out.cellI (i:=c) (j:=j) (by rw[HGL.out];exact hlt2) hj
       have hql:=block_lt_of_cell (hin 0 (by omega))
       have hecap:=HMW.out.cap c (by rw[HGL.out];exact hlt2)
       have hen:∀j,en (gaussN (augT A) i) c j=((gaussN (augT A) i).getD c []).getD j 0:=fun j=>rfl
       simp only[hen] at hin
       generalize (gaussN (augT A) i).getD c []=row at *
       generalize ps.getD c 0=q at *
       generalize es.getD c 0=ec at *
       have hql:q<wo.heap.size:=hql
       have c1:=(hbo.cell (p:=⟨g,c,none⟩) hgW).trans c0
       have hll:(row.drop i).length=i:=by rw[List.length_drop];omega
       have hcells:∀j (hj:j<(row.drop i).length),wr.cell? ⟨q,i+j,none⟩=some (.int .u8 ((row.drop i)[j].toNat:Int)):=by
        intro j hj
        rw[hll] at hj
        rw[hbo.cell (p:=⟨q,i+j,none⟩) hql,hin (i+j) (by omega),getD_lt _ _ (by omega),List.getElem_drop]
       have hll2:(row.drop i).length≤65536:=by omega
       have hmi:m - i=i:=by omega
       have HLL:=zh hll
       have HCE:=zh hcells
       have HIN:=zh hinv
       have HMI:=zh hmi
       have hml:(i:Int)≤(m:Int):=by omega
       have hil:(i:Int)<(m:Int):=by omega
       have hme:(m:Int)≤(ec:Int):=by omega
       have hie:(i:Int)<(ec:Int):=by omega
       clear hcells hll hinv hmi c0 hrl hin hen
       generalize row.drop i=l at *
       go_wp2_with (first
        | (at_builtin;refine app_copyO (.const (.slice none 0 0)) (.tmp 189) (by rfl) (by rfl) l q i (m - i) (ec - i) (by rfl) (by rfl) (by rw[HLL.out,HMI.out]) HCE.out hll2 ?_;intro v7 w7 hown7 hb7;obtain⟨A7,c7,rfl⟩:=own_form hown7;have hownX:=own_below hownO hb7;have hsz7:=Nat.le_trans hszo hb7.size)
        | (at_builtin;refine app_row (.tmp 183) (.tmp 191) rfl rfl _ _ _ _ (by rfl) hownX (by rfl) rfl (by omega) hsz7 ?_;intro v' w1 hown' hg hat))
       go_roundg (i - (c+1))
       case measure=>omega
       case rel =>
        have hyl:ys.length=c:=by have:=hownO.1;omega
        have hsz1:=hg.size
        have hszb:=hb7.size
        have hlt17:=hownO.lt
        have hkp:∀b,b<wr.heap.size→(Value.slice A17 c c17).ownBlock≠some b→w1.heap[b]?=wr.heap[b]?:=fun b hb1 hb2=>(hg.block b (Nat.lt_of_lt_of_le hb1 hszb) (fun e=>hb2 e.symm)).trans (hb7.block b hb1)
        have hnb:∀b,b<w7.heap.size→(Value.slice A17 c c17).ownBlock≠some b→v'.ownBlock≠some b:=fun b hb1 hb2=>by
         rcases hat with e | e
         ·rw[e];exact hb2
         ·rw[e];intro e2;injection e2 with e2;omega
        refine⟨c+1,_,by omega,rfl,by go_num,hown',?_,(hbo.trans (hb7.mono hszo)).grown hg hsz7 (fun b h=>(hownX.lt b h).1)⟩
        intro j hj
        by_cases hjc:j<c
        ·rw[getD_append_lt _ _ _ (by omega)]
         exact((HV.out j hjc).keep (w':=w1) (fun b hb=>hkp b hb.1 hb.2)).mono (fun b hb=>⟨Nat.lt_of_lt_of_le hb.1 (Nat.le_trans hszb hsz1),hnb b (Nat.lt_of_lt_of_le hb.1 hszb) hb.2⟩)
        ·have hje:j=c:=by omega
         rw[hje,getD_last _ _ _ _ hyl,HIN.out]
         have h0:=ByS.own (R:=fun b=>wr.heap.size≤b∧b<w7.heap.size) hown7 (fun b hb=>hown7.lt b hb)
         have hn17:∀b,wr.heap.size≤b→(Value.slice A17 c c17).ownBlock≠some b:=fun b hb1 e=>by have:=(hlt17 b e).2;omega
         have h1:=h0.keep (w':=w1) (fun b hb=>hg.block b hb.2 (fun e=>hn17 b hb.1 e.symm))
         exact h1.mono (fun b hb=>⟨Nat.lt_of_lt_of_le hb.2 hsz1,hnb b hb.2 (hn17 b hb.1)⟩)
      ·have hcI:Hid (c=i):=(by omega:c=i)
       go_wp2
       go_ret2
       have e:=hcI.out
       subst e
       have hil:(invT A).length=c:=by rw[invT_length,←HN.out]
       obtain⟨h,cap,hcap,hA17⟩:∃h cap,c≤cap∧Value.slice A17 c c17=.slice (some ⟨h,0,none⟩) c cap:=by
        rcases hownO.2 with ⟨-,h1⟩ | ⟨h,cap,cur,h1,-,-,h2,-⟩
        ·omega
        ·exact⟨h,cap,h2,h1⟩
       refine⟨.slice A17 c c17,rfl,?_,hb.trans (hbo.mono hb.size)⟩
       rw[hA17] at hownO ⊢
       refine⟨some ⟨h,0,none⟩,cap,by rw[hil],by rw[hil];exact hcap,by rw[hil];unfold maxLen;omega,fun _=>⟨h,0,rfl,(hownO.lt h rfl).2,fun j r hj=>?_⟩⟩
       have hjl:j<(invT A).length:=(List.getElem?_eq_some_iff.1 hj).1
       have hjr:(invT A)[j]=r:=(List.getElem?_eq_some_iff.1 hj).2
       have hyl:ys.length=c:=by have:=hownO.1;omega
       have h1:=HV.out j (by omega)
       rw[getD_lt _ _ hjl,hjr] at h1
       refine⟨ys.getD j undef,?_,h1.mono (fun b hb=>hb.1)⟩
       rw[Nat.zero_add,hownO.cellAt j (by omega),List.getElem?_eq_getElem (by omega),getD_lt _ _ (by omega)]
end Go.Proofs.YtmehadfhcdpfcaaGreat
