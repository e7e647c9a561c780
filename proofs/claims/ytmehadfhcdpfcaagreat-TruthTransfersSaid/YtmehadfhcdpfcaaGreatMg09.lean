/- Policies and volumes of a made fleet under way. -/
import Derived.Deep.MidRow
import Derived.Test.YtmehadfhcdpfcaaGreatMg08
import Derived.Test.YtmehadfhcdpfcaaGreatMg01
set_option maxRecDepth 100000
set_option maxHeartbeats 12800000
namespace Go.Proofs.YtmehadfhcdpfcaaGreat
open Go.RowKit
set_option linter.unusedVariables false
set_option linter.unusedSimpArgs false
theorem HotBy.transNew{hot hot2:List (Option Nat)} {a b c:World} (h:HotBy hot a b) (k:HotBy hot2 b c) (hn:∀x,some x∈hot2→x<a.heap.size→some x∈hot):HotBy hot a c :=
 ⟨k.os.trans h.os,k.tape.trans h.tape,k.output.trans h.output,Nat.le_trans h.size k.size,fun x hx hm=>(k.block x (Nat.lt_of_lt_of_le hx h.size) (fun e=>hm (hn x e hx))).trans (h.block x hx hm)⟩
def Fz(lo hi:Nat) (v:Value) (b:Nat):Prop:=lo≤b∧b<hi∧v.ownBlock≠some b
theorem Fz.mono{lo hi hi':Nat} {v:Value} (h:hi≤hi'):∀b,Fz lo hi v b→Fz lo hi' v b:=fun b hb=>⟨hb.1,Nat.lt_of_lt_of_le hb.2.1 h,hb.2.2⟩
theorem Fz.kept{lo hi:Nat} {v:Value} {hot:List (Option Nat)} {w w':World} (hh:HotBy hot w w') (hi':hi≤w.heap.size) (hn:∀b,some b∈hot→lo≤b→b<hi→v.ownBlock=some b):Kept (Fz lo hi v) w w':=fun b hb=>hh.block b (Nat.lt_of_lt_of_le hb.2.1 hi') (fun e=>hb.2.2 (hn b e hb.1 hb.2.1))
theorem OwnK.pushF{α:Type} {size:Nat} {K:World→(Nat→Prop)→List Value→α→Prop} (hK:Steady K) {w2 w4:World} {base:Nat} {e:TypeId} {v v':Value} {es:List α} {cs c:List Value} {a:α} {hot:List (Option Nat)}
  (h2:∀k x,es[k]?=some x→∃c,c.length=size∧(∀i u,c[i]?=some u→cs[k * size+i]?=some u)∧K w2 (Fz base w2.heap.size v) c x) (hl:cs.length=es.length * size) (hv:∀b,v.ownBlock=some b→b<w2.heap.size)
  (ho:w4.ownsRow base e size v' (es.length+1) (cs++c)) (hc:c.length=size) (ha:K w2 (Fz base w2.heap.size v) c a) (hh:HotBy hot w2 w4) (hn:∀b,some b∈hot→base≤b→b<w2.heap.size→v.ownBlock=some b) (hat:v'.ownBlock=v.ownBlock∨∃x,v'.ownBlock=some x∧w2.heap.size≤x) :
  OwnK size K w4 base e v' (es++[a]) (Fz base w4.heap.size v'):=by
 have hr:∀b,Fz base w2.heap.size v b→Fz base w4.heap.size v' b:=fun b hb=>⟨hb.1,Nat.lt_of_lt_of_le hb.2.1 hh.size,fun e=>by
  rcases hat with h | ⟨x,h,hx⟩
  ·exact hb.2.2 (h▸e)
  ·rw[h] at e;injection e with e;have:=hb.2.1;omega⟩
 have hk:Kept (Fz base w2.heap.size v) w2 w4:=Fz.kept hh (Nat.le_refl _) hn
 exact OwnK.push (v:=v) hK h2 hl ho hc hk hr (hK.mono hr (hK.keep hk ha))
theorem OwnK.stayF{α:Type} {size:Nat} {K:World→(Nat→Prop)→List Value→α→Prop} (hK:Steady K) {w w':World} {base:Nat} {e:TypeId} {v:Value} {es:List α} {hot:List (Option Nat)} (h:OwnK size K w base e v es (Fz base w.heap.size v)) (hh:HotBy hot w w') (hn:∀b,some b∈hot→b<base∨w.heap.size≤b):OwnK size K w' base e v es (Fz base w'.heap.size v):=by
 obtain⟨cs,h1,h2⟩:=h
 refine⟨cs,own_hot h1 hh (fun g hg e=>by have:=h1.lt g hg;have:=hn g e;omega),fun k a ha=>?_⟩
 obtain⟨c,g1,g2,g3⟩:=h2 k a ha
 exact⟨c,g1,g2,hK.mono (Fz.mono hh.size) (hK.keep (Fz.kept hh (Nat.le_refl _) (fun b e h3 h4=>by have:=hn b e;omega)) g3)⟩
structure InP (gT:Nat) (vt:Value) (wr0 w1:World) (I:Nat):Prop where
 tape:TapeB w1 gT vt I
 hot:HotBy [some gT] wr0 w1
section
variable {w0 wr0 w1 w2 WA : World} {R : Nat → Prop} {gT : Nat} {vt : Value} {xs : List Int} {gF : Nat} {I : Nat}
theorem InP.start(h:TapeB wr0 gT vt I):InP gT vt wr0 wr0 I:=⟨h,HotBy.refl _ _⟩
theorem InP.below(h:InP gT vt wr0 w1 I) (hb:Below w1.heap.size w1 w2):InP gT vt wr0 w2 I:=⟨(hb.block gT h.tape.lt).trans h.tape,h.hot.trans (HotBy.below hb)⟩
theorem InP.alloc(h:InP gT vt wr0 w1 I) (o:Obj):InP gT vt wr0 (w1.alloc o) I:=h.below ((Below.refl _ _).alloc (Nat.le_refl _) _)
theorem InP.new(h:InP gT vt wr0 w1 I) (hT:gT<wr0.heap.size) {hot:List (Option Nat)} (hh:HotBy hot w1 w2) (hn:∀b,some b∈hot→wr0.heap.size≤b):InP gT vt wr0 w2 I :=
 ⟨(hh.block gT h.tape.lt (fun e=>by have:=hn gT e;omega)).trans h.tape,h.hot.transNew hh (fun x e hx=>by have:=hn x e;omega)⟩
theorem InP.set(h:InP gT vt wr0 w1 I) (hT:gT<wr0.heap.size) (g i:Nat) (u:Value) (hg:wr0.heap.size≤g):InP gT vt wr0 (w1.setCell ⟨g,i,none⟩ u) I :=
 h.new hT (HotBy.setCell [some g] w1 ⟨g,i,none⟩ u (by simp)) (fun b e=>by simp at e;omega)
theorem InP.next_any(S:StatA w0 R gT vt xs WA gF) (h0:HotBy [some gT,some gF] WA wr0) (h:InP gT vt wr0 w1 I) (hI:I≤1000000000) (n:Nat) (h1:1≤n) (h2:n≤1000000) (nv:Int) (hn:nv=(n:Int)) :
  Calls Tryz.prog 18 #[.pointer (some ⟨gT,0,none⟩),.int .i64 nv] w1 fun e w'=>∃r:Nat,e=.returned (.int .i64 (r:Int))∧r<n∧InP gT vt wr0 w' (I+1)∧HotBy [some gT] w1 w':=by
 subst hn
 refine(next_hot w0 R gT vt xs S.hx S.hR w1 (S.w0 (h0.trans (h.hot.more (fun x hx _=>by simp at hx ⊢;exact .inl hx)))) I h.tape (by omega) n h1 (by omega)).mono ?_
 rintro e w' ⟨r,rfl,hr,hT,hg⟩
 have hh:HotBy [some gT] w1 w':=HotBy.grown hg (.inl (by simp))
 exact⟨r,rfl,hr,⟨hT,h.hot.trans hh⟩,hh⟩
end
theorem HotBy.keptFr{hot:List (Option Nat)} {w w':World} (h:HotBy hot w w') {lo hi:Nat} (hn:∀b,some b∈hot→b<lo∨hi≤b) (hh:hi≤w.heap.size):Kept (Fr lo hi) w w':=fun b hb=>h.block b (Nat.lt_of_lt_of_le hb.2 hh) (fun e=>by have:=hn b e;have h1:=hb.1;have h2:=hb.2;omega)
theorem Fr.more{a b c d:Nat} (h:c≤a) (k:b≤d):∀x,Fr a b x→Fr c d x:=fun x hx=>⟨Nat.le_trans h hx.1,Nat.lt_of_lt_of_le hx.2 k⟩
theorem ints_lit(w:World) (B:Nat) (hB:B≤w.heap.size) (xs:List Int) (h0:xs.length≤maxLen) (hx:∀x∈xs,I64 x):IntS (w.alloc (.cells (xs.map (Value.int .i64)).toArray 3)) (Fr B (w.alloc (.cells (xs.map (Value.int .i64)).toArray 3)).heap.size) (.slice (some ⟨w.heap.size,0,none⟩) xs.length xs.length) xs :=
 ⟨⟨_,_,rfl,Nat.le_refl _,h0,fun _=>⟨_,_,rfl,⟨hB,by simp⟩,fun k x hk=>by
  rw[Nat.zero_add,cell_of_row _ _ _ _ _ _ (heap_alloc_new w _)]
  simp[hk]⟩⟩,hx⟩
theorem ints01(w:World) (B:Nat) (hB:B≤w.heap.size):IntS (w.alloc (.cells #[.int .i64 0,.int .i64 1] 3)) (Fr B (w.alloc (.cells #[.int .i64 0,.int .i64 1] 3)).heap.size) (.slice (some ⟨w.heap.size,0,none⟩) 2 2) [0,1] :=
 ints_lit w B hB [0,1] (by unfold maxLen;simp) (by intro x hx;simp at hx;rcases hx with rfl | rfl <;> exact⟨by omega,by omega⟩)
theorem ints0(w:World) (B:Nat) (hB:B≤w.heap.size):IntS (w.alloc (.cells #[.int .i64 0] 3)) (Fr B (w.alloc (.cells #[.int .i64 0] 3)).heap.size) (.slice (some ⟨w.heap.size,0,none⟩) 1 1) [0] :=
 ints_lit w B hB [0] (by unfold maxLen;simp) (by intro x hx;simp at hx;subst hx;exact⟨by omega,by omega⟩)
structure InvB (gT:Nat) (vt:Value) (WB:World) (gF:Nat) (ext:Int) (vl vm vd vv:Value) (wr:World) (I:Nat) (vp:Value) (ps:List PolM):Prop where
 tape:TapeB wr gT vt I
 hot:HotBy [some gT,some gF] WB wr
 flt:FltB wr gF ext vl vm vd vv vp (.slice none 0 0)
 pol:OwnK 17 PolK wr WB.heap.size 63 vp ps (Fz WB.heap.size wr.heap.size vp)
section
variable {gT : Nat} {vt : Value} {WB : World} {gF : Nat} {ext : Int} {vl vm vd vv vp vo : Value} {wr w' : World} {I J : Nat} {ps : List PolM}
theorem InvB.stay(hT:gT<WB.heap.size) (hF:gF<WB.heap.size) (hne:gF≠gT) (h:InvB gT vt WB gF ext vl vm vd vv wr I vp ps) (hh:HotBy [some gT] wr w') (ht:TapeB w' gT vt J):InvB gT vt WB gF ext vl vm vd vv w' J vp ps :=
 ⟨ht,h.hot.trans (hh.more (fun x hx _=>by simp at hx ⊢;exact .inl hx)),(hh.block gF h.flt.lt (fun e=>by simp at e;exact hne e)).trans h.flt,h.pol.stayF polK hh (fun b e=>by simp at e;omega)⟩
theorem InvB.push(hT:gT<WB.heap.size) (hF:gF<WB.heap.size) (hne:gF≠gT) (h:InvB gT vt WB gF ext vl vm vd vv wr I vp ps) {cs c:List Value} (c1:wr.ownsRow WB.heap.size 63 17 vp ps.length cs)
  (c2:∀k x,ps[k]?=some x→∃c,c.length=17∧(∀i u,c[i]?=some u→cs[k * 17+i]?=some u)∧PolK wr (Fz WB.heap.size wr.heap.size vp) c x) {p:PolM} (hc:c.length=17) (ha:PolK wr (Fz WB.heap.size wr.heap.size vp) c p) {o:Obj} {w4:World} {vp':Value}
  (hown:w4.ownsRow WB.heap.size 63 17 vp' (ps.length+1) (cs++c)) (hg:(wr.alloc o).grownBy w4 vp.ownBlock) (hat:vp'.ownBlock=vp.ownBlock∨vp'.ownBlock=some (wr.heap.size+1)) :
  InvB gT vt WB gF ext vl vm vd vv (w4.setCell ⟨gF,5,none⟩ vp') I vp' (ps++[p]):=by
 have hvp:∀b,vp.ownBlock=some b→WB.heap.size≤b∧b<wr.heap.size:=fun b hb=>c1.lt b hb
 have hh:HotBy [some gF,vp.ownBlock] wr (w4.setCell ⟨gF,5,none⟩ vp'):=((HotBy.alloc _ wr o).trans (HotBy.grown hg (.inl (by simp)))).trans (HotBy.setCell _ _ _ _ (by simp))
 have hgT:some gT∉[some gF,vp.ownBlock]:=fun e=>by
  simp at e
  rcases e with e | e
  ·exact hne e.symm
  ·have:=(hvp gT e.symm).1;omega
 have hgF:some gF≠vp.ownBlock:=fun e=>by have:=(hvp gF e.symm).1;omega
 have hFl:=h.flt.lt
 have hF4:FltB w4 gF ext vl vm vd vv vp (.slice none 0 0):=h.flt.grown5 hg hgF
 refine⟨(hh.block gT h.tape.lt hgT).trans h.tape,⟨hh.os.trans h.hot.os,hh.tape.trans h.hot.tape,hh.output.trans h.hot.output,Nat.le_trans h.hot.size hh.size,fun b hb hn=>(hh.block b (Nat.lt_of_lt_of_le hb h.hot.size) (fun e=>by
  simp at e hn
  rcases e with e | e
  ·exact hn.2 e
  ·have:=(hvp b e.symm).1;omega)).trans (h.hot.block b hb hn)⟩,heap_setCell_same w4 gF 5 _ _ _ hF4,?_⟩
 have hno:some gF≠vp'.ownBlock:=fun e=>by
  rcases hat with h1 | h1
  ·exact hgF (e.trans h1)
  ·rw[h1] at e;injection e with e;omega
 refine OwnK.pushF polK c2 c1.1 (fun b hb=>(hvp b hb).2) (hown.kept (only_set1 w4 gF 5 vp') (.inr (fun e=>hno e.symm))) hc ha hh (fun b e h3 h4=>?_) ?_
 ·simp at e
  rcases e with e | e
  ·omega
  ·exact e.symm
 ·rcases hat with h1 | h1
  ·exact .inl h1
  ·exact .inr ⟨_,h1,by omega⟩
def PolB(w:World) (g:Nat) (name:ByteArray) (k m q s3 s4:Int) (vm vr tn td hn hd:Value):Prop :=
 w.heap[g]?=some (.cells #[.string name,.int .i64 k,.int .i64 m,.int .i64 q,.int .i64 0,.int .i64 0,.int .i64 0,.int .i64 s3,.int .i64 s4,vm,vr,.bool false,tn,td,.bool false,hn,hd] 63 (0,0))
theorem PolB.lt{w:World} {g:Nat} {name:ByteArray} {k m q s3 s4:Int} {vm vr tn td hn hd:Value} (h:PolB w g name k m q s3 s4 vm vr tn td hn hd):g<w.heap.size:=(Array.getElem?_eq_some_iff.1 h).1
theorem PolB.frozen{w:World} {g:Nat} {name:ByteArray} {k m q s3 s4:Int} {vm vr tn td hn hd:Value} (h:PolB w g name k m q s3 s4 vm vr tn td hn hd) (i:Nat):w.frozen? ⟨g,i,none⟩=false:=frozen_of_row _ _ _ _ _ h
theorem PolB.cells{w:World} {g:Nat} {name:ByteArray} {k m q s3 s4:Int} {vm vr tn td hn hd:Value} (h:PolB w g name k m q s3 s4 vm vr tn td hn hd) :
  w.cell? ⟨g,0,none⟩=some (.string name)∧w.cell? ⟨g,1,none⟩=some (.int .i64 k)∧w.cell? ⟨g,2,none⟩=some (.int .i64 m)∧w.cell? ⟨g,3,none⟩=some (.int .i64 q)∧w.cell? ⟨g,4,none⟩=some (.int .i64 0)∧w.cell? ⟨g,5,none⟩=some (.int .i64 0)∧w.cell? ⟨g,6,none⟩=some (.int .i64 0)∧w.cell? ⟨g,7,none⟩=some (.int .i64 s3)∧w.cell? ⟨g,8,none⟩=some (.int .i64 s4)∧w.cell? ⟨g,9,none⟩=some vm∧w.cell? ⟨g,10,none⟩=some vr∧w.cell? ⟨g,11,none⟩=some (.bool false)∧w.cell? ⟨g,12,none⟩=some tn∧w.cell? ⟨g,13,none⟩=some td∧w.cell? ⟨g,14,none⟩=some (.bool false)∧w.cell? ⟨g,15,none⟩=some hn∧w.cell? ⟨g,16,none⟩=some hd:=by
 refine⟨?_,?_,?_,?_,?_,?_,?_,?_,?_,?_,?_,?_,?_,?_,?_,?_,?_⟩ <;> (rw[cell_of_row _ _ _ _ _ _ h];rfl)
theorem PolB.range{w:World} {g:Nat} {name:ByteArray} {k m q s3 s4:Int} {vm vr tn td hn hd:Value} (h:PolB w g name k m q s3 s4 vm vr tn td hn hd):w.rangeAt g 0 [.string name,.int .i64 k,.int .i64 m,.int .i64 q,.int .i64 0,.int .i64 0,.int .i64 0,.int .i64 s3,.int .i64 s4,vm,vr,.bool false,tn,td,.bool false,hn,hd]:=fun j v hv=>by
 rw[Nat.zero_add,cell_of_row _ _ _ _ _ _ h]
 simpa using hv
theorem size_pol:(Tryz.prog.info? 63).map (·.size)=some 17:=by kernel_rfl
theorem PolB.set7{w:World} {g:Nat} {name:ByteArray} {k m q s3 s4:Int} {vm vr tn td hn hd:Value} (h:PolB w g name k m q s3 s4 vm vr tn td hn hd) (x:Int):PolB (w.setCell ⟨g,7,none⟩ (.int .i64 x)) g name k m q x s4 vm vr tn td hn hd:=heap_setCell_same w g 7 _ _ _ h
theorem PolB.set8{w:World} {g:Nat} {name:ByteArray} {k m q s3 s4:Int} {vm vr tn td hn hd:Value} (h:PolB w g name k m q s3 s4 vm vr tn td hn hd) (x:Int):PolB (w.setCell ⟨g,8,none⟩ (.int .i64 x)) g name k m q s3 x vm vr tn td hn hd:=heap_setCell_same w g 8 _ _ _ h
theorem PolB.set9{w:World} {g:Nat} {name:ByteArray} {k m q s3 s4:Int} {vm vr tn td hn hd:Value} (h:PolB w g name k m q s3 s4 vm vr tn td hn hd) (x:Value):PolB (w.setCell ⟨g,9,none⟩ x) g name k m q s3 s4 x vr tn td hn hd:=heap_setCell_same w g 9 _ _ _ h
theorem PolB.set10{w:World} {g:Nat} {name:ByteArray} {k m q s3 s4:Int} {vm vr tn td hn hd:Value} (h:PolB w g name k m q s3 s4 vm vr tn td hn hd) (x:Value):PolB (w.setCell ⟨g,10,none⟩ x) g name k m q s3 s4 vm x tn td hn hd:=heap_setCell_same w g 10 _ _ _ h
theorem PolB.hot{w:World} {g:Nat} {name:ByteArray} {k m q s3 s4:Int} {vm vr tn td hn hd:Value} (h:PolB w g name k m q s3 s4 vm vr tn td hn hd) {hot:List (Option Nat)} (hh:HotBy hot w w') (hn':some g∉hot):PolB w' g name k m q s3 s4 vm vr tn td hn hd:=(hh.block g h.lt hn').trans h
theorem PolB.grown5{w w':World} {o:Obj} {g:Nat} {name:ByteArray} {k m q s3 s4:Int} {vm vr tn td hn hd:Value} {row:Option Nat} (h:PolB w g name k m q s3 s4 vm vr tn td hn hd) (hg:(w.alloc o).grownBy w' row) (hne:some g≠row):PolB w' g name k m q s3 s4 vm vr tn td hn hd:=(hg.block g (by have:=h.lt;simp;omega) hne).trans ((Below.heap_alloc w o g h.lt).trans h)
theorem PolB.below{w w':World} {g:Nat} {name:ByteArray} {k m q s3 s4:Int} {vm vr tn td hn hd:Value} (h:PolB w g name k m q s3 s4 vm vr tn td hn hd) (hb:Below w.heap.size w w'):PolB w' g name k m q s3 s4 vm vr tn td hn hd:=(hb.block g h.lt).trans h
theorem info_pol:(Tryz.prog.info? 63).map (fun i=>(i.zero,i.size,i.bytes))=some (some (.agg #[.string ⟨#[]⟩,.int .i64 0,.int .i64 0,.int .i64 0,.int .i64 0,.int .i64 0,.int .i64 0,.int .i64 0,.int .i64 0,.slice none 0 0,.slice none 0 0,.bool false,.slice none 0 0,.slice none 0 0,.bool false,.slice none 0 0,.slice none 0 0]),17,240):=by kernel_rfl
theorem info_vol:(Tryz.prog.info? 65).map (fun i=>(i.zero,i.size,i.bytes))=some (some (.agg #[.string ⟨#[]⟩,.int .i64 0]),2,24):=by kernel_rfl
theorem info_frac:(Tryz.prog.info? 61).map (fun i=>(i.zero,i.size,i.bytes))=some (some (.agg #[.bool false,.slice none 0 0,.slice none 0 0]),3,56):=by kernel_rfl
theorem app_lit{ops:Array Oper} {rest:List Oper} {o:Oper} {a:Act} {Q:Exit→Act→World→Prop} {w:World} (cs:List Value) (e Ts:TypeId) {size bytes:Nat} {z:Value} (hinfo:(Tryz.prog.info? e).map (fun i=>(i.zero,i.size,i.bytes))=some (some z,size,bytes)) (hund:Tryz.prog.underlying Ts=some (.slice e)) (hzs:z.cells.size=size) (hs0:0<size) (hb:bytes≤4096)
  (hcs:cs.length=size) (h1:∀u∈cs,u.oneCell'=true) (s x:Operand) (hgd:o.guard=none) (ho:o.op=.call { callee:=.builtin .append,args:=#[s,x],argTypes:=#[Ts,Ts] })
  (base:Nat) (v:Value) (n:Nat) (xs:List Value) (hs:a.eval s=v) (hown:w.ownsRow base e size v n xs)
  (hx:a.eval x=.slice (some ⟨w.heap.size,0,none⟩) 1 1) (hn:n+1≤16777216) (hbase:base≤w.heap.size)
  (h:∀v' w',w'.ownsRow base e size v' (n+1) (xs++cs)→(w.alloc (.cells cs.toArray e)).grownBy w' v.ownBlock→(v'.ownBlock=v.ownBlock∨v'.ownBlock=some (w.heap.size+1))→wpList Tryz.prog ops Q rest (a.put o.dst v') w') :
  wpList Tryz.prog ops Q (o :: rest) a (w.alloc (.cells cs.toArray e)):=by
 obtain⟨i0,hi0,hz0,hz1,hz2⟩:=info_parts hinfo
 refine wpList_append_own_at (P:=Tryz.prog) _ hgd s x Ts ho base e i0 z size bytes hund hi0 hz0 hz1 hz2 hzs hs0 v n xs hs (hown.alloc _) ⟨w.heap.size,0,none⟩ 1 1 cs hx (by simp[hcs]) ?_ h1 (by unfold maxLen;omega) ?_ (by simp;omega) ?_
 ·intro j u hj
  have e1:(⟨w.heap.size,0,none⟩:Addr).add j=⟨w.heap.size,j,none⟩:=by unfold Addr.add;split <;> simp_all
  rw[e1,cell_of_row _ _ _ _ _ _ (heap_alloc_new w _)]
  simpa using hj
 ·calc (n+1) * bytes≤16777216 * 4096:=Nat.mul_le_mul hn hb
   _≤140737488355328:=by decide
 ·intro v' w' h2 h3 _ h5
  exact h v' w' h2 h3 (by simpa using h5)
def PolWell(p:PolM):Prop:=(p.k=1∨p.k=2)∧0≤p.m∧p.m≤2∧p.k≤p.q∧p.q≤p.k+p.m∧0≤p.s3∧p.s3≤3∧0≤p.s4∧p.s4≤2∧(p.models=[0,1]∨p.models=[0])∧p.repair=List.replicate (max p.m 1).toNat ⟨false,1,2⟩∧p.target=⟨false,1,1000⟩∧p.horizon=⟨false,30,1⟩
def PolOk(N:Nat) (ps:List PolM):Prop:=∀j p,ps[j]?=some p→j<N∧p.name=⟨(nameL 112 (N - j)).toArray⟩∧PolWell p
theorem PolOk.nil(N:Nat):PolOk N []:=fun j p h=>by simp at h
theorem PolOk.push{N:Nat} {ps:List PolM} (h:PolOk N ps) {p:PolM} (hn:ps.length<N) (h1:p.name=⟨(nameL 112 (N - ps.length)).toArray⟩) (h2:PolWell p):PolOk N (ps++[p]):=by
 intro j x hx
 rcases Nat.lt_or_ge j ps.length with hlt | hge
 ·rw[List.getElem?_append_left hlt] at hx
  exact h j x hx
 ·have he:j=ps.length:=by
   have:=(List.getElem?_eq_some_iff.1 hx).1
   rw[List.length_append] at this;simp at this;omega
  subst he
  rw[List.getElem?_append_right (Nat.le_refl _),Nat.sub_self] at hx
  simp at hx
  subst hx
  exact⟨hn,h1,h2⟩
def volC(x:VolM):List Value:=[.string x.name,.int .i64 x.pol]
structure InvC (gT:Nat) (vt:Value) (WC:World) (gF:Nat) (ext:Int) (vl vm vd vv vp:Value) (wr:World) (I:Nat) (vo:Value) (os:List VolM):Prop where
 tape:TapeB wr gT vt I
 hot:HotBy [some gT,some gF] WC wr
 flt:FltB wr gF ext vl vm vd vv vp vo
 vol:wr.ownsRow WC.heap.size 65 2 vo os.length (os.flatMap volC)
theorem InvC.stay{WC:World} {os:List VolM} (hT:gT<WC.heap.size) (hF:gF<WC.heap.size) (hne:gF≠gT) (h:InvC gT vt WC gF ext vl vm vd vv vp wr I vo os) (hh:HotBy [some gT] wr w') (ht:TapeB w' gT vt J):InvC gT vt WC gF ext vl vm vd vv vp w' J vo os :=
 ⟨ht,h.hot.trans (hh.more (fun x hx _=>by simp at hx ⊢;exact .inl hx)),(hh.block gF h.flt.lt (fun e=>by simp at e;exact hne e)).trans h.flt,own_hot h.vol hh (fun g hg e=>by have:=h.vol.lt g hg;simp at e;omega)⟩
theorem InvC.push{WC:World} {os:List VolM} (hT:gT<WC.heap.size) (hF:gF<WC.heap.size) (hne:gF≠gT) (h:InvC gT vt WC gF ext vl vm vd vv vp wr I vo os) {x:VolM} {o:Obj} {w4:World} {vo':Value}
  (hown:w4.ownsRow WC.heap.size 65 2 vo' (os.length+1) (os.flatMap volC++volC x)) (hg:(wr.alloc o).grownBy w4 vo.ownBlock) (hat:vo'.ownBlock=vo.ownBlock∨∃b,vo'.ownBlock=some b∧wr.heap.size≤b) :
  InvC gT vt WC gF ext vl vm vd vv vp (w4.setCell ⟨gF,6,none⟩ vo') I vo' (os++[x]):=by
 have hvo:∀b,vo.ownBlock=some b→WC.heap.size≤b∧b<wr.heap.size:=fun b hb=>h.vol.lt b hb
 have hh:HotBy [some gF,vo.ownBlock] wr (w4.setCell ⟨gF,6,none⟩ vo'):=((HotBy.alloc _ wr o).trans (HotBy.grown hg (.inl (by simp)))).trans (HotBy.setCell _ _ _ _ (by simp))
 have hgT:some gT∉[some gF,vo.ownBlock]:=fun e=>by
  simp at e
  rcases e with e | e
  ·exact hne e.symm
  ·have:=(hvo gT e.symm).1;omega
 have hgF:some gF≠vo.ownBlock:=fun e=>by have:=(hvo gF e.symm).1;omega
 have hFl:=h.flt.lt
 have hF4:FltB w4 gF ext vl vm vd vv vp vo:=h.flt.grown5 hg hgF
 have hno:some gF≠vo'.ownBlock:=fun e=>by
  rcases hat with h1 | ⟨b,h1,h2⟩
  ·exact hgF (e.trans h1)
  ·rw[h1] at e;injection e with e;omega
 refine⟨(hh.block gT h.tape.lt hgT).trans h.tape,⟨hh.os.trans h.hot.os,hh.tape.trans h.hot.tape,hh.output.trans h.hot.output,Nat.le_trans h.hot.size hh.size,fun b hb hn=>(hh.block b (Nat.lt_of_lt_of_le hb h.hot.size) (fun e=>by
  simp at e hn
  rcases e with e | e
  ·exact hn.2 e
  ·have:=(hvo b e.symm).1;omega)).trans (h.hot.block b hb hn)⟩,heap_setCell_same w4 gF 6 _ _ _ hF4,?_⟩
 have h6:=hown.kept (only_set1 w4 gF 6 vo') (.inr (fun e=>hno e.symm))
 rw[List.length_append,flatMap_snoc]
 exact h6
def VolOk(N M:Nat) (os:List VolM):Prop:=∀j x,os[j]?=some x→j<N∧x.name=⟨(nameL 118 (N - j)).toArray⟩∧∃p:Nat,x.pol=(p:Int)∧p<M
theorem VolOk.nil(N M:Nat):VolOk N M []:=fun j p h=>by simp at h
theorem VolOk.push{N M:Nat} {os:List VolM} (h:VolOk N M os) {x:VolM} (hn:os.length<N) (h1:x.name=⟨(nameL 118 (N - os.length)).toArray⟩) {p:Nat} (h2:x.pol=(p:Int)) (h3:p<M):VolOk N M (os++[x]):=by
 intro j y hy
 rcases Nat.lt_or_ge j os.length with hlt | hge
 ·rw[List.getElem?_append_left hlt] at hy
  exact h j y hy
 ·have he:j=os.length:=by
   have:=(List.getElem?_eq_some_iff.1 hy).1
   rw[List.length_append] at this;simp at this;omega
  subst he
  rw[List.getElem?_append_right (Nat.le_refl _),Nat.sub_self] at hy
  simp at hy
  subst hy
  exact⟨hn,h1,p,h2,h3⟩
theorem FltB.sett0{w:World} {g:Nat} {e:Int} {vl vm vd vv vp vo:Value} (h:FltB w g e vl vm vd vv vp vo) (x:Int):FltB (w.setCell ⟨g,0,none⟩ (.int .i64 x)) g x vl vm vd vv vp vo:=heap_setCell_same w g 0 _ _ _ h
theorem FltB.sett1{w:World} {g:Nat} {e:Int} {vl vm vd vv vp vo:Value} (h:FltB w g e vl vm vd vv vp vo) (u:Value):FltB (w.setCell ⟨g,1,none⟩ (u)) g e u vm vd vv vp vo:=heap_setCell_same w g 1 _ _ _ h
theorem FltB.sett2{w:World} {g:Nat} {e:Int} {vl vm vd vv vp vo:Value} (h:FltB w g e vl vm vd vv vp vo) (u:Value):FltB (w.setCell ⟨g,2,none⟩ (u)) g e vl u vd vv vp vo:=heap_setCell_same w g 2 _ _ _ h
theorem FltB.sett3{w:World} {g:Nat} {e:Int} {vl vm vd vv vp vo:Value} (h:FltB w g e vl vm vd vv vp vo) (u:Value):FltB (w.setCell ⟨g,3,none⟩ (u)) g e vl vm u vv vp vo:=heap_setCell_same w g 3 _ _ _ h
theorem FltB.sett4{w:World} {g:Nat} {e:Int} {vl vm vd vv vp vo:Value} (h:FltB w g e vl vm vd vv vp vo) (u:Value):FltB (w.setCell ⟨g,4,none⟩ (u)) g e vl vm vd u vp vo:=heap_setCell_same w g 4 _ _ _ h
theorem FltB.sett5{w:World} {g:Nat} {e:Int} {vl vm vd vv vp vo:Value} (h:FltB w g e vl vm vd vv vp vo) (u:Value):FltB (w.setCell ⟨g,5,none⟩ (u)) g e vl vm vd vv u vo:=heap_setCell_same w g 5 _ _ _ h
theorem FltB.sett6{w:World} {g:Nat} {e:Int} {vl vm vd vv vp vo:Value} (h:FltB w g e vl vm vd vv vp vo) (u:Value):FltB (w.setCell ⟨g,6,none⟩ (u)) g e vl vm vd vv vp u:=heap_setCell_same w g 6 _ _ _ h
theorem FltB.store7{w:World} {g:Nat} {e:Int} {vl vm vd vv vp vo:Value} (h:FltB w g e vl vm vd vv vp vo) (e':Int) (vl' vm' vd' vv' vp' vo':Value) :
  FltB (((((((w.setCell ⟨g,0,none⟩ (.int .i64 e')).setCell ⟨g,1,none⟩ vl').setCell ⟨g,2,none⟩ vm').setCell ⟨g,3,none⟩ vd').setCell ⟨g,4,none⟩ vv').setCell ⟨g,5,none⟩ vp').setCell ⟨g,6,none⟩ vo') g e' vl' vm' vd' vv' vp' vo' :=
 ((((((h.sett0 e').sett1 vl').sett2 vm').sett3 vd').sett4 vv').sett5 vp').sett6 vo'
theorem HotBy.setOf{hot:List (Option Nat)} {a w:World} (h:HotBy hot a w) {g:Nat} (hg:some g∈hot∨a.heap.size≤g) (i:Nat) (x:Value):HotBy hot a (w.setCell ⟨g,i,none⟩ x) :=
 h.transNew (HotBy.setCell [some g] w ⟨g,i,none⟩ x (by simp)) (fun y hy hl=>by
  simp at hy;subst hy
  rcases hg with hg | hg
  ·exact hg
  ·omega)
theorem HotBy.store7{hot:List (Option Nat)} {a w:World} (h:HotBy hot a w) {g:Nat} (hg:some g∈hot∨a.heap.size≤g) (x0 x1 x2 x3 x4 x5 x6:Value) :
  HotBy hot a (((((((w.setCell ⟨g,0,none⟩ x0).setCell ⟨g,1,none⟩ x1).setCell ⟨g,2,none⟩ x2).setCell ⟨g,3,none⟩ x3).setCell ⟨g,4,none⟩ x4).setCell ⟨g,5,none⟩ x5).setCell ⟨g,6,none⟩ x6) :=
 ((((((h.setOf hg 0 x0).setOf hg 1 x1).setOf hg 2 x2).setOf hg 3 x3).setOf hg 4 x4).setOf hg 5 x5).setOf hg 6 x6
theorem HotBy.to_grown{w w':World} {g:Nat} (h:HotBy [some g] w w'):w.grownBy w' (some g):=⟨h.os,h.tape,h.output,h.size,fun b hb hn=>h.block b hb (fun e=>by simp at e;exact hn (by rw[e]))⟩
theorem form3{v:Value} {n:Nat} (h:∃A c,v=.slice A n c):∃A m c,v=.slice A m c:=by
 obtain⟨A,c,e⟩:=h
 exact⟨A,n,c,e⟩
theorem SlS.form3{α:Type} {size:Nat} {K:World→(Nat→Prop)→List Value→α→Prop} {w:World} {R:Nat→Prop} {v:Value} {es:List α} (h:SlS size K w R v es):∃A n c,v=.slice A n c:=by
 obtain⟨A,c,e,-,-⟩:=h.form
 exact⟨A,_,c,e⟩
structure FleetOk (N:Nat) (F:FltM):Prop where
 ext:F.ext=1∨F.ext=2
 laws:∃r:Nat,r<100∧F.laws=[⟨{ data:=#[100,105,115,107] },[⟨false,1,1⟩],[[⟨false,0,1⟩]],[⟨false,1,100+r⟩]⟩]
 models:∃a b c d:Nat,a<2∧b<9∧c<3∧d<9∧F.models=[⟨{ data:=#[98,105,103] },3+(a:Int),8+(b:Int),0⟩,⟨{ data:=#[111,108,100] },1+(c:Int),4+(d:Int),0⟩]
 doms:DomOk F.doms
 domN:F.doms.length≤21
 dves:DveOk F.dves F.doms
 dve1:1≤F.dves.length
 dveN:F.dves.length≤9
 pols:PolOk F.pols.length F.pols
 pol1:1≤F.pols.length
 polN:F.pols.length≤2
 vols:VolOk F.vols.length F.pols.length F.vols
 vol1:1≤F.vols.length
 volN:F.vols.length≤N
theorem slS_of_own3{w:World} {base:Nat} {e:TypeId} {v:Value} {vs:List DveM} {R:Nat→Prop} (h:w.ownsRow base e 3 v vs.length (vs.flatMap dveC)) (hR:∀b,v.ownBlock=some b→R b):SlS 3 DveK w R v vs:=by
 refine OwnK.slS (R:=R) dveK ⟨_,h,fun k a ha=>⟨dveC a,rfl,fun i u hu=>?_,rfl⟩⟩ (fun _ h=>h) hR
 clear h hR
 induction vs generalizing k with
 | nil=>simp at ha
 | cons x xs ih =>
  rw[List.flatMap_cons]
  cases k with
  | zero =>
   simp at ha;subst ha
   rw[Nat.zero_mul,Nat.zero_add,List.getElem?_append_left (List.getElem?_eq_some_iff.1 hu).1];exact hu
  | succ k =>
   rw[List.getElem?_append_right (by show 3≤_;omega)]
   have:=ih k (by simpa using ha)
   rw[show(k+1) * 3+i - (dveC x).length=k * 3+i by show _ - 3=_;omega]
   exact this
theorem slS_of_own2{w:World} {base:Nat} {e:TypeId} {v:Value} {vs:List VolM} {R:Nat→Prop} (h:w.ownsRow base e 2 v vs.length (vs.flatMap volC)) (hR:∀b,v.ownBlock=some b→R b):SlS 2 VolK w R v vs:=by
 refine OwnK.slS (R:=R) volK ⟨_,h,fun k a ha=>⟨volC a,rfl,fun i u hu=>?_,rfl⟩⟩ (fun _ h=>h) hR
 clear h hR
 induction vs generalizing k with
 | nil=>simp at ha
 | cons x xs ih =>
  rw[List.flatMap_cons]
  cases k with
  | zero =>
   simp at ha;subst ha
   rw[Nat.zero_mul,Nat.zero_add,List.getElem?_append_left (List.getElem?_eq_some_iff.1 hu).1];exact hu
  | succ k =>
   rw[List.getElem?_append_right (by show 2≤_;omega)]
   have:=ih k (by simpa using ha)
   rw[show(k+1) * 2+i - (volC x).length=k * 2+i by show _ - 2=_;omega]
   exact this
theorem InvB.inP(h:InvB gT vt WB gF ext vl vm vd vv wr I vp ps) (hT:gT<WB.heap.size) (hF:gF<WB.heap.size) (hne:gF≠gT) (hi:InP gT vt wr w' J):InvB gT vt WB gF ext vl vm vd vv w' J vp ps:=h.stay hT hF hne hi.hot hi.tape
theorem InvC.inP{WC:World} {os:List VolM} (h:InvC gT vt WC gF ext vl vm vd vv vp wr I vo os) (hT:gT<WC.heap.size) (hF:gF<WC.heap.size) (hne:gF≠gT) (hi:InP gT vt wr w' J):InvC gT vt WC gF ext vl vm vd vv vp w' J vo os:=h.stay hT hF hne hi.hot hi.tape
end
end Go.Proofs.YtmehadfhcdpfcaaGreat

namespace Go.Proofs.YtmehadfhcdpfcaaGreat
open Go.RowKit
set_option linter.unusedVariables false
set_option linter.unusedSimpArgs false
def bitAt(l:List UInt8) (p:Nat):Bool:=(l.getD (p / 8) 0).toNat.testBit (7 - p % 8)
def Win(bit:Nat) (l x:List UInt8):Prop:=x.length=l.length∧∀p,p<bit∨bit+32≤p→bitAt x p=bitAt l p
theorem Win.refl(bit:Nat) (l:List UInt8):Win bit l l:=⟨rfl,fun _ _=>rfl⟩
theorem bitAt_set{x:List UInt8} {q k:Nat} {y:UInt8} (hq:q<x.length) (hk:k<8) (hy:y.toNat=x[q].toNat ^^^ 2 ^ (7 - k)) (p:Nat) (hp:p≠8 * q+k):bitAt (x.set q y) p=bitAt x p:=by
 unfold bitAt
 by_cases h:p / 8=q
 ·rw[h]
  have h1:(x.set q y).getD q 0=y:=by rw[List.getD,List.getElem?_set_self hq];rfl
  have h2:x.getD q 0=x[q]:=by rw[List.getD,List.getElem?_eq_getElem hq];rfl
  rw[h1,h2,hy,Nat.testBit_xor]
  have h3:(2 ^ (7 - k)).testBit (7 - p % 8)=false:=by rw[Nat.testBit_two_pow_of_ne];omega
  rw[h3];simp
 ·have h1:(x.set q y).getD (p / 8) 0=x.getD (p / 8) 0:=by rw[List.getD,List.getD,List.getElem?_set_ne (by omega)]
  rw[h1]
theorem flip_win(l:List UInt8) (bit:Nat) (mask:Int) (w:World) (hl:l.length≤65536) (hb:bit≤8 * l.length) (hm:0≤mask∧mask≤4294967295) :
  Calls Tryz.prog 32 #[.string ⟨l.toArray⟩,.int .i64 (bit:Int),.int .u32 mask] w fun e w'=>∃x:List UInt8,e=.returned (.string ⟨x.toArray⟩)∧Win bit l x∧Below w.heap.size w w':=by
 obtain⟨W2,cap2,hrun,hbW2,hltW,hcap,hbuf⟩:=run_bytes_ex (P:=Tryz.prog) w 9 88 5 l Tryz.underlying9 Tryz.underlying88 Tryz.underlying5
 obtain⟨hm0,hm1⟩:=hm
 go_enter Tryz.func32,Tryz.ntmps32
 go_wp2
 obtain⟨g,hg⟩:=zx w.heap.size
 rw[←hg] at hbuf hltW ⊢
 have hgw:w.heap.size≤g:=by omega
 clear hg
 go_loopg [8] 32 (fun n v8 wr=>∃(i:Nat) (x:List UInt8),i≤32∧n=32 - i∧v8=.int .i64 (i:Nat)∧BufAt wr g x∧Hid (Win bit l x)∧Below w.heap.size w wr)
 case atStart=>exact⟨0,l,by omega,rfl,rfl,hbuf,Win.refl _ _,hbW2⟩
 case round =>
  clear hbuf hbW2
  obtain⟨i,x,hi,rfl,rfl,hbuf,hx,hbr⟩:=hrel
  have hxl:=zh hx.out.1
  by_cases hlt:i<32
  ·have h31:(0:Int)≤31 - (i:Int):=by omega
   by_cases hat:(bit:Int)+(i:Int)<8 * (l.length:Int)
   ·have hq:(bit+i) / 8<x.length:=by have:=hxl.out;omega
    obtain⟨hcell,hfz⟩:=hbuf _ _ (List.getElem?_eq_getElem hq)
    obtain⟨y,hy1,hy2⟩:=flip_byte x[(bit+i) / 8] ((bit+i) % 8) (by omega)
    have HY:=zh hy1
    have HX:=zh (show Win bit l (x.set ((bit+i) / 8) y) from⟨by rw[List.length_set];exact hx.out.1,fun p hp=>(bitAt_set hq (by omega) hy2 p (by omega)).trans (hx.out.2 p hp)⟩)
    clear hy1 hy2
    go_wp2
    ·go_roundg (32 - (i+1))
     case measure=>omega
     case rel=>exact⟨i+1,_,by omega,rfl,by go_num,by rw[HY.out];exact hbuf.set_ hq y,HX,hbr.setCell hgw _⟩
    ·go_roundg (32 - (i+1))
     case measure=>omega
     case rel=>exact⟨i+1,x,by omega,rfl,by go_num,hbuf,hx,hbr⟩
   ·go_wp2
    all_goals
     go_roundg (32 - (i+1))
     case measure=>omega
     case rel=>exact⟨i+1,x,by omega,rfl,by go_num,hbuf,hx,hbr⟩
  ·obtain rfl:i=32:=by omega
   have hcv:(convert 88 9 (.slice (some ⟨g,0,none⟩) l.length cap2)).run Tryz.prog wr=.ok (.string ⟨x.toArray⟩) wr:=by
    have h:=conv_bytes (hbuf.byS (c:=cap2) (R:=fun _=>True) (by rw[hxl.out];exact hcap) (by rw[hxl.out];unfold maxLen;omega) trivial)
    rw[hxl.out] at h
    exact h
   go_wp2
   go_ret
   exact⟨x,rfl,hx.out,hbr⟩
structure Stp where
 vol:Nat
 stripe:Nat
 ver:Nat
 side:Nat
 k:Nat
 m:Nat
 rows:Mat
def Stp.ack(x:Stp):Ac:=⟨(x.vol:Int),(x.stripe:Int),(x.ver:Int),(x.side:Int)⟩
def Stp.word(x:Stp):Mat:=wordT x.k (x.k+x.m) x.rows 16
def oldB:List UInt8:=[111,108,100,32,100,97,116,97,32,111,108,100,32,100,97,116]
def Stp.piece(x:Stp) (i g:Nat) (old:Bool):Pc :=
 if old then⟨(x.vol:Int),(i:Int),(x.stripe:Int),(g:Int),(x.ver:Int) - 1,oldB⟩ else⟨(x.vol:Int),(i:Int),(x.stripe:Int),(g:Int),(x.ver:Int),x.word.getD i []⟩
def blankB:List UInt8:=List.replicate 36 0
def SecOk(st:List Stp) (s:List UInt8):Prop:=s=blankB∨∃x∈st,∃i g old bit,i<x.k+x.m∧1≤g∧g≤3∧Win bit (encB (x.piece i g old)) s
theorem SecOk.more{st:List Stp} {s:List UInt8} (h:SecOk st s) (x:Stp):SecOk (st++[x]) s:=by
 rcases h with h | ⟨y,hy,h⟩
 ·exact .inl h
 ·exact .inr ⟨y,by simp[hy],h⟩
structure StpOk (F:FltM) (x:Stp):Prop where
 pol:∃v p,F.vols[x.vol]?=some v∧F.pols[v.pol.toNat]?=some p∧(x.k:Int)=p.k∧(x.m:Int)=p.m
 k1:1≤x.k
 k2:x.k≤2
 m2:x.m≤2
 ver1:2≤x.ver
 ver2:x.ver≤4
 side:x.side≤1
 vol:x.vol≤100
 stripe:x.stripe≤1
 len:x.rows.length=x.k
 wide:Wide x.rows 16
def keysTo(ext v s:Nat):List (Nat×Nat):=(List.range v).flatMap (fun v=>(List.range ext).map fun s=>(v,s))++(List.range s).map fun s=>(v,s)
theorem keysTo_succ(ext v s:Nat):keysTo ext v (s+1)=keysTo ext v s++[(v,s)]:=by
 unfold keysTo
 rw[List.range_succ,List.map_append,←List.append_assoc];rfl
theorem keysTo_next(ext v:Nat):keysTo ext v ext=keysTo ext (v+1) 0:=by
 unfold keysTo
 rw[List.range_succ,List.flatMap_append];simp
def DataOk(st:List Stp) (f:Int→Int→Option Value):Prop:=∀x∈st,f (x.vol:Int) (x.stripe:Int)=some (.string ⟨(x.rows.flatten).toArray⟩)
end Go.Proofs.YtmehadfhcdpfcaaGreat

namespace Go.Proofs.YtmehadfhcdpfcaaGreat
open Go.RowKit
open Go.ChangeMaps Go.MapKept Go.WideShapes
open Go.WideElems (Fit rd rg pl rd_key rd_val rg_of)
open Go.Maps (Keyed)
set_option linter.unusedVariables false
set_option linter.unusedSimpArgs false
theorem skey_row:(74:TypeId)<Tryz.prog.types.size:=of_decide_eq_true (by kernel_rfl)
theorem skey_wide:(match Tryz.prog.underlying 74 with | some (.array _ _) | some (.struct _)=>true | _=>false)=true:=by rw[Tryz.underlying74]
theorem skey_law:WideMaps.KeyLaw Tryz.prog 74:=deep_law_laid laidOut17 (m:=2) (by omega) skey_row (by kernel_rfl) skey_wide
theorem skey_type:Tryz.prog.keyType 74=true:=by kernel_rfl
theorem skey_cells:Tryz.prog.cellsOf 74=2:=by kernel_rfl
theorem sint_cells:Tryz.prog.cellsOf 3=1:=by kernel_rfl
theorem skey_lits(n:Nat) (a b:Int) (ha:I64 a) (hb:I64 b):Tryz.prog.keyLits (n+2) 74 [.int .i64 a,.int .i64 b]=some [.int .i64 a,.int .i64 b]:=by
 have h1:=(i64_wf a).2 ha
 have h2:=(i64_wf b).2 hb
 simp[Program.keyLits,Tryz.underlying74,Tryz.underlying3,skey_cells,sint_cells,h1,h2]
theorem skey_lits_inv(n:Nat) (cs:List Value) (l:List Lit) (h:Tryz.prog.keyLits (n+2) 74 cs=some l):∃a b,cs=[.int .i64 a,.int .i64 b]∧I64 a∧I64 b:=by
 simp[Program.keyLits,Tryz.underlying74,Tryz.underlying3,skey_cells,sint_cells] at h
 obtain⟨hl,h⟩:=h
 match cs,hl with
 | [x,y],hxl =>
  simp at h
  clear hxl
  cases x
  case int q a =>
   by_cases hq:q=.i64∧(Lit.int .i64 a).wf=true
   ·obtain⟨rfl,hwa⟩:=hq
    cases y
    case int q2 b =>
     by_cases hq2:q2=.i64∧(Lit.int .i64 b).wf=true
     ·obtain⟨rfl,hwb⟩:=hq2
      exact⟨a,b,rfl,(i64_wf a).1 hwa,(i64_wf b).1 hwb⟩
     ·exfalso
      by_cases hq3:q2=.i64
      ·subst hq3
       have:(Lit.int .i64 b).wf=false:=by rw[Bool.eq_false_iff];exact fun e=>hq2 ⟨rfl,e⟩
       simp[hwa,this] at h
      ·simp[hwa,hq3] at h
    all_goals (exfalso;simp[hwa] at h)
   ·exfalso
    by_cases hq3:q=.i64
    ·subst hq3
     have:(Lit.int .i64 a).wf=false:=by rw[Bool.eq_false_iff];exact fun e=>hq ⟨rfl,e⟩
     simp[this] at h
    ·simp[hq3] at h
  all_goals (exfalso;simp at h)
theorem stypes_pos:∃n,Tryz.prog.types.size+1=n+2:=by
 have h:=skey_row
 revert h
 generalize Tryz.prog.types.size=s
 intro h
 have h2:(74:Nat)<s:=h
 exact⟨s - 1,by omega⟩
theorem skey_two:TwoKey 74 where
 law:=Keyed.of_law skey_law
 wide:=skey_law
 lit a b ha hb:=by
  obtain⟨n,hn⟩:=stypes_pos
  have h1:=skey_lits n a b ha hb
  refine⟨.string (keyBytes [.int .i64 a,.int .i64 b]),?_⟩
  unfold keyOf
  rw[Tryz.underlying74,hn]
  simp[skey_type,Value.formed,Tryz.underlying74,skey_cells,kv,Value.cells,h1]
 inv v l h:=by
  obtain⟨n,hn⟩:=stypes_pos
  unfold keyOf at h
  rw[Tryz.underlying74,hn] at h
  simp[skey_type] at h
  obtain⟨hf,ls,hk,-⟩:=h
  obtain⟨a,b,e,ha,hb⟩:=skey_lits_inv n _ _ hk
  refine⟨a,b,?_,ha,hb⟩
  cases v <;> simp[Value.formed,Tryz.underlying74] at hf
  rename_i cs
  unfold kv
  simp[Value.cells] at e
  congr 1
  exact Array.ext' (by simpa using e)
structure RowsP (w:World) (B:Nat) (vp:Value) (rs:List (Value×List ByteArray)):Prop where
 top:w.ownsRow B 50 1 vp rs.length (rs.map (·.1))
 row:∀(i:Nat) (x:Value×List ByteArray),rs[i]?=some x→w.ownsRow B 9 1 x.1 x.2.length (x.2.map Value.string)
 apart:∀(i j:Nat) (x y:Value×List ByteArray) (b:Nat),i≠j→rs[i]?=some x→rs[j]?=some y→x.1.ownBlock=some b→y.1.ownBlock≠some b
 size:∀(i:Nat) (x:Value×List ByteArray),rs[i]?=some x→∀s∈x.2,s.size=36
theorem RowsP.nil(w:World) (B:Nat):RowsP w B (.slice none 0 0) []:=⟨World.ownsRow_nil _ _ _ _,fun i x h=>by simp at h,fun i j x y b _ h=>by simp at h,fun i x h=>by simp at h⟩
def ownP(vp:Value) (rs:List (Value×List ByteArray)) (b:Nat):Prop:=vp.ownBlock=some b∨∃(i:Nat) (x:Value×List ByteArray),rs[i]?=some x∧x.1.ownBlock=some b
theorem RowsP.lt{w:World} {B:Nat} {vp:Value} {rs:List (Value×List ByteArray)} (h:RowsP w B vp rs) {b:Nat} (hb:ownP vp rs b):B≤b∧b<w.heap.size:=by
 rcases hb with hb | ⟨i,x,hx,hb⟩
 ·exact h.top.lt b hb
 ·exact(h.row i x hx).lt b hb
theorem own_type{w:World} {B:Nat} {e:TypeId} {s n:Nat} {v:Value} {xs:List Value} (h:w.ownsRow B e s v n xs) {b:Nat} (hb:v.ownBlock=some b):∃cs,w.heap[b]?=some (.cells cs e (0,0)):=by
 rcases h.2 with ⟨rfl,_⟩ | ⟨k,cap,cur,rfl,_,hh,_⟩
 ·simp[Value.ownBlock] at hb
 ·simp[Value.ownBlock] at hb
  subst hb
  exact⟨cur,hh⟩
theorem RowsP.type{w:World} {B:Nat} {vp:Value} {rs:List (Value×List ByteArray)} (h:RowsP w B vp rs) {b:Nat} (hb:ownP vp rs b):∃cs T,w.heap[b]?=some (.cells cs T (0,0))∧(T=50∨T=9):=by
 rcases hb with hb | ⟨i,x,hx,hb⟩
 ·obtain⟨cs,h1⟩:=own_type h.top hb
  exact⟨cs,_,h1,.inl rfl⟩
 ·obtain⟨cs,h1⟩:=own_type (h.row i x hx) hb
  exact⟨cs,_,h1,.inr rfl⟩
theorem RowsP.top_row{w:World} {B:Nat} {vp:Value} {rs:List (Value×List ByteArray)} (h:RowsP w B vp rs) {i:Nat} {x:Value×List ByteArray} (hx:rs[i]?=some x) {b:Nat} (h1:vp.ownBlock=some b):x.1.ownBlock≠some b:=fun h2=>own_apart h.top (h.row i x hx) (by decide) h1 h2 rfl
theorem RowsP.stay{w w':World} {B:Nat} {vp:Value} {rs:List (Value×List ByteArray)} {hot:List (Option Nat)} (h:RowsP w B vp rs) (hh:HotBy hot w w') (hn:∀b,some b∈hot→¬ownP vp rs b):RowsP w' B vp rs :=
 ⟨own_hot h.top hh (fun g hg e=>hn g e (.inl hg)),fun i x hx=>own_hot (h.row i x hx) hh (fun g hg e=>hn g e (.inr ⟨i,x,hx,hg⟩)),h.apart,h.size⟩
theorem RowsP.push{w w4:World} {B:Nat} {vp vp' v:Value} {rs:List (Value×List ByteArray)} {l:List ByteArray} (h:RowsP w B vp rs) (hv:w.ownsRow B 9 1 v l.length (l.map Value.string)) (hf:∀b,v.ownBlock=some b→∀(i:Nat) (x:Value×List ByteArray),rs[i]?=some x→x.1.ownBlock≠some b) (hs:∀s∈l,s.size=36)
  (hg:w.grownBy w4 vp.ownBlock) (hown:w4.ownsRow B 50 1 vp' (rs.length+1) (rs.map (·.1)++[v])):RowsP w4 B vp' (rs++[(v,l)]):=by
 have hne:∀(i:Nat) (x:Value×List ByteArray),rs[i]?=some x→x.1.ownBlock=none∨x.1.ownBlock≠vp.ownBlock:=fun i x hx=>by
  cases hb:x.1.ownBlock with
  | none=>exact .inl rfl
  | some b=>exact .inr (fun e=>h.top_row hx e.symm hb)
 have hnv:v.ownBlock=none∨v.ownBlock≠vp.ownBlock:=by
  cases hb:v.ownBlock with
  | none=>exact .inl rfl
  | some b=>exact .inr (fun e=>own_apart h.top hv (by decide) e.symm hb rfl)
 have hat:∀(i:Nat) (x:Value×List ByteArray),(rs++[(v,l)])[i]?=some x→(i<rs.length∧rs[i]?=some x)∨(i=rs.length∧x=(v,l)):=fun i x hx=>by
  rcases Nat.lt_or_ge i rs.length with hlt | hge
  ·rw[List.getElem?_append_left hlt] at hx;exact .inl ⟨hlt,hx⟩
  ·have he:i=rs.length:=by
    have:=(List.getElem?_eq_some_iff.1 hx).1
    rw[List.length_append] at this;simp at this;omega
   subst he
   rw[List.getElem?_append_right (Nat.le_refl _),Nat.sub_self] at hx
   simp at hx
   exact .inr ⟨rfl,hx.symm⟩
 refine⟨by rw[List.length_append,List.map_append];exact hown,fun i x hx=>?_,fun i j x y b hij hx hy hb=>?_,fun i x hx=>?_⟩
 ·rcases hat i x hx with ⟨_,h1⟩ | ⟨_,rfl⟩
  ·exact(h.row i x h1).kept hg (hne i x h1)
  ·exact hv.kept hg hnv
 ·rcases hat i x hx with ⟨_,h1⟩ | ⟨h1,rfl⟩
  ·rcases hat j y hy with ⟨_,h2⟩ | ⟨_,rfl⟩
   ·exact h.apart i j x y b hij h1 h2 hb
   ·exact fun e=>hf b e i x h1 hb
  ·rcases hat j y hy with ⟨_,h2⟩ | ⟨h2,rfl⟩
   ·exact hf b hb j y h2
   ·omega
 ·rcases hat i x hx with ⟨_,h1⟩ | ⟨_,rfl⟩
  ·exact h.size i x h1
  ·exact hs
theorem getSome_set{α:Type} {l:List α} {i j:Nat} {a x:α} (h:(l.set i a)[j]?=some x):(i=j∧x=a)∨(i≠j∧l[j]?=some x):=by
 by_cases e:i=j
 ·subst e
  have hlt:i<l.length:=by have:=(List.getElem?_eq_some_iff.1 h).1;simpa using this
  rw[List.getElem?_set_self hlt] at h
  injection h with h
  exact .inl ⟨rfl,h.symm⟩
 ·rw[List.getElem?_set_ne e] at h
  exact .inr ⟨e,h⟩
theorem RowsP.put{w w4:World} {B g cap d:Nat} {v:Value} {rs:List (Value×List ByteArray)} {l:List ByteArray} {x0:Value×List ByteArray} (h:RowsP w B (.slice (some ⟨g,0,none⟩) rs.length cap) rs) (hd:rs[d]?=some x0) {hot:List (Option Nat)} (hh:HotBy hot w w4) (hn:∀b,some b∈hot→b<w.heap.size→x0.1.ownBlock=some b∨¬ownP (.slice (some ⟨g,0,none⟩) rs.length cap) rs b)
  (hv:w4.ownsRow B 9 1 v l.length (l.map Value.string)) (hf:∀b,v.ownBlock=some b→x0.1.ownBlock=some b∨w.heap.size≤b) (hs:∀s∈l,s.size=36) :
  RowsP (w4.setCell ⟨g,d,none⟩ v) B (.slice (some ⟨g,0,none⟩) (rs.set d (v,l)).length cap) (rs.set d (v,l)):=by
 have hgt:∀(i:Nat) (x:Value×List ByteArray),rs[i]?=some x→x.1.ownBlock≠some g:=fun i x hx=>h.top_row hx rfl
 have htop4:w4.ownsRow B 50 1 (.slice (some ⟨g,0,none⟩) rs.length cap) rs.length (rs.map (·.1)):=own_hot h.top hh (fun b hb e=>by
  rcases hn b e (h.top.lt b hb).2 with h1 | h1
  ·simp[Value.ownBlock] at hb;subst hb;exact hgt d x0 hd h1
  ·exact h1 (.inl hb))
 have hgl:g<w.heap.size:=(h.top.lt g rfl).2
 have hvg:v.ownBlock≠some g:=fun e=>own_apart htop4 hv (by decide) rfl e rfl
 have hst:∀(v':Value) (l':List ByteArray),w4.ownsRow B 9 1 v' l'.length (l'.map Value.string)→v'.ownBlock≠some g→(w4.setCell ⟨g,d,none⟩ v).ownsRow B 9 1 v' l'.length (l'.map Value.string):=fun v' l' h1 h2=>h1.kept (only_set1 w4 g d v) (.inr h2)
 have hrow4:∀(i:Nat) (x:Value×List ByteArray),i≠d→rs[i]?=some x→w4.ownsRow B 9 1 x.1 x.2.length (x.2.map Value.string):=fun i x hi hx=>own_hot (h.row i x hx) hh (fun b hb e=>by
  rcases hn b e ((h.row i x hx).lt b hb).2 with h1 | h1
  ·exact h.apart i d x x0 b hi hx hd hb h1
  ·exact h1 (.inr ⟨i,x,hx,hb⟩))
 refine⟨?_,fun i x hx=>?_,fun i j x y b hij hx hy hb=>?_,fun i x hx=>?_⟩
 ·have h1:=(htop4.stored d v).1
  rw[List.length_set,List.map_set];exact h1
 ·rcases getSome_set hx with ⟨rfl,rfl⟩ | ⟨h1,h2⟩
  ·exact hst _ _ hv hvg
  ·exact hst _ _ (hrow4 i x (fun e=>h1 e.symm) h2) (hgt i x h2)
 ·rcases getSome_set hx with ⟨rfl,rfl⟩ | ⟨h1,h2⟩
  ·rcases getSome_set hy with ⟨h3,_⟩ | ⟨_,h4⟩
   ·exact absurd h3 hij
   ·rcases hf b hb with h5 | h5
    ·exact h.apart d j x0 y b hij hd h4 h5
    ·exact fun e=>by have:=((h.row j y h4).lt b e).2;omega
  ·rcases getSome_set hy with ⟨h3,rfl⟩ | ⟨_,h4⟩
   ·intro e
    rcases hf b e with h5 | h5
    ·exact h.apart i d x x0 b (fun e=>h1 e.symm) h2 hd hb h5
    ·have:=((h.row i x h2).lt b hb).2;omega
   ·exact h.apart i j x y b hij h2 h4 hb
 ·rcases getSome_set hx with ⟨rfl,rfl⟩ | ⟨h1,h2⟩
  ·exact hs
  ·exact h.size i x h2
theorem RowsP.slS{w:World} {B:Nat} {vp:Value} {rs:List (Value×List ByteArray)} (h:RowsP w B vp rs) {R:Nat→Prop} (hR:∀b,B≤b→b<w.heap.size→R b):SlS 1 DrvK w R vp (rs.map (·.2)):=by
 have h1:OwnK 1 DrvK w B 50 vp (rs.map (·.2)) R:=by
  refine⟨rs.map (·.1),by rw[List.length_map];exact h.top,fun k a ha=>?_⟩
  rw[List.getElem?_map] at ha
  cases hx:rs[k]? with
  | none=>rw[hx] at ha;cases ha
  | some x =>
   rw[hx] at ha
   simp at ha
   subst ha
   refine⟨[x.1],rfl,fun i u hu=>?_,x.1,rfl,?_⟩
   ·have hi:i=0:=by have:=(List.getElem?_eq_some_iff.1 hu).1;simp at this;exact this
    subst hi
    simp at hu
    rw[Nat.mul_one,Nat.add_zero,List.getElem?_map,hx,←hu];rfl
   ·refine OwnK.slS (R:=R) strK ⟨x.2.map Value.string,(h.row k x hx),fun j s hs=>⟨[.string s],rfl,fun i u hu=>?_,rfl,?_⟩⟩ (fun _ h=>h) (fun b hb=>hR b ((h.row k x hx).lt b hb).1 ((h.row k x hx).lt b hb).2)
    ·have hi:i=0:=by have:=(List.getElem?_eq_some_iff.1 hu).1;simp at this;exact this
     subst hi
     simp at hu
     rw[Nat.mul_one,Nat.add_zero,List.getElem?_map,hs,←hu];rfl
    ·have:=h.size k x hx s (List.mem_of_getElem? hs)
     unfold maxLen;omega
 exact h1.slS drvK (fun _ h=>h) (fun b hb=>hR b (h.top.lt b hb).1 (h.top.lt b hb).2)
def acC(a:Ac):List Value:=[.int .i64 a.vol,.int .i64 a.stripe,.int .i64 a.ver,.int .i64 a.side]
structure MadeT (gT:Nat) (vt:Value) (WM:World) (gR gM:Nat) (w:World) (I:Nat) (c0 c1 c2 vp vo va:Value) (rs:List (Value×List ByteArray)) (on:List Bool) (acks:List Ac) (n:Nat) (f:Int→Int→Option Value):Prop where
 tape:TapeB w gT vt I
 hot:HotBy [some gT] WM w
 rea:w.heap[gR]?=some (.cells #[c0,c1,c2] 27 (0,0))
 plat:RowsP w WM.heap.size vp rs
 ons:w.ownsRow WM.heap.size 4 1 vo on.length (on.map Value.bool)
 aks:w.ownsRow WM.heap.size 53 4 va acks.length (acks.flatMap acC)
 map:MapKV w 74 gM n f
 gT1:gT<WM.heap.size
 gR1:WM.heap.size≤gR
 gM1:WM.heap.size≤gM
section
variable {gT : Nat} {vt : Value} {WM : World} {gR gM : Nat} {w w' : World} {I J : Nat} {c0 c1 c2 vp vo va : Value} {rs : List (Value × List ByteArray)} {on : List Bool} {acks : List Ac} {n : Nat} {f : Int → Int → Option Value}
theorem MapKV.obj{kt:TypeId} {b n:Nat} {f:Int→Int→Option Value} (h:MapKV w kt b n f):∃es clock,w.heap[b]?=some (.map es clock):=by
 obtain⟨D,⟨es,clock,hb,r⟩,h2⟩:=h
 exact⟨es,clock,hb⟩
theorem cells_ty{b:Nat} {cs cs':Array Value} {T T':TypeId} {fr fr':Nat×Nat} (h:w.heap[b]?=some (.cells cs T fr)) (h':w.heap[b]?=some (.cells cs' T' fr')):T=T':=by
 rw[h] at h'
 injection h' with h'
 injection h' with _ h' _
theorem MadeT.nR(h:MadeT gT vt WM gR gM w I c0 c1 c2 vp vo va rs on acks n f) {b:Nat} {cs:Array Value} {T:TypeId} {fr:Nat×Nat} (hb:w.heap[b]?=some (.cells cs T fr)) (hT:T≠27):b≠gR:=fun e=>by subst e;exact hT (cells_ty hb h.rea)
theorem MadeT.nM(h:MadeT gT vt WM gR gM w I c0 c1 c2 vp vo va rs on acks n f) {b:Nat} {cs:Array Value} {T:TypeId} {fr:Nat×Nat} (hb:w.heap[b]?=some (.cells cs T fr)):b≠gM:=fun e=>by
 subst e
 obtain⟨es,clock,h1⟩:=h.map.obj
 rw[hb] at h1
 injection h1 with h1
 cases h1
theorem own_nty{B b:Nat} {e T:TypeId} {s m:Nat} {v:Value} {xs:List Value} {cs:Array Value} {fr:Nat×Nat} (h:w.ownsRow B e s v m xs) (hb:w.heap[b]?=some (.cells cs T fr)) (hT:T≠e):v.ownBlock≠some b:=fun hv=>by
 obtain⟨cs',h1⟩:=own_type h hv
 exact hT (cells_ty hb h1)
theorem RowsP.nty{B b:Nat} {T:TypeId} {cs:Array Value} {fr:Nat×Nat} (h:RowsP w B vp rs) (hb:w.heap[b]?=some (.cells cs T fr)) (h1:T≠50) (h2:T≠9):¬ownP vp rs b:=fun ho=>by
 rcases ho with ho | ⟨i,x,hx,ho⟩
 ·exact own_nty h.top hb h1 ho
 ·exact own_nty (h.row i x hx) hb h2 ho
def ownM(gR gM:Nat) (vp vo va:Value) (rs:List (Value×List ByteArray)) (b:Nat):Prop:=b=gR∨b=gM∨ownP vp rs b∨vo.ownBlock=some b∨va.ownBlock=some b
theorem MadeT.lt(h:MadeT gT vt WM gR gM w I c0 c1 c2 vp vo va rs on acks n f) {b:Nat} (hb:ownM gR gM vp vo va rs b):WM.heap.size≤b∧b<w.heap.size:=by
 rcases hb with rfl | rfl | hb | hb | hb
 ·exact⟨h.gR1,(Array.getElem?_eq_some_iff.1 h.rea).1⟩
 ·exact⟨h.gM1,h.map.lt⟩
 ·exact h.plat.lt hb
 ·exact h.ons.lt b hb
 ·exact h.aks.lt b hb
theorem MadeT.stay(h:MadeT gT vt WM gR gM w I c0 c1 c2 vp vo va rs on acks n f) {hot:List (Option Nat)} (hh:HotBy hot w w') (hn:∀b,some b∈hot→b<w.heap.size→¬ownM gR gM vp vo va rs b) (hw:∀b,some b∈hot→b<WM.heap.size→b=gT) (ht:TapeB w' gT vt J):MadeT gT vt WM gR gM w' J c0 c1 c2 vp vo va rs on acks n f:=by
 have hn':∀b,some b∈hot→¬ownM gR gM vp vo va rs b:=fun b hb ho=>hn b hb (h.lt ho).2 ho
 refine⟨ht,h.hot.transNew hh (fun x hx hl=>by rw[hw x hx hl];simp),(hh.block gR (h.lt (.inl rfl)).2 (fun e=>hn' gR e (.inl rfl))).trans h.rea,h.plat.stay hh (fun b hb ho=>hn' b hb (.inr (.inr (.inl ho)))),own_hot h.ons hh (fun g hg e=>hn' g e (.inr (.inr (.inr (.inl hg))))),own_hot h.aks hh (fun g hg e=>hn' g e (.inr (.inr (.inr (.inr hg))))),h.map.same (hh.block gM h.map.lt (fun e=>hn' gM e (.inr (.inl rfl)))),h.gT1,h.gR1,h.gM1⟩
theorem MadeT.inP(h:MadeT gT vt WM gR gM w I c0 c1 c2 vp vo va rs on acks n f) (hi:InP gT vt w w' J):MadeT gT vt WM gR gM w' J c0 c1 c2 vp vo va rs on acks n f :=
 h.stay hi.hot (fun b hb _ ho=>by simp at hb;have:=h.gT1;have:=(h.lt ho).1;omega) (fun b hb _=>by simp at hb;exact hb) hi.tape
theorem MadeT.below(h:MadeT gT vt WM gR gM w I c0 c1 c2 vp vo va rs on acks n f) (hb:Below w.heap.size w w'):MadeT gT vt WM gR gM w' I c0 c1 c2 vp vo va rs on acks n f:=h.inP ((InP.start h.tape).below hb)
theorem MadeT.alloc(h:MadeT gT vt WM gR gM w I c0 c1 c2 vp vo va rs on acks n f) (o:Obj):MadeT gT vt WM gR gM (w.alloc o) I c0 c1 c2 vp vo va rs on acks n f:=h.below ((Below.refl _ _).alloc (Nat.le_refl _) _)
theorem MadeT.cells(h:MadeT gT vt WM gR gM w I c0 c1 c2 vp vo va rs on acks n f):w.cell? ⟨gR,0,none⟩=some c0∧w.cell? ⟨gR,1,none⟩=some c1∧w.cell? ⟨gR,2,none⟩=some c2∧(∀i,w.frozen? ⟨gR,i,none⟩=false)∧gR<w.heap.size :=
 ⟨by rw[cell_of_row _ _ _ _ _ _ h.rea];rfl,by rw[cell_of_row _ _ _ _ _ _ h.rea];rfl,by rw[cell_of_row _ _ _ _ _ _ h.rea];rfl,fun i=>frozen_of_row _ _ _ _ _ h.rea,(Array.getElem?_eq_some_iff.1 h.rea).1⟩
theorem MadeT.only(h:MadeT gT vt WM gR gM w I c0 c1 c2 vp vo va rs on acks n f) {o:Option Nat} (hh:HotBy [o] w w') (T:TypeId) (ho:∀b,o=some b→WM.heap.size≤b∧∃cs,w.heap[b]?=some (.cells cs T (0,0))) :
  TapeB w' gT vt I∧HotBy [some gT] WM w'∧(T≠27→w'.heap[gR]?=some (.cells #[c0,c1,c2] 27 (0,0)))∧(T≠50→T≠9→RowsP w' WM.heap.size vp rs)∧(T≠4→w'.ownsRow WM.heap.size 4 1 vo on.length (on.map Value.bool))∧(T≠53→w'.ownsRow WM.heap.size 53 4 va acks.length (acks.flatMap acC))∧MapKV w' 74 gM n f:=by
 have hm:∀b,some b∈[o]→o=some b:=fun b hb=>by simp at hb;exact hb.symm
 refine⟨(hh.block gT h.tape.lt (fun e=>by have:=(ho gT (hm gT e)).1;have:=h.gT1;omega)).trans h.tape,h.hot.transNew hh (fun x hx hl=>by have:=(ho x (hm x hx)).1;omega),fun hT=>?_,fun h1 h2=>?_,fun hT=>?_,fun hT=>?_,?_⟩
 ·exact(hh.block gR (h.lt (.inl rfl)).2 (fun e=>by obtain⟨-,cs,hb⟩:=ho gR (hm gR e);exact h.nR hb hT rfl)).trans h.rea
 ·exact h.plat.stay hh (fun b hb=>by obtain⟨-,cs,hb⟩:=ho b (hm b hb);exact h.plat.nty hb h1 h2)
 ·exact own_hot h.ons hh (fun b hg hb=>by obtain⟨-,cs,hb⟩:=ho b (hm b hb);exact own_nty h.ons hb hT hg)
 ·exact own_hot h.aks hh (fun b hg hb=>by obtain⟨-,cs,hb⟩:=ho b (hm b hb);exact own_nty h.aks hb hT hg)
 ·exact h.map.same (hh.block gM h.map.lt (fun e=>by obtain⟨-,cs,hb⟩:=ho gM (hm gM e);exact h.nM hb rfl))
theorem own_ho{B:Nat} {e:TypeId} {s m:Nat} {v:Value} {xs:List Value} (h:w.ownsRow B e s v m xs):∀b,v.ownBlock=some b→B≤b∧∃cs,w.heap[b]?=some (.cells cs e (0,0)):=fun b hb=>⟨(h.lt b hb).1,own_type h hb⟩
theorem MadeT.pushP(h:MadeT gT vt WM gR gM w I c0 c1 c2 vp vo va rs on acks n f) {vp' v:Value} {l:List ByteArray} (hv:w.ownsRow WM.heap.size 9 1 v l.length (l.map Value.string)) (hf:∀b,v.ownBlock=some b→∀(i:Nat) (x:Value×List ByteArray),rs[i]?=some x→x.1.ownBlock≠some b) (hs:∀s∈l,s.size=36)
  (hg:w.grownBy w' vp.ownBlock) (hown:w'.ownsRow WM.heap.size 50 1 vp' (rs.length+1) (rs.map (·.1)++[v])):MadeT gT vt WM gR gM w' I c0 c1 c2 vp' vo va (rs++[(v,l)]) on acks n f:=by
 obtain⟨h1,h2,h3,-,h5,h6,h7⟩:=h.only (HotBy.grown hg (.inl (by simp))) 50 (own_ho h.plat.top)
 exact⟨h1,h2,h3 (by decide),h.plat.push hv hf hs hg hown,h5 (by decide),h6 (by decide),h7,h.gT1,h.gR1,h.gM1⟩
theorem MadeT.pushO(h:MadeT gT vt WM gR gM w I c0 c1 c2 vp vo va rs on acks n f) {vo':Value} {x:Bool} (hg:w.grownBy w' vo.ownBlock) (hown:w'.ownsRow WM.heap.size 4 1 vo' (on.length+1) (on.map Value.bool++[.bool x])):MadeT gT vt WM gR gM w' I c0 c1 c2 vp vo' va rs (on++[x]) acks n f:=by
 obtain⟨h1,h2,h3,h4,-,h6,h7⟩:=h.only (HotBy.grown hg (.inl (by simp))) 4 (own_ho h.ons)
 exact⟨h1,h2,h3 (by decide),h4 (by decide) (by decide),by rw[List.length_append,List.map_append];exact hown,h6 (by decide),h7,h.gT1,h.gR1,h.gM1⟩
theorem MadeT.pushA(h:MadeT gT vt WM gR gM w I c0 c1 c2 vp vo va rs on acks n f) {va':Value} {x:Ac} (hg:w.grownBy w' va.ownBlock) (hown:w'.ownsRow WM.heap.size 53 4 va' (acks.length+1) (acks.flatMap acC++acC x)):MadeT gT vt WM gR gM w' I c0 c1 c2 vp vo va' rs on (acks++[x]) n f:=by
 obtain⟨h1,h2,h3,h4,h5,-,h7⟩:=h.only (HotBy.grown hg (.inl (by simp))) 53 (own_ho h.aks)
 exact⟨h1,h2,h3 (by decide),h4 (by decide) (by decide),h5 (by decide),by rw[List.length_append,flatMap_snoc];exact hown,h7,h.gT1,h.gR1,h.gM1⟩
theorem MadeT.setR(h:MadeT gT vt WM gR gM w I c0 c1 c2 vp vo va rs on acks n f) (i:Nat) (u d0 d1 d2:Value) (hr:(w.setCell ⟨gR,i,none⟩ u).heap[gR]?=some (.cells #[d0,d1,d2] 27 (0,0))):MadeT gT vt WM gR gM (w.setCell ⟨gR,i,none⟩ u) I d0 d1 d2 vp vo va rs on acks n f:=by
 obtain⟨h1,h2,-,h4,h5,h6,h7⟩:=h.only (HotBy.setCell [some gR] w ⟨gR,i,none⟩ u (by simp)) 27 (fun b e=>by injection e with e;subst e;exact⟨h.gR1,_,h.rea⟩)
 exact⟨h1,h2,hr,h4 (by decide) (by decide),h5 (by decide),h6 (by decide),h7,h.gT1,h.gR1,h.gM1⟩
theorem MadeT.set0(h:MadeT gT vt WM gR gM w I c0 c1 c2 vp vo va rs on acks n f) (u:Value):MadeT gT vt WM gR gM (w.setCell ⟨gR,0,none⟩ u) I u c1 c2 vp vo va rs on acks n f:=h.setR 0 u _ _ _ (heap_setCell_same w gR 0 _ _ u h.rea)
theorem MadeT.set1(h:MadeT gT vt WM gR gM w I c0 c1 c2 vp vo va rs on acks n f) (u:Value):MadeT gT vt WM gR gM (w.setCell ⟨gR,1,none⟩ u) I c0 u c2 vp vo va rs on acks n f:=h.setR 1 u _ _ _ (heap_setCell_same w gR 1 _ _ u h.rea)
theorem MadeT.set2(h:MadeT gT vt WM gR gM w I c0 c1 c2 vp vo va rs on acks n f) (u:Value):MadeT gT vt WM gR gM (w.setCell ⟨gR,2,none⟩ u) I c0 c1 u vp vo va rs on acks n f:=h.setR 2 u _ _ _ (heap_setCell_same w gR 2 _ _ u h.rea)
theorem MadeT.storeM(h:MadeT gT vt WM gR gM w I c0 c1 c2 vp vo va rs on acks n f) {n':Nat} {f':Int→Int→Option Value} (hg:w.grownBy w' (some gM)) (hm:MapKV w' 74 gM n' f'):MadeT gT vt WM gR gM w' I c0 c1 c2 vp vo va rs on acks n' f':=by
 have hh:HotBy [some gM] w w':=HotBy.grown hg (.inl (by simp))
 obtain⟨es,clock,ho⟩:=h.map.obj
 have hno:∀{B:Nat} {e:TypeId} {s m:Nat} {v:Value} {xs:List Value},w.ownsRow B e s v m xs→v.ownBlock≠some gM:=fun h1 e=>by
  obtain⟨cs,h2⟩:=own_type h1 e
  rw[ho] at h2
  injection h2 with h2
  cases h2
 have hgM:=h.gM1
 refine⟨(hh.block gT h.tape.lt (fun e=>by simp at e;have:=h.gT1;omega)).trans h.tape,h.hot.transNew hh (fun x hx hl=>by simp at hx;omega),(hh.block gR (h.lt (.inl rfl)).2 (fun e=>by
  simp at e
  have h2:=h.rea
  rw[e,ho] at h2
  injection h2 with h2
  cases h2)).trans h.rea,h.plat.stay hh (fun b hb hp=>?_),own_hot h.ons hh (fun b hb e=>by simp at e;subst e;exact hno h.ons hb),own_hot h.aks hh (fun b hb e=>by simp at e;subst e;exact hno h.aks hb),hm,h.gT1,h.gR1,h.gM1⟩
 simp at hb
 subst hb
 rcases hp with hp | ⟨i,x,hx,hp⟩
 ·exact hno h.plat.top hp
 ·exact hno (h.plat.row i x hx) hp
theorem MadeT.putP{g cap d:Nat} {v:Value} {l:List ByteArray} {x0:Value×List ByteArray} (h:MadeT gT vt WM gR gM w I c0 c1 c2 (.slice (some ⟨g,0,none⟩) rs.length cap) vo va rs on acks n f) (hd:rs[d]?=some x0) (hg:w.grownBy w' x0.1.ownBlock)
  (hv:w'.ownsRow WM.heap.size 9 1 v l.length (l.map Value.string)) (hf:∀b,v.ownBlock=some b→x0.1.ownBlock=some b∨w.heap.size≤b) (hs:∀s∈l,s.size=36) :
  MadeT gT vt WM gR gM (w'.setCell ⟨g,d,none⟩ v) I c0 c1 c2 (.slice (some ⟨g,0,none⟩) (rs.set d (v,l)).length cap) vo va (rs.set d (v,l)) on acks n f:=by
 have hh:HotBy [x0.1.ownBlock] w w':=HotBy.grown hg (.inl (by simp))
 obtain⟨h1,h2,h3,-,h5,h6,h7⟩:=h.only hh 9 (own_ho (h.plat.row d x0 hd))
 have h4:=h.plat.put hd hh (fun b hb _=>.inl (by simp at hb;exact hb.symm)) hv hf hs
 have h3':=h3 (by decide)
 have h5':=h5 (by decide)
 have h6':=h6 (by decide)
 obtain⟨cs,hgc⟩:=own_type h.plat.top rfl
 have hgB:WM.heap.size≤g:=(h.plat.top.lt g rfl).1
 have hgt4:w'.ownsRow WM.heap.size 50 1 (.slice (some ⟨g,0,none⟩) rs.length cap) rs.length (rs.map (·.1)):=own_hot h.plat.top hh (fun b hb e=>by simp at e;exact h.plat.top_row hd hb e.symm)
 obtain⟨cs4,hgc4⟩:=own_type hgt4 rfl
 have hs4:HotBy [some g] w' (w'.setCell ⟨g,d,none⟩ v):=HotBy.setCell _ _ _ _ (by simp)
 have hM4:=h7.obj
 refine⟨(hs4.block gT h1.lt (fun e=>by simp at e;have:=h.gT1;omega)).trans h1,h2.transNew hs4 (fun x hx hl=>by simp at hx;omega),(hs4.block gR (Array.getElem?_eq_some_iff.1 h3').1 (fun e=>by simp at e;subst e;exact absurd (cells_ty h3' hgc4) (by decide))).trans h3',h4,own_hot h5' hs4 (fun b hb e=>by simp at e;subst e;exact own_nty h5' hgc4 (by decide) hb),own_hot h6' hs4 (fun b hb e=>by simp at e;subst e;exact own_nty h6' hgc4 (by decide) hb),h7.same (hs4.block gM h7.lt (fun e=>by
  simp at e
  obtain⟨es,clock,ho⟩:=hM4
  rw[e,hgc4] at ho
  injection ho with ho
  cases ho)),h.gT1,h.gR1,h.gM1⟩
theorem MadeT.dead{g cap d:Nat} {x0:Value×List ByteArray} (h:MadeT gT vt WM gR gM w I c0 c1 c2 (.slice (some ⟨g,0,none⟩) rs.length cap) vo va rs on acks n f) (hd:rs[d]?=some x0) :
  MadeT gT vt WM gR gM (w.setCell ⟨g,d,none⟩ (.slice none 0 0)) I c0 c1 c2 (.slice (some ⟨g,0,none⟩) (rs.set d (.slice none 0 0,[])).length cap) vo va (rs.set d (.slice none 0 0,[])) on acks n f :=
 h.putP (l:=[]) hd ⟨rfl,rfl,rfl,Nat.le_refl _,fun _ _ _=>rfl⟩ (World.ownsRow_nil _ _ _ _) (fun b e=>by cases e) (fun s hs=>by cases hs)
theorem MadeT.setO{g cap d:Nat} {x:Bool} (h:MadeT gT vt WM gR gM w I c0 c1 c2 vp (.slice (some ⟨g,0,none⟩) on.length cap) va rs on acks n f) :
  MadeT gT vt WM gR gM (w.setCell ⟨g,d,none⟩ (.bool x)) I c0 c1 c2 vp (.slice (some ⟨g,0,none⟩) (on.set d x).length cap) va rs (on.set d x) acks n f:=by
 obtain⟨h1,h2,h3,h4,-,h6,h7⟩:=h.only (HotBy.setCell [some g] w ⟨g,d,none⟩ (.bool x) (by simp)) 4 (own_ho h.ons)
 exact⟨h1,h2,h3 (by decide),h4 (by decide) (by decide),by rw[List.length_set,List.map_set];exact(h.ons.stored d (.bool x)).1,h6 (by decide),h7,h.gT1,h.gR1,h.gM1⟩
theorem acK_own{B:Nat} {R:Nat→Prop} (h:w.ownsRow B 53 4 va acks.length (acks.flatMap acC)) (hI:∀a∈acks,I64 a.vol∧I64 a.stripe∧I64 a.ver∧I64 a.side) (hR:∀b,va.ownBlock=some b→R b):SlS 4 AcK w R va acks:=by
 refine OwnK.slS (R:=R) acK ⟨_,h,fun k a ha=>⟨acC a,rfl,fun i u hu=>?_,rfl,hI a (List.mem_of_getElem? ha)⟩⟩ (fun _ h=>h) hR
 clear h hR hI
 induction acks generalizing k with
 | nil=>simp at ha
 | cons x xs ih =>
  rw[List.flatMap_cons]
  cases k with
  | zero =>
   simp at ha;subst ha
   rw[Nat.zero_mul,Nat.zero_add,List.getElem?_append_left (List.getElem?_eq_some_iff.1 hu).1];exact hu
  | succ k =>
   rw[List.getElem?_append_right (by show 4≤_;omega)]
   have:=ih k (by simpa using ha)
   rw[show(k+1) * 4+i - (acC x).length=k * 4+i by show _ - 4=_;omega]
   exact this
theorem MadeT.reS(h:MadeT gT vt WM gR gM w I c0 c1 c2 vp vo va rs on acks n f) (hI:∀a∈acks,I64 a.vol∧I64 a.stripe∧I64 a.ver∧I64 a.side):ReS w (Fr WM.heap.size w.heap.size) vp vo va ⟨rs.map (·.2),on,acks⟩:=by
 refine⟨h.plat.slS (fun b h1 h2=>⟨h1,h2⟩),?_,acK_own h.aks hI (fun b hb=>h.aks.lt b hb)⟩
 refine OwnK.slS (R:=Fr WM.heap.size w.heap.size) boolK ⟨on.map Value.bool,h.ons,fun j s hs=>⟨[.bool s],rfl,fun i u hu=>?_,rfl⟩⟩ (fun _ h=>h) (fun b hb=>h.ons.lt b hb)
 have hi:i=0:=by have:=(List.getElem?_eq_some_iff.1 hu).1;simp at this;exact this
 subst hi
 simp at hu
 rw[Nat.mul_one,Nat.add_zero,List.getElem?_map,hs,←hu];rfl
end
end Go.Proofs.YtmehadfhcdpfcaaGreat
