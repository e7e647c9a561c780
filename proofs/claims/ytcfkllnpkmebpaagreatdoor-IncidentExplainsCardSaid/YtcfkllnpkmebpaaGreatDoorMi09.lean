/- Policies and volumes of a made fleet under way. -/
import Derived.Deep.MidRow
import Derived.Test.YtcfkllnpkmebpaaGreatDoorMi08
import Derived.Test.YtcfkllnpkmebpaaGreatDoorMi01
set_option maxRecDepth 100000
set_option maxHeartbeats 12800000
namespace Go.Proofs.YtcfkllnpkmebpaaGreatDoor
open Go.RowKit
set_option linter.unusedVariables false
set_option linter.unusedSimpArgs false
theorem HotBy.transNew{hot hot2:List (Option Nat)} {a b c:World} (h:HotBy hot a b) (k:HotBy hot2 b c) (hn:∀x,some x∈hot2→x<a.heap.size→some x∈hot):HotBy hot a c :=
 ⟨k.os.trans h.os,k.tape.trans h.tape,k.output.trans h.output,Nat.le_trans h.size k.size,fun x hx hm=>(k.block x (Nat.lt_of_lt_of_le hx h.size) (fun e=>hm (hn x e hx))).trans (h.block x hx hm)⟩
def Fz(lo hi:Nat) (v:Value) (b:Nat):Prop:=lo≤b∧b<hi∧v.ownBlock≠some b
theorem Fz.mono{lo hi hi':Nat} {v:Value} (h:hi≤hi'):∀b,Fz lo hi v b→Fz lo hi' v b:=fun b hb=>⟨hb.1,Nat.lt_of_lt_of_le hb.2.1 h,hb.2.2⟩
theorem Fz.kept{lo hi:Nat} {v:Value} {hot:List (Option Nat)} {w w':World} (hh:HotBy hot w w') (hi':hi≤w.heap.size) (hn:∀b,some b∈hot→lo≤b→b<hi→v.ownBlock=some b):Kept (Fz lo hi v) w w':=fun b hb=>hh.block b (Nat.lt_of_lt_of_le hb.2.1 hi') (fun e=>hb.2.2 (hn b e hb.1 hb.2.1))
theorem OwnK.pushF{α:Type} {size:Nat} {K:World→(Nat→Prop)→List Value→α→Prop} (hK:Steady K) {w2 w4:World} {base:Nat} {e:TypeId} {v v':Value} {es:List α} {cs c:List Value} {a:α} {hot:List (Option Nat)}
  (h2:∀k x,es[k]?=some x→∃c,c.length=size∧(∀i u,c[i]?=some u→cs[k * size+i]?=some u)∧K w2 (Fz base w2.heap.size v) c x) (hl:cs.length=es.length * size) (hv:∀b,v.ownBlock=some b→b<w2.heap.size)
  (ho:w4.ownsRow base e size v' (es.length+1) (cs++c)) (hc:c.length=size) (ha:K w2 (Fz base w2.heap.size v) c a) (hh:HotBy hot w2 w4) (hn:∀b,some b∈hot→base≤b→b<w2.heap.size→v.ownBlock=some b) (hat:v'.ownBlock=v.ownBlock∨∃x,v'.ownBlock=some x∧w2.heap.size≤x) :
  OwnK size K w4 base e v' (es++[a]) (Fz base w4.heap.size v'):=by
 have hr:∀b,Fz base w2.heap.size v b→Fz base w4.heap.size v' b:=fun b hb=>⟨hb.1,Nat.lt_of_lt_of_le hb.2.1 hh.size,fun e=>by
  rcases hat with h | ⟨x,h,hx⟩
  ·exact hb.2.2 (h▸e)
  ·rw[h] at e;injection e with e;have:=hb.2.1;omega⟩
 have hk:Kept (Fz base w2.heap.size v) w2 w4:=Fz.kept hh (Nat.le_refl _) hn
 exact OwnK.push (v:=v) hK h2 hl ho hc hk hr (hK.mono hr (hK.keep hk ha))
theorem OwnK.stayF{α:Type} {size:Nat} {K:World→(Nat→Prop)→List Value→α→Prop} (hK:Steady K) {w w':World} {base:Nat} {e:TypeId} {v:Value} {es:List α} {hot:List (Option Nat)} (h:OwnK size K w base e v es (Fz base w.heap.size v)) (hh:HotBy hot w w') (hn:∀b,some b∈hot→b<base∨w.heap.size≤b):OwnK size K w' base e v es (Fz base w'.heap.size v):=by
 obtain⟨cs,h1,h2⟩:=h
 refine⟨cs,own_hot h1 hh (fun g hg e=>by have:=h1.lt g hg;have:=hn g e;omega),fun k a ha=>?_⟩
 obtain⟨c,g1,g2,g3⟩:=h2 k a ha
 exact⟨c,g1,g2,hK.mono (Fz.mono hh.size) (hK.keep (Fz.kept hh (Nat.le_refl _) (fun b e h3 h4=>by have:=hn b e;omega)) g3)⟩
structure InP (gT:Nat) (vt:Value) (wr0 w1:World) (I:Nat):Prop where
 tape:TapeB w1 gT vt I
 hot:HotBy [some gT] wr0 w1
section
variable {w0 wr0 w1 w2 WA : World} {R : Nat → Prop} {gT : Nat} {vt : Value} {xs : List Int} {gF : Nat} {I : Nat}
theorem InP.start(h:TapeB wr0 gT vt I):InP gT vt wr0 wr0 I:=⟨h,HotBy.refl _ _⟩
theorem InP.below(h:InP gT vt wr0 w1 I) (hb:Below w1.heap.size w1 w2):InP gT vt wr0 w2 I:=⟨(hb.block gT h.tape.lt).trans h.tape,h.hot.trans (HotBy.below hb)⟩
theorem InP.alloc(h:InP gT vt wr0 w1 I) (o:Obj):InP gT vt wr0 (w1.alloc o) I:=h.below ((Below.refl _ _).alloc (Nat.le_refl _) _)
theorem InP.new(h:InP gT vt wr0 w1 I) (hT:gT<wr0.heap.size) {hot:List (Option Nat)} (hh:HotBy hot w1 w2) (hn:∀b,some b∈hot→wr0.heap.size≤b):InP gT vt wr0 w2 I :=
 ⟨(hh.block gT h.tape.lt (fun e=>by have:=hn gT e;omega)).trans h.tape,h.hot.transNew hh (fun x e hx=>by have:=hn x e;omega)⟩
theorem InP.set(h:InP gT vt wr0 w1 I) (hT:gT<wr0.heap.size) (g i:Nat) (u:Value) (hg:wr0.heap.size≤g):InP gT vt wr0 (w1.setCell ⟨g,i,none⟩ u) I :=
 h.new hT (HotBy.setCell [some g] w1 ⟨g,i,none⟩ u (by simp)) (fun b e=>by simp at e;omega)
theorem InP.next_any(S:StatA w0 R gT vt xs WA gF) (h0:HotBy [some gT,some gF] WA wr0) (h:InP gT vt wr0 w1 I) (hI:I≤1000000000) (n:Nat) (h1:1≤n) (h2:n≤1000000) (nv:Int) (hn:nv=(n:Int)) :
  Calls Tryz.prog 32 #[.pointer (some ⟨gT,0,none⟩),.int .i64 nv] w1 fun e w'=>∃r:Nat,e=.returned (.int .i64 (r:Int))∧r<n∧InP gT vt wr0 w' (I+1)∧HotBy [some gT] w1 w':=by
 subst hn
 refine(next_hot w0 R gT vt xs S.hx S.hR w1 (S.w0 (h0.trans (h.hot.more (fun x hx _=>by simp at hx ⊢;exact .inl hx)))) I h.tape (by omega) n h1 (by omega)).mono ?_
 rintro e w' ⟨r,rfl,hr,hT,hg⟩
 have hh:HotBy [some gT] w1 w':=HotBy.grown hg (.inl (by simp))
 exact⟨r,rfl,hr,⟨hT,h.hot.trans hh⟩,hh⟩
end
theorem HotBy.keptFr{hot:List (Option Nat)} {w w':World} (h:HotBy hot w w') {lo hi:Nat} (hn:∀b,some b∈hot→b<lo∨hi≤b) (hh:hi≤w.heap.size):Kept (Fr lo hi) w w':=fun b hb=>h.block b (Nat.lt_of_lt_of_le hb.2 hh) (fun e=>by have:=hn b e;have h1:=hb.1;have h2:=hb.2;omega)
theorem Fr.more{a b c d:Nat} (h:c≤a) (k:b≤d):∀x,Fr a b x→Fr c d x:=fun x hx=>⟨Nat.le_trans h hx.1,Nat.lt_of_lt_of_le hx.2 k⟩
theorem ints_lit(w:World) (B:Nat) (hB:B≤w.heap.size) (xs:List Int) (h0:xs.length≤maxLen) (hx:∀x∈xs,I64 x):IntS (w.alloc (.cells (xs.map (Value.int .i64)).toArray 3)) (Fr B (w.alloc (.cells (xs.map (Value.int .i64)).toArray 3)).heap.size) (.slice (some ⟨w.heap.size,0,none⟩) xs.length xs.length) xs :=
 ⟨⟨_,_,rfl,Nat.le_refl _,h0,fun _=>⟨_,_,rfl,⟨hB,by simp⟩,fun k x hk=>by
  rw[Nat.zero_add,cell_of_row _ _ _ _ _ _ (heap_alloc_new w _)]
  simp[hk]⟩⟩,hx⟩
theorem ints01(w:World) (B:Nat) (hB:B≤w.heap.size):IntS (w.alloc (.cells #[.int .i64 0,.int .i64 1] 3)) (Fr B (w.alloc (.cells #[.int .i64 0,.int .i64 1] 3)).heap.size) (.slice (some ⟨w.heap.size,0,none⟩) 2 2) [0,1] :=
 ints_lit w B hB [0,1] (by unfold maxLen;simp) (by intro x hx;simp at hx;rcases hx with rfl | rfl <;> exact⟨by omega,by omega⟩)
theorem ints0(w:World) (B:Nat) (hB:B≤w.heap.size):IntS (w.alloc (.cells #[.int .i64 0] 3)) (Fr B (w.alloc (.cells #[.int .i64 0] 3)).heap.size) (.slice (some ⟨w.heap.size,0,none⟩) 1 1) [0] :=
 ints_lit w B hB [0] (by unfold maxLen;simp) (by intro x hx;simp at hx;subst hx;exact⟨by omega,by omega⟩)
structure InvB (gT:Nat) (vt:Value) (WB:World) (gF:Nat) (ext:Int) (vl vm vd vv:Value) (wr:World) (I:Nat) (vp:Value) (ps:List PolM):Prop where
 tape:TapeB wr gT vt I
 hot:HotBy [some gT,some gF] WB wr
 flt:FltB wr gF ext vl vm vd vv vp (.slice none 0 0)
 pol:OwnK 17 PolK wr WB.heap.size 85 vp ps (Fz WB.heap.size wr.heap.size vp)
section
variable {gT : Nat} {vt : Value} {WB : World} {gF : Nat} {ext : Int} {vl vm vd vv vp vo : Value} {wr w' : World} {I J : Nat} {ps : List PolM}
theorem InvB.stay(hT:gT<WB.heap.size) (hF:gF<WB.heap.size) (hne:gF≠gT) (h:InvB gT vt WB gF ext vl vm vd vv wr I vp ps) (hh:HotBy [some gT] wr w') (ht:TapeB w' gT vt J):InvB gT vt WB gF ext vl vm vd vv w' J vp ps :=
 ⟨ht,h.hot.trans (hh.more (fun x hx _=>by simp at hx ⊢;exact .inl hx)),(hh.block gF h.flt.lt (fun e=>by simp at e;exact hne e)).trans h.flt,h.pol.stayF polK hh (fun b e=>by simp at e;omega)⟩
theorem InvB.push(hT:gT<WB.heap.size) (hF:gF<WB.heap.size) (hne:gF≠gT) (h:InvB gT vt WB gF ext vl vm vd vv wr I vp ps) {cs c:List Value} (c1:wr.ownsRow WB.heap.size 85 17 vp ps.length cs)
  (c2:∀k x,ps[k]?=some x→∃c,c.length=17∧(∀i u,c[i]?=some u→cs[k * 17+i]?=some u)∧PolK wr (Fz WB.heap.size wr.heap.size vp) c x) {p:PolM} (hc:c.length=17) (ha:PolK wr (Fz WB.heap.size wr.heap.size vp) c p) {o:Obj} {w4:World} {vp':Value}
  (hown:w4.ownsRow WB.heap.size 85 17 vp' (ps.length+1) (cs++c)) (hg:(wr.alloc o).grownBy w4 vp.ownBlock) (hat:vp'.ownBlock=vp.ownBlock∨vp'.ownBlock=some (wr.heap.size+1)) :
  InvB gT vt WB gF ext vl vm vd vv (w4.setCell ⟨gF,5,none⟩ vp') I vp' (ps++[p]):=by
 have hvp:∀b,vp.ownBlock=some b→WB.heap.size≤b∧b<wr.heap.size:=fun b hb=>c1.lt b hb
 have hh:HotBy [some gF,vp.ownBlock] wr (w4.setCell ⟨gF,5,none⟩ vp'):=((HotBy.alloc _ wr o).trans (HotBy.grown hg (.inl (by simp)))).trans (HotBy.setCell _ _ _ _ (by simp))
 have hgT:some gT∉[some gF,vp.ownBlock]:=fun e=>by
  simp at e
  rcases e with e | e
  ·exact hne e.symm
  ·have:=(hvp gT e.symm).1;omega
 have hgF:some gF≠vp.ownBlock:=fun e=>by have:=(hvp gF e.symm).1;omega
 have hFl:=h.flt.lt
 have hF4:FltB w4 gF ext vl vm vd vv vp (.slice none 0 0):=h.flt.grown5 hg hgF
 refine⟨(hh.block gT h.tape.lt hgT).trans h.tape,⟨hh.os.trans h.hot.os,hh.tape.trans h.hot.tape,hh.output.trans h.hot.output,Nat.le_trans h.hot.size hh.size,fun b hb hn=>(hh.block b (Nat.lt_of_lt_of_le hb h.hot.size) (fun e=>by
  simp at e hn
  rcases e with e | e
  ·exact hn.2 e
  ·have:=(hvp b e.symm).1;omega)).trans (h.hot.block b hb hn)⟩,heap_setCell_same w4 gF 5 _ _ _ hF4,?_⟩
 have hno:some gF≠vp'.ownBlock:=fun e=>by
  rcases hat with h1 | h1
  ·exact hgF (e.trans h1)
  ·rw[h1] at e;injection e with e;omega
 refine OwnK.pushF polK c2 c1.1 (fun b hb=>(hvp b hb).2) (hown.kept (only_set1 w4 gF 5 vp') (.inr (fun e=>hno e.symm))) hc ha hh (fun b e h3 h4=>?_) ?_
 ·simp at e
  rcases e with e | e
  ·omega
  ·exact e.symm
 ·rcases hat with h1 | h1
  ·exact .inl h1
  ·exact .inr ⟨_,h1,by omega⟩
def PolB(w:World) (g:Nat) (name:ByteArray) (k m q s3 s4:Int) (vm vr tn td hn hd:Value):Prop :=
 w.heap[g]?=some (.cells #[.string name,.int .i64 k,.int .i64 m,.int .i64 q,.int .i64 0,.int .i64 0,.int .i64 0,.int .i64 s3,.int .i64 s4,vm,vr,.bool false,tn,td,.bool false,hn,hd] 85 (0,0))
theorem PolB.lt{w:World} {g:Nat} {name:ByteArray} {k m q s3 s4:Int} {vm vr tn td hn hd:Value} (h:PolB w g name k m q s3 s4 vm vr tn td hn hd):g<w.heap.size:=(Array.getElem?_eq_some_iff.1 h).1
theorem PolB.frozen{w:World} {g:Nat} {name:ByteArray} {k m q s3 s4:Int} {vm vr tn td hn hd:Value} (h:PolB w g name k m q s3 s4 vm vr tn td hn hd) (i:Nat):w.frozen? ⟨g,i,none⟩=false:=frozen_of_row _ _ _ _ _ h
theorem PolB.cells{w:World} {g:Nat} {name:ByteArray} {k m q s3 s4:Int} {vm vr tn td hn hd:Value} (h:PolB w g name k m q s3 s4 vm vr tn td hn hd) :
  w.cell? ⟨g,0,none⟩=some (.string name)∧w.cell? ⟨g,1,none⟩=some (.int .i64 k)∧w.cell? ⟨g,2,none⟩=some (.int .i64 m)∧w.cell? ⟨g,3,none⟩=some (.int .i64 q)∧w.cell? ⟨g,4,none⟩=some (.int .i64 0)∧w.cell? ⟨g,5,none⟩=some (.int .i64 0)∧w.cell? ⟨g,6,none⟩=some (.int .i64 0)∧w.cell? ⟨g,7,none⟩=some (.int .i64 s3)∧w.cell? ⟨g,8,none⟩=some (.int .i64 s4)∧w.cell? ⟨g,9,none⟩=some vm∧w.cell? ⟨g,10,none⟩=some vr∧w.cell? ⟨g,11,none⟩=some (.bool false)∧w.cell? ⟨g,12,none⟩=some tn∧w.cell? ⟨g,13,none⟩=some td∧w.cell? ⟨g,14,none⟩=some (.bool false)∧w.cell? ⟨g,15,none⟩=some hn∧w.cell? ⟨g,16,none⟩=some hd:=by
 refine⟨?_,?_,?_,?_,?_,?_,?_,?_,?_,?_,?_,?_,?_,?_,?_,?_,?_⟩ <;> (rw[cell_of_row _ _ _ _ _ _ h];rfl)
theorem PolB.range{w:World} {g:Nat} {name:ByteArray} {k m q s3 s4:Int} {vm vr tn td hn hd:Value} (h:PolB w g name k m q s3 s4 vm vr tn td hn hd):w.rangeAt g 0 [.string name,.int .i64 k,.int .i64 m,.int .i64 q,.int .i64 0,.int .i64 0,.int .i64 0,.int .i64 s3,.int .i64 s4,vm,vr,.bool false,tn,td,.bool false,hn,hd]:=fun j v hv=>by
 rw[Nat.zero_add,cell_of_row _ _ _ _ _ _ h]
 simpa using hv
theorem size_pol:(Tryz.prog.info? 85).map (·.size)=some 17:=by kernel_rfl
theorem PolB.set7{w:World} {g:Nat} {name:ByteArray} {k m q s3 s4:Int} {vm vr tn td hn hd:Value} (h:PolB w g name k m q s3 s4 vm vr tn td hn hd) (x:Int):PolB (w.setCell ⟨g,7,none⟩ (.int .i64 x)) g name k m q x s4 vm vr tn td hn hd:=heap_setCell_same w g 7 _ _ _ h
theorem PolB.set8{w:World} {g:Nat} {name:ByteArray} {k m q s3 s4:Int} {vm vr tn td hn hd:Value} (h:PolB w g name k m q s3 s4 vm vr tn td hn hd) (x:Int):PolB (w.setCell ⟨g,8,none⟩ (.int .i64 x)) g name k m q s3 x vm vr tn td hn hd:=heap_setCell_same w g 8 _ _ _ h
theorem PolB.set9{w:World} {g:Nat} {name:ByteArray} {k m q s3 s4:Int} {vm vr tn td hn hd:Value} (h:PolB w g name k m q s3 s4 vm vr tn td hn hd) (x:Value):PolB (w.setCell ⟨g,9,none⟩ x) g name k m q s3 s4 x vr tn td hn hd:=heap_setCell_same w g 9 _ _ _ h
theorem PolB.set10{w:World} {g:Nat} {name:ByteArray} {k m q s3 s4:Int} {vm vr tn td hn hd:Value} (h:PolB w g name k m q s3 s4 vm vr tn td hn hd) (x:Value):PolB (w.setCell ⟨g,10,none⟩ x) g name k m q s3 s4 vm x tn td hn hd:=heap_setCell_same w g 10 _ _ _ h
theorem PolB.hot{w:World} {g:Nat} {name:ByteArray} {k m q s3 s4:Int} {vm vr tn td hn hd:Value} (h:PolB w g name k m q s3 s4 vm vr tn td hn hd) {hot:List (Option Nat)} (hh:HotBy hot w w') (hn':some g∉hot):PolB w' g name k m q s3 s4 vm vr tn td hn hd:=(hh.block g h.lt hn').trans h
theorem PolB.grown5{w w':World} {o:Obj} {g:Nat} {name:ByteArray} {k m q s3 s4:Int} {vm vr tn td hn hd:Value} {row:Option Nat} (h:PolB w g name k m q s3 s4 vm vr tn td hn hd) (hg:(w.alloc o).grownBy w' row) (hne:some g≠row):PolB w' g name k m q s3 s4 vm vr tn td hn hd:=(hg.block g (by have:=h.lt;simp;omega) hne).trans ((Below.heap_alloc w o g h.lt).trans h)
theorem PolB.below{w w':World} {g:Nat} {name:ByteArray} {k m q s3 s4:Int} {vm vr tn td hn hd:Value} (h:PolB w g name k m q s3 s4 vm vr tn td hn hd) (hb:Below w.heap.size w w'):PolB w' g name k m q s3 s4 vm vr tn td hn hd:=(hb.block g h.lt).trans h
theorem info_pol:(Tryz.prog.info? 85).map (fun i=>(i.zero,i.size,i.bytes))=some (some (.agg #[.string ⟨#[]⟩,.int .i64 0,.int .i64 0,.int .i64 0,.int .i64 0,.int .i64 0,.int .i64 0,.int .i64 0,.int .i64 0,.slice none 0 0,.slice none 0 0,.bool false,.slice none 0 0,.slice none 0 0,.bool false,.slice none 0 0,.slice none 0 0]),17,240):=by kernel_rfl
theorem info_vol:(Tryz.prog.info? 87).map (fun i=>(i.zero,i.size,i.bytes))=some (some (.agg #[.string ⟨#[]⟩,.int .i64 0]),2,24):=by kernel_rfl
theorem info_frac:(Tryz.prog.info? 83).map (fun i=>(i.zero,i.size,i.bytes))=some (some (.agg #[.bool false,.slice none 0 0,.slice none 0 0]),3,56):=by kernel_rfl
theorem app_lit{ops:Array Oper} {rest:List Oper} {o:Oper} {a:Act} {Q:Exit→Act→World→Prop} {w:World} (cs:List Value) (e Ts:TypeId) {size bytes:Nat} {z:Value} (hinfo:(Tryz.prog.info? e).map (fun i=>(i.zero,i.size,i.bytes))=some (some z,size,bytes)) (hund:Tryz.prog.underlying Ts=some (.slice e)) (hzs:z.cells.size=size) (hs0:0<size) (hb:bytes≤4096)
  (hcs:cs.length=size) (h1:∀u∈cs,u.oneCell'=true) (s x:Operand) (hgd:o.guard=none) (ho:o.op=.call { callee:=.builtin .append,args:=#[s,x],argTypes:=#[Ts,Ts] })
  (base:Nat) (v:Value) (n:Nat) (xs:List Value) (hs:a.eval s=v) (hown:w.ownsRow base e size v n xs)
  (hx:a.eval x=.slice (some ⟨w.heap.size,0,none⟩) 1 1) (hn:n+1≤16777216) (hbase:base≤w.heap.size)
  (h:∀v' w',w'.ownsRow base e size v' (n+1) (xs++cs)→(w.alloc (.cells cs.toArray e)).grownBy w' v.ownBlock→(v'.ownBlock=v.ownBlock∨v'.ownBlock=some (w.heap.size+1))→wpList Tryz.prog ops Q rest (a.put o.dst v') w') :
  wpList Tryz.prog ops Q (o :: rest) a (w.alloc (.cells cs.toArray e)):=by
 obtain⟨i0,hi0,hz0,hz1,hz2⟩:=info_parts hinfo
 refine wpList_append_own_at (P:=Tryz.prog) _ hgd s x Ts ho base e i0 z size bytes hund hi0 hz0 hz1 hz2 hzs hs0 v n xs hs (hown.alloc _) ⟨w.heap.size,0,none⟩ 1 1 cs hx (by simp[hcs]) ?_ h1 (by unfold maxLen;omega) ?_ (by simp;omega) ?_
 ·intro j u hj
  have e1:(⟨w.heap.size,0,none⟩:Addr).add j=⟨w.heap.size,j,none⟩:=by unfold Addr.add;split <;> simp_all
  rw[e1,cell_of_row _ _ _ _ _ _ (heap_alloc_new w _)]
  simpa using hj
 ·calc (n+1) * bytes≤16777216 * 4096:=Nat.mul_le_mul hn hb
   _≤140737488355328:=by decide
 ·intro v' w' h2 h3 _ h5
  exact h v' w' h2 h3 (by simpa using h5)
def PolWell(p:PolM):Prop:=(p.k=1∨p.k=2)∧0≤p.m∧p.m≤2∧p.k≤p.q∧p.q≤p.k+p.m∧0≤p.s3∧p.s3≤3∧0≤p.s4∧p.s4≤2∧(p.models=[0,1]∨p.models=[0])∧p.repair=List.replicate (max p.m 1).toNat ⟨false,1,2⟩∧p.target=⟨false,1,1000⟩∧p.horizon=⟨false,30,1⟩
def PolOk(N:Nat) (ps:List PolM):Prop:=∀j p,ps[j]?=some p→j<N∧p.name=⟨(nameL 112 (N - j)).toArray⟩∧PolWell p
theorem PolOk.nil(N:Nat):PolOk N []:=fun j p h=>by simp at h
theorem PolOk.push{N:Nat} {ps:List PolM} (h:PolOk N ps) {p:PolM} (hn:ps.length<N) (h1:p.name=⟨(nameL 112 (N - ps.length)).toArray⟩) (h2:PolWell p):PolOk N (ps++[p]):=by
 intro j x hx
 rcases Nat.lt_or_ge j ps.length with hlt | hge
 ·rw[List.getElem?_append_left hlt] at hx
  exact h j x hx
 ·have he:j=ps.length:=by
   have:=(List.getElem?_eq_some_iff.1 hx).1
   rw[List.length_append] at this;simp at this;omega
  subst he
  rw[List.getElem?_append_right (Nat.le_refl _),Nat.sub_self] at hx
  simp at hx
  subst hx
  exact⟨hn,h1,h2⟩
def volC(x:VolM):List Value:=[.string x.name,.int .i64 x.pol]
structure InvC (gT:Nat) (vt:Value) (WC:World) (gF:Nat) (ext:Int) (vl vm vd vv vp:Value) (wr:World) (I:Nat) (vo:Value) (os:List VolM):Prop where
 tape:TapeB wr gT vt I
 hot:HotBy [some gT,some gF] WC wr
 flt:FltB wr gF ext vl vm vd vv vp vo
 vol:wr.ownsRow WC.heap.size 87 2 vo os.length (os.flatMap volC)
theorem InvC.stay{WC:World} {os:List VolM} (hT:gT<WC.heap.size) (hF:gF<WC.heap.size) (hne:gF≠gT) (h:InvC gT vt WC gF ext vl vm vd vv vp wr I vo os) (hh:HotBy [some gT] wr w') (ht:TapeB w' gT vt J):InvC gT vt WC gF ext vl vm vd vv vp w' J vo os :=
 ⟨ht,h.hot.trans (hh.more (fun x hx _=>by simp at hx ⊢;exact .inl hx)),(hh.block gF h.flt.lt (fun e=>by simp at e;exact hne e)).trans h.flt,own_hot h.vol hh (fun g hg e=>by have:=h.vol.lt g hg;simp at e;omega)⟩
theorem InvC.push{WC:World} {os:List VolM} (hT:gT<WC.heap.size) (hF:gF<WC.heap.size) (hne:gF≠gT) (h:InvC gT vt WC gF ext vl vm vd vv vp wr I vo os) {x:VolM} {o:Obj} {w4:World} {vo':Value}
  (hown:w4.ownsRow WC.heap.size 87 2 vo' (os.length+1) (os.flatMap volC++volC x)) (hg:(wr.alloc o).grownBy w4 vo.ownBlock) (hat:vo'.ownBlock=vo.ownBlock∨∃b,vo'.ownBlock=some b∧wr.heap.size≤b) :
  InvC gT vt WC gF ext vl vm vd vv vp (w4.setCell ⟨gF,6,none⟩ vo') I vo' (os++[x]):=by
 have hvo:∀b,vo.ownBlock=some b→WC.heap.size≤b∧b<wr.heap.size:=fun b hb=>h.vol.lt b hb
 have hh:HotBy [some gF,vo.ownBlock] wr (w4.setCell ⟨gF,6,none⟩ vo'):=((HotBy.alloc _ wr o).trans (HotBy.grown hg (.inl (by simp)))).trans (HotBy.setCell _ _ _ _ (by simp))
 have hgT:some gT∉[some gF,vo.ownBlock]:=fun e=>by
  simp at e
  rcases e with e | e
  ·exact hne e.symm
  ·have:=(hvo gT e.symm).1;omega
 have hgF:some gF≠vo.ownBlock:=fun e=>by have:=(hvo gF e.symm).1;omega
 have hFl:=h.flt.lt
 have hF4:FltB w4 gF ext vl vm vd vv vp vo:=h.flt.grown5 hg hgF
 have hno:some gF≠vo'.ownBlock:=fun e=>by
  rcases hat with h1 | ⟨b,h1,h2⟩
  ·exact hgF (e.trans h1)
  ·rw[h1] at e;injection e with e;omega
 refine⟨(hh.block gT h.tape.lt hgT).trans h.tape,⟨hh.os.trans h.hot.os,hh.tape.trans h.hot.tape,hh.output.trans h.hot.output,Nat.le_trans h.hot.size hh.size,fun b hb hn=>(hh.block b (Nat.lt_of_lt_of_le hb h.hot.size) (fun e=>by
  simp at e hn
  rcases e with e | e
  ·exact hn.2 e
  ·have:=(hvo b e.symm).1;omega)).trans (h.hot.block b hb hn)⟩,heap_setCell_same w4 gF 6 _ _ _ hF4,?_⟩
 have h6:=hown.kept (only_set1 w4 gF 6 vo') (.inr (fun e=>hno e.symm))
 rw[List.length_append,flatMap_snoc]
 exact h6
def VolOk(N M:Nat) (os:List VolM):Prop:=∀j x,os[j]?=some x→j<N∧x.name=⟨(nameL 118 (N - j)).toArray⟩∧∃p:Nat,x.pol=(p:Int)∧p<M
theorem VolOk.nil(N M:Nat):VolOk N M []:=fun j p h=>by simp at h
theorem VolOk.push{N M:Nat} {os:List VolM} (h:VolOk N M os) {x:VolM} (hn:os.length<N) (h1:x.name=⟨(nameL 118 (N - os.length)).toArray⟩) {p:Nat} (h2:x.pol=(p:Int)) (h3:p<M):VolOk N M (os++[x]):=by
 intro j y hy
 rcases Nat.lt_or_ge j os.length with hlt | hge
 ·rw[List.getElem?_append_left hlt] at hy
  exact h j y hy
 ·have he:j=os.length:=by
   have:=(List.getElem?_eq_some_iff.1 hy).1
   rw[List.length_append] at this;simp at this;omega
  subst he
  rw[List.getElem?_append_right (Nat.le_refl _),Nat.sub_self] at hy
  simp at hy
  subst hy
  exact⟨hn,h1,p,h2,h3⟩
theorem FltB.sett0{w:World} {g:Nat} {e:Int} {vl vm vd vv vp vo:Value} (h:FltB w g e vl vm vd vv vp vo) (x:Int):FltB (w.setCell ⟨g,0,none⟩ (.int .i64 x)) g x vl vm vd vv vp vo:=heap_setCell_same w g 0 _ _ _ h
theorem FltB.sett1{w:World} {g:Nat} {e:Int} {vl vm vd vv vp vo:Value} (h:FltB w g e vl vm vd vv vp vo) (u:Value):FltB (w.setCell ⟨g,1,none⟩ (u)) g e u vm vd vv vp vo:=heap_setCell_same w g 1 _ _ _ h
theorem FltB.sett2{w:World} {g:Nat} {e:Int} {vl vm vd vv vp vo:Value} (h:FltB w g e vl vm vd vv vp vo) (u:Value):FltB (w.setCell ⟨g,2,none⟩ (u)) g e vl u vd vv vp vo:=heap_setCell_same w g 2 _ _ _ h
theorem FltB.sett3{w:World} {g:Nat} {e:Int} {vl vm vd vv vp vo:Value} (h:FltB w g e vl vm vd vv vp vo) (u:Value):FltB (w.setCell ⟨g,3,none⟩ (u)) g e vl vm u vv vp vo:=heap_setCell_same w g 3 _ _ _ h
theorem FltB.sett4{w:World} {g:Nat} {e:Int} {vl vm vd vv vp vo:Value} (h:FltB w g e vl vm vd vv vp vo) (u:Value):FltB (w.setCell ⟨g,4,none⟩ (u)) g e vl vm vd u vp vo:=heap_setCell_same w g 4 _ _ _ h
theorem FltB.sett5{w:World} {g:Nat} {e:Int} {vl vm vd vv vp vo:Value} (h:FltB w g e vl vm vd vv vp vo) (u:Value):FltB (w.setCell ⟨g,5,none⟩ (u)) g e vl vm vd vv u vo:=heap_setCell_same w g 5 _ _ _ h
theorem FltB.sett6{w:World} {g:Nat} {e:Int} {vl vm vd vv vp vo:Value} (h:FltB w g e vl vm vd vv vp vo) (u:Value):FltB (w.setCell ⟨g,6,none⟩ (u)) g e vl vm vd vv vp u:=heap_setCell_same w g 6 _ _ _ h
theorem FltB.store7{w:World} {g:Nat} {e:Int} {vl vm vd vv vp vo:Value} (h:FltB w g e vl vm vd vv vp vo) (e':Int) (vl' vm' vd' vv' vp' vo':Value) :
  FltB (((((((w.setCell ⟨g,0,none⟩ (.int .i64 e')).setCell ⟨g,1,none⟩ vl').setCell ⟨g,2,none⟩ vm').setCell ⟨g,3,none⟩ vd').setCell ⟨g,4,none⟩ vv').setCell ⟨g,5,none⟩ vp').setCell ⟨g,6,none⟩ vo') g e' vl' vm' vd' vv' vp' vo' :=
 ((((((h.sett0 e').sett1 vl').sett2 vm').sett3 vd').sett4 vv').sett5 vp').sett6 vo'
theorem HotBy.setOf{hot:List (Option Nat)} {a w:World} (h:HotBy hot a w) {g:Nat} (hg:some g∈hot∨a.heap.size≤g) (i:Nat) (x:Value):HotBy hot a (w.setCell ⟨g,i,none⟩ x) :=
 h.transNew (HotBy.setCell [some g] w ⟨g,i,none⟩ x (by simp)) (fun y hy hl=>by
  simp at hy;subst hy
  rcases hg with hg | hg
  ·exact hg
  ·omega)
theorem HotBy.store7{hot:List (Option Nat)} {a w:World} (h:HotBy hot a w) {g:Nat} (hg:some g∈hot∨a.heap.size≤g) (x0 x1 x2 x3 x4 x5 x6:Value) :
  HotBy hot a (((((((w.setCell ⟨g,0,none⟩ x0).setCell ⟨g,1,none⟩ x1).setCell ⟨g,2,none⟩ x2).setCell ⟨g,3,none⟩ x3).setCell ⟨g,4,none⟩ x4).setCell ⟨g,5,none⟩ x5).setCell ⟨g,6,none⟩ x6) :=
 ((((((h.setOf hg 0 x0).setOf hg 1 x1).setOf hg 2 x2).setOf hg 3 x3).setOf hg 4 x4).setOf hg 5 x5).setOf hg 6 x6
theorem HotBy.to_grown{w w':World} {g:Nat} (h:HotBy [some g] w w'):w.grownBy w' (some g):=⟨h.os,h.tape,h.output,h.size,fun b hb hn=>h.block b hb (fun e=>by simp at e;exact hn (by rw[e]))⟩
theorem form3{v:Value} {n:Nat} (h:∃A c,v=.slice A n c):∃A m c,v=.slice A m c:=by
 obtain⟨A,c,e⟩:=h
 exact⟨A,n,c,e⟩
theorem SlS.form3{α:Type} {size:Nat} {K:World→(Nat→Prop)→List Value→α→Prop} {w:World} {R:Nat→Prop} {v:Value} {es:List α} (h:SlS size K w R v es):∃A n c,v=.slice A n c:=by
 obtain⟨A,c,e,-,-⟩:=h.form
 exact⟨A,_,c,e⟩
structure FleetOk (N:Nat) (F:FltM):Prop where
 ext:F.ext=1∨F.ext=2
 laws:∃r:Nat,r<100∧F.laws=[⟨{ data:=#[100,105,115,107] },[⟨false,1,1⟩],[[⟨false,0,1⟩]],[⟨false,1,100+r⟩]⟩]
 models:∃a b c d:Nat,a<2∧b<9∧c<3∧d<9∧F.models=[⟨{ data:=#[98,105,103] },3+(a:Int),8+(b:Int),0⟩,⟨{ data:=#[111,108,100] },1+(c:Int),4+(d:Int),0⟩]
 doms:DomOk F.doms
 domN:F.doms.length≤21
 dves:DveOk F.dves F.doms
 dve1:1≤F.dves.length
 dveN:F.dves.length≤9
 pols:PolOk F.pols.length F.pols
 pol1:1≤F.pols.length
 polN:F.pols.length≤2
 vols:VolOk F.vols.length F.pols.length F.vols
 vol1:1≤F.vols.length
 volN:F.vols.length≤N
theorem slS_of_own3{w:World} {base:Nat} {e:TypeId} {v:Value} {vs:List DveM} {R:Nat→Prop} (h:w.ownsRow base e 3 v vs.length (vs.flatMap dveC)) (hR:∀b,v.ownBlock=some b→R b):SlS 3 DveK w R v vs:=by
 refine OwnK.slS (R:=R) dveK ⟨_,h,fun k a ha=>⟨dveC a,rfl,fun i u hu=>?_,rfl⟩⟩ (fun _ h=>h) hR
 clear h hR
 induction vs generalizing k with
 | nil=>simp at ha
 | cons x xs ih =>
  rw[List.flatMap_cons]
  cases k with
  | zero =>
   simp at ha;subst ha
   rw[Nat.zero_mul,Nat.zero_add,List.getElem?_append_left (List.getElem?_eq_some_iff.1 hu).1];exact hu
  | succ k =>
   rw[List.getElem?_append_right (by show 3≤_;omega)]
   have:=ih k (by simpa using ha)
   rw[show(k+1) * 3+i - (dveC x).length=k * 3+i by show _ - 3=_;omega]
   exact this
theorem slS_of_own2{w:World} {base:Nat} {e:TypeId} {v:Value} {vs:List VolM} {R:Nat→Prop} (h:w.ownsRow base e 2 v vs.length (vs.flatMap volC)) (hR:∀b,v.ownBlock=some b→R b):SlS 2 VolK w R v vs:=by
 refine OwnK.slS (R:=R) volK ⟨_,h,fun k a ha=>⟨volC a,rfl,fun i u hu=>?_,rfl⟩⟩ (fun _ h=>h) hR
 clear h hR
 induction vs generalizing k with
 | nil=>simp at ha
 | cons x xs ih =>
  rw[List.flatMap_cons]
  cases k with
  | zero =>
   simp at ha;subst ha
   rw[Nat.zero_mul,Nat.zero_add,List.getElem?_append_left (List.getElem?_eq_some_iff.1 hu).1];exact hu
  | succ k =>
   rw[List.getElem?_append_right (by show 2≤_;omega)]
   have:=ih k (by simpa using ha)
   rw[show(k+1) * 2+i - (volC x).length=k * 2+i by show _ - 2=_;omega]
   exact this
theorem InvB.inP(h:InvB gT vt WB gF ext vl vm vd vv wr I vp ps) (hT:gT<WB.heap.size) (hF:gF<WB.heap.size) (hne:gF≠gT) (hi:InP gT vt wr w' J):InvB gT vt WB gF ext vl vm vd vv w' J vp ps:=h.stay hT hF hne hi.hot hi.tape
theorem InvC.inP{WC:World} {os:List VolM} (h:InvC gT vt WC gF ext vl vm vd vv vp wr I vo os) (hT:gT<WC.heap.size) (hF:gF<WC.heap.size) (hne:gF≠gT) (hi:InP gT vt wr w' J):InvC gT vt WC gF ext vl vm vd vv vp w' J vo os:=h.stay hT hF hne hi.hot hi.tape
end
theorem nlength_any(v:Value) (l:List Nat) (R:Nat→Prop) (w:World) (h:LS w R v l) (hl:l.length≤1048576) :
  Calls Tryz.prog 232 #[v] w fun e w'=>e=.returned (.int .i64 ((trimL l).length:Int))∧w=w':=by
 rcases h.1 with ⟨rfl,rfl⟩ | ⟨b,off,c,rfl,hlc,hcm,hRb,hcs⟩
 ·clear h
  go_enter Tryz.func232,Tryz.ntmps232
  go_wp2_with fail
  go_loopg [3] 0 (fun z v3 wr=>w=wr∧v3=.int .i64 0)
  case atStart=>exact⟨rfl,rfl⟩
  case round =>
   obtain⟨rfl,rfl⟩:=hrel
   go_wp2_with fail
   go_ret
   exact⟨rfl,rfl⟩
 ·clear h
  unfold maxLen at hcm
  have HCS:=zh hcs
  clear hcs
  go_enter Tryz.func232,Tryz.ntmps232
  go_wp2_with fail
  go_loopg [3] l.length (fun z v3 wr=>w=wr∧∃j:Nat,j≤l.length∧z=0+j∧v3=.int .i64 (j:Int)∧Hid (∀i (h:i<l.length),j≤i→l[i]=0))
  case atStart=>exact⟨rfl,l.length,Nat.le_refl _,(Nat.zero_add _).symm,rfl,fun i h h2=>by omega⟩
  case round =>
   obtain⟨rfl,j,hj,rfl,rfl,HZ⟩:=hrel
   by_cases h0:j=0
   ·subst h0
    have HT:=zh (show(trimL l).length=0 by rw[trim_at l 0 hj HZ.out (fun k _ e=>by omega)];rfl)
    go_wp2_with fail
    go_ret
    exact⟨by rw[HT.out];rfl,rfl⟩
   ·obtain⟨k,rfl⟩:∃k,j=k+1:=⟨j - 1,by omega⟩
    have hkl:k<l.length:=by omega
    have hck:=HCS.out k l[k] (List.getElem?_eq_getElem hkl)
    unfold u32V at hck
    have hpos:(0:Int)<((k+1:Nat):Int):=by omega
    have hsub:IntKind.i64.wrap (((k+1:Nat):Int) - 1)=(k:Int):=by rw[show((k+1:Nat):Int) - 1=(k:Int) by omega];exact IntWalk.i64_in _ (by omega)
    have hi0':(0:Int)≤(k:Int):=by omega
    have hi1':(k:Int)<(l.length:Int):=by omega
    have hz2':l[k]=0→∀i (h:i<l.length),k≤i→l[i]=0:=fun e i h1 h2=>by
     by_cases e2:i=k
     ·subst e2;exact e
     ·exact HZ.out i h1 (by omega)
    have hnz:l[k]≠0→(trimL l).length=k+1:=fun e=>by
     rw[trim_at l (k+1) hj HZ.out (fun k2 h2 e2=>by
      have e3:k2=k:=by omega
      subst e3;exact e),List.length_take]
     omega
    have HZ2:=zh hz2'
    have HNZ:=zh hnz
    obtain⟨x,hx⟩:=zx (l[k])
    rw[←hx] at hck HZ2 HNZ
    obtain⟨K1,hK1⟩:=zx (k+1)
    rw[←hK1] at hpos hsub HNZ hj ⊢
    have HK1:=zh hK1
    clear hz2' hnz hx HZ hK1
    by_cases hx0:x=0
    ·have HZ3:=zh (HZ2.out hx0)
     have q1:((x:Int)==0)=true:=by simpa using hx0
     clear hx0
     go_wp2_with fail
     go_roundg k
     case measure=>omega
     case rel=>exact⟨rfl,k,by omega,(Nat.zero_add _).symm,rfl,HZ3⟩
    ·have q1:((x:Int)==0)=false:=by simpa using hx0
     have HT:=zh (HNZ.out hx0)
     clear hx0
     go_wp2_with fail
     go_ret
     exact⟨by rw[HT.out];rfl,rfl⟩
theorem LS.take{w:World} {R:Nat→Prop} {A:Option Addr} {n c:Nat} {l:List Nat} (h:LS w R (.slice A n c) l) (j c':Nat) (hj:j≤l.length) (hc:j≤c') (hc':c'≤maxLen) (hA:0<l.length):LS w R (.slice A j c') (l.take j):=by
 rcases h.1 with ⟨h1,h2⟩ | ⟨b,off,c2,h1,hlc,hcm,hRb,hcs⟩
 ·rw[h2] at hA;simp at hA
 ·injection h1 with h1 h2 h3
  refine⟨.inr ⟨b,off,c',by rw[h1,List.length_take,Nat.min_eq_left hj],by rw[List.length_take];omega,by omega,hRb,fun k x hk=>hcs k x ?_⟩,fun x hx=>h.2 x (List.mem_of_mem_take hx)⟩
  rw[List.getElem?_take] at hk
  split at hk
  ·exact hk
  ·cases hk
theorem trimL_take(l:List Nat):trimL l=l.take (trimL l).length:=by
 have h:trimL l <+: l:=by
  unfold trimL
  have h1:l.reverse.dropWhile (·==0) <:+ l.reverse:=List.dropWhile_suffix _
  have h2:=List.reverse_prefix.2 h1
  simpa using h2
 exact(List.prefix_iff_eq_take.1 h)
theorem LS.only{w:World} {R R':Nat→Prop} {A:Option Addr} {n c:Nat} {l:List Nat} (h:LS w R (.slice A n c) l) (hr:∀b o,A=some ⟨b,o,none⟩→R' b):LS w R' (.slice A n c) l:=by
 refine⟨?_,h.2⟩
 rcases h.1 with h1 | ⟨b,off,c2,h1,h2,h3,h4,h5⟩
 ·exact .inl h1
 ·have hA:A=some ⟨b,off,none⟩:=by injection h1
  exact .inr ⟨b,off,c2,h1,h2,h3,hr b off hA,h5⟩
theorem LS.cap{w:World} {R:Nat→Prop} {A:Option Addr} {n c:Nat} {l:List Nat} (h:LS w R (.slice A n c) l) (hA:0<l.length):∃b off,A=some ⟨b,off,none⟩∧n=l.length∧n≤c∧c≤maxLen:=by
 rcases h.1 with ⟨h1,h2⟩ | ⟨b,off,c2,h1,h2,h3,-⟩
 ·rw[h2] at hA;simp at hA
 ·injection h1 with h5 h6 h4
  subst h4
  subst h6
  exact⟨b,off,h5,rfl,h2,h3⟩
theorem LS.trim{w:World} {R:Nat→Prop} {A:Option Addr} {n c:Nat} {l:List Nat} (h:LS w R (.slice A n c) l) (hA:0<l.length):LS w R (.slice A (trimL l).length c) (trimL l):=by
 have hc:l.length≤c∧c≤maxLen:=by
  rcases h.1 with ⟨h1,h2⟩ | ⟨b,off,c2,h1,h2,h3,-⟩
  ·rw[h2] at hA;simp at hA
  ·injection h1 with _ _ h4
   subst h4
   exact⟨h2,h3⟩
 have hl:=trimL_length l
 have ht:trimL l=l.take (trimL l).length:=trimL_take l
 have h3:=h.take (trimL l).length c hl (by omega) hc.2 hA
 rw[←ht] at h3
 exact h3
theorem Fr.wider{a b c d:Nat} (h:c≤a) (k:b≤d):∀x,Fr a b x→Fr c d x:=fun x hx=>⟨Nat.le_trans h hx.1,Nat.lt_of_lt_of_le hx.2 k⟩
def bl(n:Nat):Nat:=if n=0 then 0 else Nat.log2 n+1
theorem bl_zero:bl 0=0:=rfl
theorem bl_half{n:Nat} (h:0<n):bl n=bl (n / 2)+1:=by
 unfold bl
 rw[if_neg (by omega)]
 by_cases h1:n=1
 ·subst h1;decide
 ·rw[if_neg (by omega),Nat.log2_def,if_pos (by omega)]
theorem bl_le:∀(k n:Nat),n<2 ^ k→bl n≤k
 | 0,n,h=>by
  have h0:n=0:=by simpa using h
  rw[h0];exact Nat.le_refl _
 | k+1,n,h=>by
  rcases Nat.eq_zero_or_pos n with h0 | h0
  ·rw[h0];exact Nat.zero_le _
  ·rw[bl_half h0]
   have:=bl_le k (n / 2) (by rw[Nat.pow_succ] at h;omega)
   omega
theorem bl_32{n:Nat} (h:n<4294967296):bl n≤32:=bl_le 32 n (by simpa using h)
theorem bl_pos{n:Nat}:0<bl n↔0<n:=by
 unfold bl
 split <;> omega
theorem bl_one:bl 1=1:=by decide
theorem nlarge_any(v:Value) (l:List Nat) (R:Nat→Prop) (w:World) (h:LS w R v l) (hl:l.length≤512) :
  Calls Tryz.prog 255 #[v] w fun e w'=>e=.returned (.bool false)∧w=w':=by
 have HL:=zh (nlength_any v l R w h (by omega))
 have hlen:=trimL_length l
 go_enter Tryz.func255,Tryz.ntmps255
 go_wp2_with fail
 refine HL.out.mono ?_
 rintro e w2 ⟨rfl,rfl⟩
 have q:¬((512:Int)<((trimL l).length:Int)):=by omega
 generalize (trimL l).length=n at *
 go_wp2_with fail
 go_ret
 exact⟨ret_bool (decide_eq_false (by omega)),rfl⟩
theorem nbits_any(v:Value) (n:Nat) (R:Nat→Prop) (w:World) (h:LS w R v (natL n)) :
  Calls Tryz.prog 189 #[v] w fun e w'=>e=.returned (.int .i64 (bl n:Int))∧∃k,w'=w.drewN k:=by
 have HL:=zh (nlength_any v _ R w h (by have:=natL_length n;omega))
 rw[trim_natL] at HL
 rcases Nat.eq_zero_or_pos n with h0 | h0
 ·subst h0
  go_enter Tryz.func189,Tryz.ntmps189
  go_wp2_with fail
  refine HL.out.mono ?_
  rintro e w2 ⟨rfl,rfl⟩
  go_wp2_with fail
  go_ret
  exact⟨rfl,0,rfl⟩
 ·obtain⟨A,c,rfl,-,-⟩:=h.form
  obtain⟨b,off,rfl,-,hc⟩:=h.one h0
  have h32:n<4294967296:=h.2 n (by rw[natL_pos h0];simp)
  have l1:(natL n).length=1:=by rw[natL_pos h0];rfl
  rw[l1] at HL ⊢
  have n0:(0:Int)≤(n:Int):=by omega
  have n1:(n:Int)<4294967296:=by omega
  have e0:IntKind.i64.wrap (((1:Nat):Int) - 1)=0:=IntWalk.i64_in _ (by omega)
  clear h l1
  go_enter Tryz.func189,Tryz.ntmps189
  go_wp2_with fail
  refine HL.out.mono ?_
  rintro e w2 ⟨rfl,rfl⟩
  have q0:¬((1:Int)==0)=true:=by decide
  go_wp2_with fail
  have hbn:=bl_32 h32
  have HBN:=zh hbn
  clear hbn q0
  go_loopg [4,5] n (fun z v4 v5 wr=>w=wr∧∃k:Nat,v4=.int .i64 (k:Int)∧v5=.int .u32 (z:Int)∧Hid (k+bl z=bl n)∧z<4294967296)
  case atStart=>exact⟨rfl,0,rfl,rfl,Nat.zero_add _,h32⟩
  case round =>
   obtain⟨rfl,k,rfl,rfl,HK,hz⟩:=hrel
   rcases Nat.eq_zero_or_pos gk with hg | hg
   ·subst hg
    have HE:=zh (show bl n=k by have:=HK.out;rw[bl_zero] at this;omega)
    go_wp2_with fail
    go_ret
    exact⟨by rw[HE.out];rfl,0,rfl⟩
   ·have hk:(k:Int)≤32:=by have:=HK.out;have:=HBN.out;omega
    have HH:=zh (show k+1+bl (gk / 2)=bl n by have h1:=HK.out;have h2:=bl_half hg;omega)
    have g0:(0:Int)<(gk:Int):=by omega
    have g1:(gk:Int)<4294967296:=by omega
    go_wp2_with fail
    go_roundg (gk / 2)
    case measure=>omega
    case rel=>exact⟨rfl,k+1,by go_num,by go_num,HH,by omega⟩
theorem addr_add0(b off j:Nat):(⟨b,off,none⟩:Addr).add j=⟨b,off+j,none⟩:=by unfold Addr.add;split <;> simp_all
theorem nmake_any(v:Nat) (w:World) (hv:v<4294967296) :
  Calls Tryz.prog 190 #[.int .u64 (v:Int)] w fun e w'=>∃u,e=.returned u∧LS w' (Fr w.heap.size w'.heap.size) u (natL v)∧Below w.heap.size w w':=by
 have hv0:(0:Int)≤(v:Int):=by omega
 have hv1:(v:Int)<4294967296:=by omega
 obtain⟨W,hW⟩:=zx (w.alloc (.cells #[.int .u32 (v:Int),.int .u32 0] 97))
 have hls:=LS.two w v 0 hv (by omega)
 rw[show((0:Nat):Int)=0 from rfl,←hW] at hls
 have hb:Below w.heap.size w W:=by rw[hW];exact(Below.refl _ _).alloc (Nat.le_refl _) _
 have hsz:W.heap.size=w.heap.size+1:=by rw[hW];simp
 have HL:=zh (nlength_any _ _ _ W hls (by simp))
 have hr:=(hls.trim (by simp)).only (R':=Fr w.heap.size W.heap.size) (fun b o hb=>by
  injection hb with hb
  injection hb with hb
  exact⟨by omega,by omega⟩)
 rw[trim_two] at HL hr
 have hn1:=natL_length v
 have HLS:=zh hls
 have HR:=zh hr
 have HB:=zh hb
 have HW:=zh hW
 have HSZ:=zh hsz
 obtain⟨N,hN⟩:=zx ((natL v).length)
 rw[←hN] at HL HR hn1
 clear hls hr hb hW hN hsz
 go_enter Tryz.func190,Tryz.ntmps190
 go_wp2_with fail
 have e0:((v:Int) / 4294967296)=0:=by omega
 rw[e0]
 rw[←HW.out]
 refine HL.out.mono ?_
 rintro e w2 ⟨rfl,rfl⟩
 go_wp2_with fail
 go_ret
 exact⟨_,rfl,HR.out,HB.out⟩
theorem ntrim_any(v:Value) (l:List Nat) (R:Nat→Prop) (w:World) (h:LS w R v l) (hR:∀b,R b→b<w.heap.size) (hl:l.length≤1048576) :
  Calls Tryz.prog 237 #[v] w fun e w'=>∃u,e=.returned u∧OwnL w' w.heap.size u (trimL l)∧Below w.heap.size w w':=by
 obtain⟨i0,hi0,hz0,hz1,hz2⟩:=info_parts info_u32
 have HL:=zh (nlength_any v l R w h (by omega))
 rcases h.1 with ⟨rfl,rfl⟩ | ⟨b,off,c,rfl,hlc,hcm,hRb,hcs⟩
 ·clear h
  go_enter Tryz.func237,Tryz.ntmps237
  go_wp2_with fail
  refine HL.out.mono ?_
  rintro e w2 ⟨rfl,rfl⟩
  go_wp2_with (at_builtin;refine wpList_append_own_none rfl _ _ _ rfl w.heap.size 97 i0 1 Tryz.underlying81 hi0 (.slice none 0 0) 0 [] (by rfl) (World.ownsRow_nil _ _ _ _) (by rfl) ?_)
  go_ret
  exact⟨_,rfl,OwnL.nil _ _,Below.refl _ _⟩
 ·clear h
  unfold maxLen at hcm
  have hRl:=hR b hRb
  have hll:=trimL_length l
  have htt:=trimL_take l
  obtain⟨K1,hK1⟩:=zx ((trimL l).length)
  rw[←hK1] at HL hll htt
  have hnews:∀j2 u,((l.take K1).map u32V)[j2]?=some u→w.cell? ((⟨b,off,none⟩:Addr).add j2)=some u:=by
   intro j2 u hu
   have e1:(⟨b,off,none⟩:Addr).add j2=⟨b,off+j2,none⟩:=addr_add0 b off j2
   rw[e1]
   rw[List.getElem?_map] at hu
   cases hx:(l.take K1)[j2]? with
   | none=>rw[hx] at hu;cases hu
   | some x =>
    rw[hx] at hu
    injection hu with hu
    rw[←hu]
    refine hcs j2 x ?_
    rw[List.getElem?_take] at hx
    split at hx
    ·exact hx
    ·cases hx
  have hlt:((l.take K1).map u32V).length=K1 * 1:=by rw[List.length_map,List.length_take];omega
  have HNW:=zh hnews
  have HLT:=zh hlt
  have HT:=zh htt
  clear htt hnews hlt hcs hK1
  go_enter Tryz.func237,Tryz.ntmps237
  go_wp2_with fail
  refine HL.out.mono ?_
  rintro e w2 ⟨rfl,rfl⟩
  go_wp2_with (at_builtin;refine wpList_append_own_at (P:=Tryz.prog) _ rfl _ _ _ rfl w.heap.size 97 i0 _ 1 4 Tryz.underlying81 hi0 hz0 hz1 hz2 rfl (by decide) (.slice none 0 0) 0 [] (by rfl) (World.ownsRow_nil _ _ _ _) ⟨b,off,none⟩ K1 c ((l.take K1).map u32V) (by rfl) HLT.out HNW.out (fun u hu=>by obtain⟨x,-,rfl⟩:=List.mem_map.1 hu;rfl) (by unfold maxLen;omega) (by omega) (Nat.le_refl _) ?_;intro v' w' hown' hg' _ hat')
  go_ret
  refine⟨_,rfl,?_,below_none hg'⟩
  have h2:=hown'
  rw[Nat.zero_add,List.nil_append] at h2
  unfold OwnL
  rw[HT.out,show(l.take K1).length=K1 by rw[List.length_take];omega]
  exact h2
theorem ncmp_any(va vb:Value) (n m:Nat) (R R':Nat→Prop) (w:World) (ha:LS w R va (natL n)) (hb:LS w R' vb (natL m)) :
  Calls Tryz.prog 195 #[va,vb] w fun e w'=>e=.returned (.int .i64 (cmpI n m))∧∃k,w'=w.drewN k:=by
 have HA:=zh (nlength_any va _ R w ha (by have:=natL_length n;omega))
 have HB:=zh (nlength_any vb _ R' w hb (by have:=natL_length m;omega))
 rw[trim_natL] at HA HB
 obtain⟨A,c,rfl,-,-⟩:=ha.form
 obtain⟨B,d,rfl,-,-⟩:=hb.form
 have hln:=natL_len (n:=n)
 have hlm:=natL_len (n:=m)
 obtain⟨N,hN⟩:=zx ((natL n).length)
 obtain⟨M,hM⟩:=zx ((natL m).length)
 have hN1:N≤1:=by rw[hN];exact natL_length n
 have hM1:M≤1:=by rw[hM];exact natL_length m
 rw[←hN] at ha hln HA ⊢
 rw[←hM] at hb hlm HB ⊢
 have H1:=zh ha
 have H2:=zh hb
 clear ha hb hN hM
 go_enter Tryz.func195,Tryz.ntmps195
 go_wp2_with fail
 refine HA.out.mono ?_
 rintro e w2 ⟨rfl,rfl⟩
 go_wp2_with fail
 refine HB.out.mono ?_
 rintro e w2 ⟨rfl,rfl⟩
 by_cases hlt:N<M
 ·have HE:=zh (show cmpI n m = -1 by
   have h3:=hln.1.1 (by omega)
   have h4:=hlm.2.1 (by omega)
   unfold cmpI;rw[if_pos (by omega)])
  have q1:(N:Int)<(M:Int):=by omega
  clear hlt hln hlm
  go_wp2_with fail
  go_ret
  exact⟨by rw[HE.out];rfl,0,rfl⟩
 ·have q1:¬(N:Int)<(M:Int):=by omega
  by_cases hgt:M<N
  ·have HE:=zh (show cmpI n m=1 by
    have h3:=hlm.1.1 (by omega)
    have h4:=hln.2.1 (by omega)
    unfold cmpI;rw[if_neg (by omega),if_pos (by omega)])
   have q2:(M:Int)<(N:Int):=by omega
   clear hlt hgt hln hlm
   go_wp2_with fail
   go_ret
   exact⟨by rw[HE.out];rfl,0,rfl⟩
  ·have q2:¬(M:Int)<(N:Int):=by omega
   have hNM:N=M:=by omega
   subst hNM
   have hsub:IntKind.i64.wrap ((N:Int) - 1)=(N:Int) - 1:=IntWalk.i64_in _ (by omega)
   go_wp2_with fail
   go_loopg [7] N (fun z v7 wr=>Hid (∃k,wr=w.drewN k)∧((z=0∧v7=.int .i64 (-1)∧n=m)∨(z=1∧v7=.int .i64 0∧0<n∧0<m)))
   case atStart =>
    refine⟨⟨0,rfl⟩,?_⟩
    rcases Nat.lt_or_ge 0 N with h | h
    ·have e1:N=1:=by omega
     subst e1
     exact .inr ⟨rfl,rfl,hln.2.1 rfl,hlm.2.1 rfl⟩
    ·have e1:N=0:=by omega
     subst e1
     exact .inl ⟨rfl,rfl,by have:=hln.1.1 rfl;have:=hlm.1.1 rfl;omega⟩
   case round =>
    obtain⟨hbr,h⟩:=hrel
    rcases h with ⟨rfl,rfl,he⟩ | ⟨rfl,rfl,h0,h0'⟩
    ·have HE:=zh he
     obtain⟨k,rfl⟩:=hbr.out
     clear he hbr hsub q1 q2 hlt hgt
     go_wp2_with fail
     go_ret
     exact⟨ret_int (by unfold cmpI;rw[HE.out];simp),k,rfl⟩
    ·obtain⟨k,rfl⟩:=hbr.out
     have e1:N=1:=by
      have h3:=hln.2.2 h0
      omega
     subst e1
     obtain⟨b1,o1,rfl,hR1,hc1⟩:=H1.out.one h0
     obtain⟨b2,o2,rfl,hR2,hc2⟩:=H2.out.one h0'
     have k1:(w.drewN k).cell? ⟨b1,o1,none⟩=_:=hc1
     have k2:(w.drewN k).cell? ⟨b2,o2,none⟩=_:=hc2
     obtain⟨W,hW⟩:=zx (w.drewN k)
     rw[←hW] at k1 k2 ⊢
     have HW:=zh hW
     have n0:(0:Int)<(n:Int):=by omega
     clear hc1 hc2 hR1 hR2 hln hlm hsub hN1 h0 h0' hbr hW q1 q2 hlt hgt
     by_cases hlt:n<m
     ·have q1:(n:Int)<(m:Int):=by omega
      have HE:=zh (show cmpI n m = -1 by unfold cmpI;rw[if_pos hlt])
      clear hlt
      go_wp2_with fail
      go_quiet (fail)
      go_wp2_with fail
      go_ret
      exact⟨ret_int HE.out.symm,by rw[HW.out];simp only[World.drewN_drewN];exact⟨_,rfl⟩⟩
     ·have q1:¬(n:Int)<(m:Int):=by omega
      by_cases hgt:m<n
      ·have q2:(m:Int)<(n:Int):=by omega
       have HE:=zh (show cmpI n m=1 by unfold cmpI;rw[if_neg hlt,if_pos hgt])
       clear hlt hgt
       go_wp2_with fail
       go_quiet (fail)
       go_wp2_with fail
       go_quiet (fail)
       go_wp2_with fail
       go_ret
       exact⟨ret_int HE.out.symm,by rw[HW.out];simp only[World.drewN_drewN];exact⟨_,rfl⟩⟩
      ·have q2:¬(m:Int)<(n:Int):=by omega
       have he:n=m:=by omega
       have HE:=zh he
       clear hlt hgt he
       go_wp2_with fail
       go_quiet (fail)
       go_wp2_with fail
       go_quiet (fail)
       go_wp2_with fail
       go_roundg 0
       case measure=>omega
       case rel=>exact⟨by rw[HW.out];simp only[World.drewN_drewN];exact⟨_,rfl⟩,.inl ⟨rfl,rfl,HE.out⟩⟩
theorem nsized_any(A:Option Addr) (n c:Nat) (l:List Nat) (R:Nat→Prop) (w:World) (h:LS w R (.slice A n c) l) (h0:0<l.length) (hl:l.length≤512) :
  Calls Tryz.prog 256 #[.slice A n c] w fun e w'=>e=.returned (.tuple #[.slice A (trimL l).length (trimL l).length,.int .i64 0])∧w=w':=by
 have HL:=zh (nlength_any _ l R w h (by omega))
 have hlen:=trimL_length l
 obtain⟨b,off,rfl,rfl,hc1,hcm⟩:=h.cap h0
 unfold maxLen at hcm
 clear h
 obtain⟨T,hT⟩:=zx ((trimL l).length)
 obtain⟨N,hN⟩:=zx l.length
 rw[←hT] at HL hlen ⊢
 rw[←hN] at HL hlen hl hc1 h0 ⊢
 clear hT hN
 go_enter Tryz.func256,Tryz.ntmps256
 go_wp2_with fail
 refine HL.out.mono ?_
 rintro e w2 ⟨rfl,rfl⟩
 have q:¬((512:Int)<(T:Int)):=by omega
 have q0:(0:Int)≤(T:Int):=by omega
 have q1:(T:Int)≤(c:Int):=by omega
 go_wp2_with fail
 go_ret2
 exact⟨rfl,rfl⟩
theorem mk_u32n(n:Nat) (hn:n≤1048576):∀w:World,(Instr.makeSlice 81 (.int .i64 (n:Int)) (.int .i64 (n:Int))).run Tryz.prog w=.ok (.slice (some ⟨w.heap.size,0,none⟩) n n) (w.alloc (.cells (Array.replicate n (.int .u32 0)) 97)):=by
 intro w
 obtain⟨i0,hi0,hz0,hz1,hz2⟩:=info_parts info_u32
 have h:=run_make (P:=Tryz.prog) w 81 97 i0 _ Tryz.underlying81 hi0 hz0 .i64 .i64 (n:Int) (n:Int) (by omega) (by omega) (by rw[hz2];omega) (by omega)
 rw[hz1] at h
 simpa[madeCells_one,Value.cells] using h
theorem mk_u32s2:∀w:World,(Instr.makeSlice 81 (.int .i64 2) (.int .i64 2)).run Tryz.prog w=.ok (.slice (some ⟨w.heap.size,0,none⟩) 2 2) (w.alloc (.cells #[.int .u32 0,.int .u32 0] 97)):=fun w=>mk_u32n 2 (by omega) w
theorem nshort_any(va:Value) (n d:Nat) (R:Nat→Prop) (w:World) (ha:LS w R va (natL n)) (hR:∀b,R b→b<w.heap.size) (hn:0<n) (hd:0<d) (hd32:d<4294967296) :
  Calls Tryz.prog 267 #[va,.int .u32 (d:Int)] w fun e w'=>∃u,e=.returned (.tuple #[u,.int .u32 ((n % d:Nat):Int)])∧LS w' (Fr w.heap.size w'.heap.size) u (natL (n / d))∧Below w.heap.size w w':=by
 have hn32:=ha.lt32
 obtain⟨A,c,rfl,-,-⟩:=ha.form
 have l1:(natL n).length=1:=by rw[natL_pos hn];rfl
 rw[l1] at ha ⊢
 obtain⟨b1,o1,rfl,hR1,hc1⟩:=ha.one hn
 have hb1l:b1<w.heap.size:=hR _ hR1
 have hmk:=mk_u32s1
 obtain⟨W3,hW3⟩:=zx (w.alloc (.cells #[.int .u32 0] 97))
 obtain⟨g,hg⟩:=zx w.heap.size
 have k1:W3.cell? ⟨b1,o1,none⟩=some (.int .u32 (n:Int)):=by rw[hW3];exact(((Below.refl _ _).alloc (Nat.le_refl _) _).cell (p:=⟨b1,o1,none⟩) hb1l).trans hc1
 have hg3:W3.heap[g]?=some (.cells #[.int .u32 0] 97 (0,0)):=by rw[hW3,hg];exact heap_alloc_new _ _
 have kg:W3.cell? ⟨g,0,none⟩=some (.int .u32 0):=by rw[cell_of_row _ _ _ _ _ _ hg3];rfl
 have kf:W3.frozen? ⟨g,0,none⟩=false:=frozen_of_row _ _ _ _ _ hg3
 have hb3:Below w.heap.size w W3:=by rw[hW3];exact(Below.refl _ _).alloc (Nat.le_refl _) _
 have HG3:=zh hg3
 have HW3:=zh hW3
 have HG:=zh hg
 have HB3:=zh hb3
 have n0:(0:Int)≤(n:Int):=by omega
 have n1:(n:Int)≤4294967295:=by omega
 have m0:(0:Int)<(d:Int):=by omega
 have m1:(d:Int)≤4294967295:=by omega
 have e1:b1≠g:=by omega
 clear ha l1 hc1 hW3 hg hg3 hb3 hR1
 go_enter Tryz.func267,Tryz.ntmps267
 go_upto_region 2 with fail
 rw[←HW3.out,←HG.out]
 clear hmk
 go_wp2_with fail
 go_loopg [7,8] 1 (fun z v7 v8 wr=>(z=1∧v7=.int .u64 0∧v8=.int .i64 0∧W3=wr)∨(z=0∧v7=.int .u64 ((n % d:Nat):Int)∧v8=.int .i64 (-1)∧Hid (wr.heap[g]?=some (.cells #[.int .u32 ((n / d:Nat):Int)] 97 (0,0)))∧Hid (Below w.heap.size w wr)))
 case atStart=>exact .inl ⟨rfl,rfl,rfl,rfl⟩
 case round =>
  rcases hrel with ⟨rfl,rfl,rfl,rfl⟩ | ⟨rfl,rfl,rfl,hgc,hbr⟩
  ·have hor:=or_zero n hn32
   have hqu:=quo_nat n d hn32
   have hre:=rem_nat n d
   go_wp2_with fail
   go_roundg 0
   case measure=>omega
   case rel=>exact .inr ⟨rfl,rfl,rfl,heap_setCell_same W3 g 0 _ _ _ HG3.out,HB3.out.setCell (by show w.heap.size≤g;rw[HG.out];exact Nat.le_refl _) _⟩
  ·clear k1 kg kf
   have hgl:g<wr.heap.size:=(Array.getElem?_eq_some_iff.1 hgc.out).1
   have hqle:n / d<4294967296:=Nat.lt_of_le_of_lt (Nat.div_le_self n d) hn32
   have hls:LS wr (Bl wr.heap.size) (.slice (some ⟨g,0,none⟩) 1 1) [n / d]:=LS.cell1 wr g (n / d) hqle hgc.out _ hgl
   have HL:=zh (nlength_any _ _ _ wr hls (by simp))
   have hr:=(hls.trim (by simp))
   rw[trim_one'] at HL hr
   have hr2:LS wr (Fr w.heap.size wr.heap.size) (.slice (some ⟨g,0,none⟩) (natL (n / d)).length 1) (natL (n / d)):=hr.only (fun b o hb=>by
    injection hb with hb;injection hb with hb;rw[←hb];exact⟨by rw[HG.out];exact Nat.le_refl _,hgl⟩)
   have hN1:=natL_length (n / d)
   have hmd:n % d<4294967296:=Nat.lt_trans (Nat.mod_lt _ hd) hd32
   obtain⟨Q,hQ⟩:=zx ((natL (n / d)).length)
   rw[←hQ] at HL hN1 hr2
   have HR2:=zh hr2
   obtain⟨M,hM⟩:=zx (n % d)
   rw[←hM] at hmd ⊢
   have HMM:=zh hM
   have q0:(0:Int)≤(M:Int):=by omega
   have q1:(M:Int)<4294967296:=by omega
   have HBR:=zh hbr.out
   clear hls hr hr2 hQ hM hgc hbr hqle hgl hmd
   go_wp2_with fail
   refine HL.out.mono ?_
   rintro e w2 ⟨rfl,rfl⟩
   go_wp2_with fail
   go_ret2
   exact⟨_,by rw[←HMM.out];rfl,HR2.out,HBR.out⟩
theorem ndivide_any(va vb:Value) (n m:Nat) (w:World) (ha:LS w (Bl w.heap.size) va (natL n)) (hb:LS w (Bl w.heap.size) vb (natL m)) (hm:0<m) :
  Calls Tryz.prog 257 #[va,vb] w fun e w'=>∃q r,e=.returned (.tuple #[q,r])∧LS w' (Fr w.heap.size w'.heap.size) r (natL (n % m))∧Below w.heap.size w w':=by
 have HC:=zh (ncmp_any va vb n m _ _ w ha hb)
 have hn32:=ha.lt32
 have hm32:=hb.lt32
 have HA:=zh ha
 have HB:=zh hb
 go_enter Tryz.func257,Tryz.ntmps257
 go_wp2_with fail
 refine HC.out.mono ?_
 rintro e w2 ⟨rfl,k2,rfl⟩
 have hb2:Below w.heap.size w (w.drewN k2):=Below.drewN' (Below.refl _ _) k2
 obtain⟨W2,hW2⟩:=zx (w.drewN k2)
 rw[←hW2] at hb2 ⊢
 have HB2:=zh hb2
 have HA2:=zh (HA.out.below hb2)
 have HBB2:=zh (HB.out.below hb2)
 clear hb2 hW2 ha hb
 by_cases hlt:n<m
 ·have q1:cmpI n m = -1:=if_pos hlt
  rw[q1]
  have HD:=zh (show n % m=n from Nat.mod_eq_of_lt hlt)
  clear hlt q1
  go_wp2_with fail
  refine(ntrim_any va _ _ _ HA2.out (fun b h=>h) (by have:=natL_length n;omega)).mono ?_
  rintro e w3 ⟨u,rfl,hO,hb2⟩
  rw[trim_natL] at hO
  have HO:=zh ((hO.ls (natL_mem hn32)).mono (Fr.wider HB2.out.size (Nat.le_refl _)))
  have hbz:=HB2.out.trans (hb2.mono HB2.out.size)
  clear hO hb2
  go_wp2_with fail
  go_ret2
  exact⟨_,_,rfl,by rw[HD.out];exact HO.out,hbz⟩
 ·have hn:0<n:=by omega
  have q1:¬cmpI n m<0:=by unfold cmpI;rw[if_neg hlt];split <;> omega
  obtain⟨A,c,rfl,-,-⟩:=HBB2.out.form
  have l2:(natL m).length=1:=by rw[natL_pos hm];rfl
  rw[l2] at HBB2 ⊢
  obtain⟨b2,o2,rfl,-,hc2⟩:=HBB2.out.one hm
  have HS:=zh (nshort_any va n m _ W2 HA2.out (fun b h=>h) hn hm hm32)
  obtain⟨C,hC⟩:=zx (cmpI n m)
  rw[←hC] at q1 ⊢
  clear l2 hC hlt
  go_wp2_with fail
  refine HS.out.mono ?_
  rintro e w3 ⟨u,rfl,hu,hb3⟩
  have hmd:n % m<4294967296:=Nat.lt_trans (Nat.mod_lt _ hm) hm32
  have HM:=zh (fun w=>nmake_any (n % m) w hmd)
  have HB3:=zh (HB2.out.trans (hb3.mono HB2.out.size))
  obtain⟨M,hM⟩:=zx (n % m)
  rw[←hM] at HM hmd ⊢
  have HMM:=zh hM
  have q2:(0:Int)≤(M:Int):=by omega
  have q3:(M:Int)<4294967296:=by omega
  clear hu hb3 hc2 hM hmd
  go_wp2_with fail
  refine(HM.out _).mono ?_
  rintro e w4 ⟨u4,rfl,hu4,hb4⟩
  have HU4:=zh (hu4.mono (Fr.wider HB3.out.size (Nat.le_refl _)))
  have HB4:=zh (HB3.out.trans (hb4.mono HB3.out.size))
  clear hu4 hb4
  go_wp2_with fail
  go_ret2
  exact⟨_,_,rfl,by rw[←HMM.out];exact HU4.out,HB4.out⟩
theorem ngcd_any(va vb:Value) (n m:Nat) (w:World) (ha:LS w (Bl w.heap.size) va (natL n)) (hb:LS w (Bl w.heap.size) vb (natL m)) :
  Calls Tryz.prog 235 #[va,vb] w fun e w'=>∃g,e=.returned (.tuple #[g,.int .i64 0])∧LS w' (Fr w.heap.size w'.heap.size) g (natL (Nat.gcd n m))∧Below w.heap.size w w':=by
 have hn1:=natL_length n
 have hm1:=natL_length m
 have hn32:=ha.lt32
 have hm32:=hb.lt32
 have HA:=zh ha
 have HB:=zh hb
 have H1:=zh hn1
 have H2:=zh hm1
 have H3:=zh hn32
 have H4:=zh hm32
 clear ha hb hn1 hm1 hn32 hm32
 go_enter Tryz.func235,Tryz.ntmps235
 go_wp2_with fail
 refine(nlarge_any va _ _ _ HA.out (Nat.le_trans H1.out (by omega))).mono ?_
 rintro e w1 ⟨rfl,rfl⟩
 go_wp2_with fail
 refine(nlarge_any vb _ _ _ HB.out (Nat.le_trans H2.out (by omega))).mono ?_
 rintro e w1 ⟨rfl,rfl⟩
 go_wp2_with fail
 refine(ntrim_any va _ _ _ HA.out (fun b h=>h) (Nat.le_trans H1.out (by omega))).mono ?_
 rintro e w4 ⟨u4,rfl,hO4,hb4⟩
 rw[trim_natL] at hO4
 have HO4:=zh (hO4.ls (natL_mem H3.out))
 have HB4:=zh (HB.out.below hb4)
 have HC4:=zh hb4
 clear hb4 hO4
 go_wp2_with fail
 refine(ntrim_any vb _ _ _ HB4.out (fun b h=>h) (Nat.le_trans H2.out (by omega))).mono ?_
 rintro e w5 ⟨u5,rfl,hO5,hb5⟩
 rw[trim_natL] at hO5
 have hs4:=HC4.out.size
 have HO45:=zh ((HO4.out.keep (w':=w5) (fun b hb=>hb5.block b hb.2)).mono (Fr.wider (Nat.le_refl _) hb5.size))
 have HO5:=zh ((hO5.ls (natL_mem H4.out)).mono (Fr.wider hs4 (Nat.le_refl _)))
 have HC5:=zh (HC4.out.trans (hb5.mono HC4.out.size))
 clear hb5 hO5 hs4
 go_wp2_with fail
 go_loopg [0,1] m (fun z v6 v7 wr=>Hid (∃x,Nat.gcd x z=Nat.gcd n m∧x<4294967296∧z<4294967296∧LS wr (Fr w.heap.size wr.heap.size) v6 (natL x)∧LS wr (Fr w.heap.size wr.heap.size) v7 (natL z))∧Hid (Below w.heap.size w wr))
 case atStart=>exact⟨⟨n,rfl,H3.out,H4.out,HO45.out,HO5.out⟩,HC5.out⟩
 case round =>
  obtain⟨hx,hbr⟩:=hrel
  obtain⟨x,hgx,hx32,hz32,hox,hoz⟩:=hx.out
  have HX:=zh hox
  have HZ:=zh hoz
  obtain⟨A6,c6,rfl,-,-⟩:=hox.form
  obtain⟨A7,c7,rfl,-,-⟩:=hoz.form
  have HBR:=zh hbr.out
  have hlz:=natL_len (n:=gk)
  have hsz:=hbr.out.size
  have LX:=zh (hox.mono Fr.bl)
  have LZ:=zh (hoz.mono Fr.bl)
  by_cases h0:gk=0
  ·have hl0:(natL gk).length=0:=hlz.1.2 h0
   have HE:=zh (show x=Nat.gcd n m by rw[←hgx,h0];simp)
   rw[hl0]
   clear hx hox hoz hgx hlz hl0 h0 hbr
   go_wp2_with fail
   go_ret2
   exact⟨_,rfl,by rw[←HE.out];exact HX.out,HBR.out⟩
  ·have hl1:(natL gk).length=1:=hlz.2.2 (by omega)
   have HM:=zh (Nat.mod_lt x (show 0<gk by omega))
   have HG:=zh (show Nat.gcd gk (x % gk)=Nat.gcd n m by rw[←hgx,Nat.gcd_comm x gk,Nat.gcd_rec gk x,Nat.gcd_comm gk (x % gk)])
   have HZ0:=zh (show 0<gk by omega)
   rw[hl1] at LZ HZ ⊢
   clear hx hox hoz hgx hlz hl1 h0 hbr
   go_wp2_with fail
   refine(ndivide_any _ _ x gk _ LX.out LZ.out HZ0.out).mono ?_
   rintro e w6 ⟨q,r,rfl,hr,hb6⟩
   have HQ:=zh (hr.mono (Fr.wider hsz (Nat.le_refl _)))
   have HZ6:=zh ((HZ.out.keep (w':=w6) (fun b hb=>hb6.block b hb.2)).mono (Fr.wider (Nat.le_refl _) hb6.size))
   have HC6:=zh (HBR.out.trans (hb6.mono HBR.out.size))
   clear hr hb6
   go_wp2_with fail
   go_roundg (x % gk)
   case measure=>exact HM.out
   case rel=>exact⟨⟨gk,HG.out,hz32,Nat.lt_trans HM.out hz32,HZ6.out,HQ.out⟩,HC6.out⟩
end Go.Proofs.YtcfkllnpkmebpaaGreatDoor
