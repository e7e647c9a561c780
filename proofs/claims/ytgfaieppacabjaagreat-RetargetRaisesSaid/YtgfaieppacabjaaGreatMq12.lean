/- Parts. -/
import Derived.Test.YtgfaieppacabjaaGreatMq11
set_option linter.unusedSectionVars false
set_option maxRecDepth 100000
set_option maxHeartbeats 12800000
set_option linter.unusedVariables false
set_option linter.unusedSimpArgs false
namespace Go.Proofs.YtgfaieppacabjaaGreat
open Go.RowKit
theorem HotBy.transNew{hot hot2:List (Option Nat)}{a b c:World}(h:HotBy hot a b)(k:HotBy hot2 b c)(hn:∀x,some x∈hot2->x<a.heap.size->some x∈hot):HotBy hot a c :=
 ⟨k.os.trans h.os,k.tape.trans h.tape,k.output.trans h.output,Nat.le_trans h.size k.size,fun x hx hm=>(k.block x (zM hx h.size) (fun e=>hm (hn x e hx))).trans (h.block x hx hm)⟩
theorem HotBy.setNew{hot:List (Option Nat)}{a b:World}(h:HotBy hot a b)(p:Addr)(v:Value)(hp:a.heap.size<=p.block):HotBy hot a (b.setCell p v) :=
 h.transNew (HotBy.setCell [some p.block] b p v (by simp)) (fun x e hx=>by simp at e;omega)
def Fz(lo hi:Nat)(v:Value)(b:Nat):Prop:=lo<=b/\b<hi/\v.ownBlock≠some b
theorem Fz.mono{lo hi hi':Nat}{v:Value}(h:hi<=hi'):∀b,Fz lo hi v b->Fz lo hi' v b:=fun b hb=>⟨hb.1,zM hb.2.1 h,hb.2.2⟩
theorem Fz.kept{lo hi:Nat}{v:Value}{hot:List (Option Nat)}{w w':World}(hh:HotBy hot w w')(hi':hi<=w.heap.size)(hn:∀b,some b∈hot->lo<=b->b<hi->v.ownBlock=some b):Kept (Fz lo hi v) w w':=fun b hb=>hh.block b (zM hb.2.1 hi') (fun e=>hb.2.2 (hn b e hb.1 hb.2.1))
theorem OwnK.pushF{α:Type}{size:Nat}{K:World->(Nat->Prop)->List Value->α->Prop}(hK:Steady K){w2 w4:World}{base:Nat}{e:TypeId}{v v':Value}{es:List α}{cs c:List Value}{a:α}{hot:List (Option Nat)}
  (h2:∀k x,es[k]?=some x->∃c,c.length=size/\(∀i u,c[i]?=some u->cs[k*size+i]?=some u)/\K w2 (Fz base w2.heap.size v) c x) (hl:cs.length=es.length*size) (hv:∀b,v.ownBlock=some b->b<w2.heap.size)
  (ho:w4.ownsRow base e size v' (es.length+1) (cs++c)) (hc:c.length=size) (ha:K w2 (Fz base w2.heap.size v) c a) (hh:HotBy hot w2 w4) (hn:∀b,some b∈hot->base<=b->b<w2.heap.size->v.ownBlock=some b) (hat:v'.ownBlock=v.ownBlock\/∃x,v'.ownBlock=some x/\w2.heap.size<=x) :
  OwnK size K w4 base e v' (es++[a]) (Fz base w4.heap.size v'):=by
 have hr:∀b,Fz base w2.heap.size v b->Fz base w4.heap.size v' b:=fun b hb=>⟨hb.1,zM hb.2.1 hh.size,fun e=>by
  rcases hat with h | ⟨x,h,hx⟩
  ·exact hb.2.2 (h▸e)
  ·rw[h] at e;injection e with e;have:=hb.2.1;omega⟩
 have hk:Kept (Fz base w2.heap.size v) w2 w4:=Fz.kept hh (zR _) hn;exact OwnK.push (v:=v) hK h2 hl ho hc hk hr (hK.mono hr (hK.keep hk ha))
theorem OwnK.stayF{α:Type}{size:Nat}{K:World->(Nat->Prop)->List Value->α->Prop}(hK:Steady K){w w':World}{base:Nat}{e:TypeId}{v:Value}{es:List α}{hot:List (Option Nat)}(h:OwnK size K w base e v es (Fz base w.heap.size v))(hh:HotBy hot w w')(hn:∀b,some b∈hot->b<base\/w.heap.size<=b):OwnK size K w' base e v es (Fz base w'.heap.size v):=by
 obtain⟨cs,h1,h2⟩:=h;refine⟨cs,own_hot h1 hh (fun g hg e=>by have:=h1.lt g hg;have:=hn g e;omega),fun k a ha=>?_⟩;obtain⟨c,g1,g2,g3⟩:=h2 k a ha;exact⟨c,g1,g2,hK.mono (Fz.mono hh.size) (hK.keep (Fz.kept hh (zR _) (fun b e h3 h4=>by have:=hn b e;omega)) g3)⟩
structure InP (gT:Nat) (vt:Value) (wr0 w1:World) (I:Nat):Prop where
 tape:TapeB w1 gT vt I
 hot:HotBy [some gT] wr0 w1
section
variable {w0 wr0 w1 w2 WA : World} {R : Nat -> Prop} {gT : Nat} {vt : Value} {xs : List Int} {gF : Nat} {I : Nat}
theorem InP.start(h:TapeB wr0 gT vt I):InP gT vt wr0 wr0 I:=⟨h,HotBy.refl _ _⟩
theorem InP.below(h:InP gT vt wr0 w1 I)(hb:Below w1.heap.size w1 w2):InP gT vt wr0 w2 I:=⟨(hb.block gT h.tape.lt).trans h.tape,h.hot.trans (HotBy.below hb)⟩
theorem InP.alloc(h:InP gT vt wr0 w1 I)(o:Obj):InP gT vt wr0 (w1.alloc o) I:=h.below ((zB _ _).alloc (zR _) _)
theorem InP.new(h:InP gT vt wr0 w1 I)(hT:gT<wr0.heap.size){hot:List (Option Nat)}(hh:HotBy hot w1 w2)(hn:∀b,some b∈hot->wr0.heap.size<=b):InP gT vt wr0 w2 I :=
 ⟨(hh.block gT h.tape.lt (fun e=>by have:=hn gT e;omega)).trans h.tape,h.hot.transNew hh (fun x e hx=>by have:=hn x e;omega)⟩
theorem InP.set(h:InP gT vt wr0 w1 I)(hT:gT<wr0.heap.size)(g i:Nat)(u:Value)(hg:wr0.heap.size<=g):InP gT vt wr0 (w1.setCell ⟨g,i,none⟩ u) I :=
 h.new hT (HotBy.setCell [some g] w1 ⟨g,i,none⟩ u (by simp)) (fun b e=>by simp at e;omega)
theorem InP.next_any(S:StatA w0 R gT vt xs WA gF)(h0:HotBy [some gT,some gF] WA wr0)(h:InP gT vt wr0 w1 I)(hI:I<=1000000000)(n:Nat)(h1:1<=n)(h2:n<=1000000)(nv:Int)(hn:nv=(n:Int)) :
  Calls Tryz.prog 61 #[.pointer (some ⟨gT,0,none⟩),.int .i64 nv] w1 fun e w'=>∃r:Nat,e=.returned (.int .i64 (r:Int))/\r<n/\InP gT vt wr0 w' (I+1)/\HotBy [some gT] w1 w':=by
 subst hn;refine(next_hot w0 R gT vt xs S.hx S.hR w1 (S.w0 (h0.trans (h.hot.more (fun x hx _=>by simp at hx ⊢;exact .inl hx)))) I h.tape (by omega) n h1 (by omega)).mono ?_;rintro e w' ⟨r,rfl,hr,hT,hg⟩;have hh:HotBy [some gT] w1 w':=HotBy.grown hg (.inl (by simp));exact⟨r,rfl,hr,⟨hT,h.hot.trans hh⟩,hh⟩
end
theorem HotBy.keptFr{hot:List (Option Nat)}{w w':World}(h:HotBy hot w w'){lo hi:Nat}(hn:∀b,some b∈hot->b<lo\/hi<=b)(hh:hi<=w.heap.size):Kept (Fr lo hi) w w':=fun b hb=>h.block b (zM hb.2 hh) (fun e=>by have:=hn b e;have h1:=hb.1;have h2:=hb.2;omega)
theorem Fr.more{a b c d:Nat}(h:c<=a)(k:b<=d):∀x,Fr a b x->Fr c d x:=fun x hx=>⟨Nat.le_trans h hx.1,zM hx.2 k⟩
theorem ints_lit(w:World)(B:Nat)(hB:B<=w.heap.size)(xs:List Int)(h0:xs.length<=maxLen)(hx:∀x∈xs,I64 x):IntS (w.alloc (.cells (xs.map (Value.int .i64)).toArray 3)) (Fr B (w.alloc (.cells (xs.map (Value.int .i64)).toArray 3)).heap.size) (.slice (some ⟨w.heap.size,0,none⟩) xs.length xs.length) xs :=
 ⟨⟨_,_,rfl,zR _,h0,fun _=>⟨_,_,rfl,⟨hB,by simp⟩,fun k x hk=>by
  rw[Nat.zero_add,cell_of_row _ _ _ _ _ _ (zN w _)]
  simp[hk]⟩⟩,hx⟩
theorem ints01(w:World)(B:Nat)(hB:B<=w.heap.size):IntS (w.alloc (.cells #[.int .i64 0,.int .i64 1] 3)) (Fr B (w.alloc (.cells #[.int .i64 0,.int .i64 1] 3)).heap.size) (.slice (some ⟨w.heap.size,0,none⟩) 2 2) [0,1] :=
 ints_lit w B hB [0,1] (by unfold maxLen;simp) (by intro x hx;simp at hx;rcases hx with rfl | rfl <;> exact⟨by omega,by omega⟩)
theorem ints0(w:World)(B:Nat)(hB:B<=w.heap.size):IntS (w.alloc (.cells #[.int .i64 0] 3)) (Fr B (w.alloc (.cells #[.int .i64 0] 3)).heap.size) (.slice (some ⟨w.heap.size,0,none⟩) 1 1) [0] :=
 ints_lit w B hB [0] (by unfold maxLen;simp) (by intro x hx;simp at hx;subst hx;exact⟨by omega,by omega⟩)
structure InvB (gT:Nat) (vt:Value) (WB:World) (gF:Nat) (ext:Int) (vl vm vd vv:Value) (wr:World) (I:Nat) (vp:Value) (ps:List PolM):Prop where
 tape:TapeB wr gT vt I
 hot:HotBy [some gT,some gF] WB wr
 flt:FltB wr gF ext vl vm vd vv vp (.slice none 0 0)
 pol:OwnK 17 PolK wr WB.heap.size 55 vp ps (Fz WB.heap.size wr.heap.size vp)
section
variable {gT : Nat} {vt : Value} {WB : World} {gF : Nat} {ext : Int} {vl vm vd vv vp vo : Value} {wr w' : World} {I J : Nat} {ps : List PolM}
theorem InvB.stay(hT:gT<WB.heap.size)(hF:gF<WB.heap.size)(hne:gF≠gT)(h:InvB gT vt WB gF ext vl vm vd vv wr I vp ps)(hh:HotBy [some gT] wr w')(ht:TapeB w' gT vt J):InvB gT vt WB gF ext vl vm vd vv w' J vp ps :=
 ⟨ht,h.hot.trans (hh.more (fun x hx _=>by simp at hx ⊢;exact .inl hx)),(hh.block gF h.flt.lt (fun e=>by simp at e;exact hne e)).trans h.flt,h.pol.stayF polK hh (fun b e=>by simp at e;omega)⟩
theorem InvB.push(hT:gT<WB.heap.size)(hF:gF<WB.heap.size)(hne:gF≠gT)(h:InvB gT vt WB gF ext vl vm vd vv wr I vp ps){cs c:List Value}(c1:wr.ownsRow WB.heap.size 55 17 vp ps.length cs)
  (c2:∀k x,ps[k]?=some x->∃c,c.length=17/\(∀i u,c[i]?=some u->cs[k*17+i]?=some u)/\PolK wr (Fz WB.heap.size wr.heap.size vp) c x) {p:PolM} (hc:c.length=17) (ha:PolK wr (Fz WB.heap.size wr.heap.size vp) c p) {o:Obj} {w4:World} {vp':Value}
  (hown:w4.ownsRow WB.heap.size 55 17 vp' (ps.length+1) (cs++c)) (hg:(wr.alloc o).grownBy w4 vp.ownBlock) (hat:vp'.ownBlock=vp.ownBlock\/vp'.ownBlock=some (wr.heap.size+1)) :
  InvB gT vt WB gF ext vl vm vd vv (w4.setCell ⟨gF,5,none⟩ vp') I vp' (ps++[p]):=by
 have hvp:∀b,vp.ownBlock=some b->WB.heap.size<=b/\b<wr.heap.size:=fun b hb=>c1.lt b hb
 have hh:HotBy [some gF,vp.ownBlock] wr (w4.setCell ⟨gF,5,none⟩ vp'):=((HotBy.alloc _ wr o).trans (HotBy.grown hg (.inl (by simp)))).trans (HotBy.setCell _ _ _ _ (by simp))
 have hgT:some gT∉[some gF,vp.ownBlock]:=fun e=>by
  simp at e;rcases e with e | e
  ·exact hne e.symm
  ·have:=(hvp gT e.symm).1;omega
 have hgF:some gF≠vp.ownBlock:=fun e=>by have:=(hvp gF e.symm).1;omega
 have hFl:=h.flt.lt;have hF4:FltB w4 gF ext vl vm vd vv vp (.slice none 0 0):=h.flt.grown5 hg hgF
 refine⟨(hh.block gT h.tape.lt hgT).trans h.tape,⟨hh.os.trans h.hot.os,hh.tape.trans h.hot.tape,hh.output.trans h.hot.output,Nat.le_trans h.hot.size hh.size,fun b hb hn=>(hh.block b (zM hb h.hot.size) (fun e=>by
  simp at e hn;rcases e with e | e
  ·exact hn.2 e
  ·have:=(hvp b e.symm).1;omega)).trans (h.hot.block b hb hn)⟩,heap_setCell_same w4 gF 5 _ _ _ hF4,?_⟩
 have hno:some gF≠vp'.ownBlock:=fun e=>by
  rcases hat with h1 | h1
  ·exact hgF (e.trans h1)
  ·rw[h1] at e;injection e with e;omega
 refine OwnK.pushF polK c2 c1.1 (fun b hb=>(hvp b hb).2) (hown.kept (only_set1 w4 gF 5 vp') (.inr (fun e=>hno e.symm))) hc ha hh (fun b e h3 h4=>?_) ?_
 ·simp at e;rcases e with e | e
  ·omega
  ·exact e.symm
 ·rcases hat with h1 | h1
  ·exact .inl h1
  ·exact .inr ⟨_,h1,by omega⟩
def PolB(w:World)(g:Nat)(name:ByteArray)(k m q s3 s4:Int)(vm vr tn td hn hd:Value):Prop :=
 w.heap[g]?=some (.cells #[.string name,.int .i64 k,.int .i64 m,.int .i64 q,.int .i64 0,.int .i64 0,.int .i64 0,.int .i64 s3,.int .i64 s4,vm,vr,.bool false,tn,td,.bool false,hn,hd] 55 (0,0))
theorem PolB.lt{w:World}{g:Nat}{name:ByteArray}{k m q s3 s4:Int}{vm vr tn td hn hd:Value}(h:PolB w g name k m q s3 s4 vm vr tn td hn hd):g<w.heap.size:=(zA.1 h).1
theorem PolB.frozen{w:World}{g:Nat}{name:ByteArray}{k m q s3 s4:Int}{vm vr tn td hn hd:Value}(h:PolB w g name k m q s3 s4 vm vr tn td hn hd)(i:Nat):w.frozen? ⟨g,i,none⟩=false:=frozen_of_row _ _ _ _ _ h
theorem PolB.cells{w:World}{g:Nat}{name:ByteArray}{k m q s3 s4:Int}{vm vr tn td hn hd:Value}(h:PolB w g name k m q s3 s4 vm vr tn td hn hd) :
  w.cell? ⟨g,0,none⟩=some (.string name)/\w.cell? ⟨g,1,none⟩=some (.int .i64 k)/\w.cell? ⟨g,2,none⟩=some (.int .i64 m)/\w.cell? ⟨g,3,none⟩=some (.int .i64 q)/\w.cell? ⟨g,4,none⟩=some (.int .i64 0)/\w.cell? ⟨g,5,none⟩=some (.int .i64 0)/\w.cell? ⟨g,6,none⟩=some (.int .i64 0)/\w.cell? ⟨g,7,none⟩=some (.int .i64 s3)/\w.cell? ⟨g,8,none⟩=some (.int .i64 s4)/\w.cell? ⟨g,9,none⟩=some vm/\w.cell? ⟨g,10,none⟩=some vr/\w.cell? ⟨g,11,none⟩=some (.bool false)/\w.cell? ⟨g,12,none⟩=some tn/\w.cell? ⟨g,13,none⟩=some td/\w.cell? ⟨g,14,none⟩=some (.bool false)/\w.cell? ⟨g,15,none⟩=some hn/\w.cell? ⟨g,16,none⟩=some hd:=by
 refine⟨?_,?_,?_,?_,?_,?_,?_,?_,?_,?_,?_,?_,?_,?_,?_,?_,?_⟩ <;> (rw[cell_of_row _ _ _ _ _ _ h];rfl)
theorem PolB.range{w:World}{g:Nat}{name:ByteArray}{k m q s3 s4:Int}{vm vr tn td hn hd:Value}(h:PolB w g name k m q s3 s4 vm vr tn td hn hd):w.rangeAt g 0 [.string name,.int .i64 k,.int .i64 m,.int .i64 q,.int .i64 0,.int .i64 0,.int .i64 0,.int .i64 s3,.int .i64 s4,vm,vr,.bool false,tn,td,.bool false,hn,hd]:=fun j v hv=>by
 rw[Nat.zero_add,cell_of_row _ _ _ _ _ _ h]
 simpa using hv
theorem size_pol:(Tryz.prog.info? 55).map (·.size)=some 17:=by kernel_rfl
theorem PolB.set7{w:World}{g:Nat}{name:ByteArray}{k m q s3 s4:Int}{vm vr tn td hn hd:Value}(h:PolB w g name k m q s3 s4 vm vr tn td hn hd)(x:Int):PolB (w.setCell ⟨g,7,none⟩ (.int .i64 x)) g name k m q x s4 vm vr tn td hn hd:=heap_setCell_same w g 7 _ _ _ h
theorem PolB.set8{w:World}{g:Nat}{name:ByteArray}{k m q s3 s4:Int}{vm vr tn td hn hd:Value}(h:PolB w g name k m q s3 s4 vm vr tn td hn hd)(x:Int):PolB (w.setCell ⟨g,8,none⟩ (.int .i64 x)) g name k m q s3 x vm vr tn td hn hd:=heap_setCell_same w g 8 _ _ _ h
theorem PolB.set9{w:World}{g:Nat}{name:ByteArray}{k m q s3 s4:Int}{vm vr tn td hn hd:Value}(h:PolB w g name k m q s3 s4 vm vr tn td hn hd)(x:Value):PolB (w.setCell ⟨g,9,none⟩ x) g name k m q s3 s4 x vr tn td hn hd:=heap_setCell_same w g 9 _ _ _ h
theorem PolB.set10{w:World}{g:Nat}{name:ByteArray}{k m q s3 s4:Int}{vm vr tn td hn hd:Value}(h:PolB w g name k m q s3 s4 vm vr tn td hn hd)(x:Value):PolB (w.setCell ⟨g,10,none⟩ x) g name k m q s3 s4 vm x tn td hn hd:=heap_setCell_same w g 10 _ _ _ h
theorem PolB.hot{w:World}{g:Nat}{name:ByteArray}{k m q s3 s4:Int}{vm vr tn td hn hd:Value}(h:PolB w g name k m q s3 s4 vm vr tn td hn hd){hot:List (Option Nat)}(hh:HotBy hot w w')(hn':some g∉hot):PolB w' g name k m q s3 s4 vm vr tn td hn hd:=(hh.block g h.lt hn').trans h
theorem PolB.grown5{w w':World}{o:Obj}{g:Nat}{name:ByteArray}{k m q s3 s4:Int}{vm vr tn td hn hd:Value}{row:Option Nat}(h:PolB w g name k m q s3 s4 vm vr tn td hn hd)(hg:(w.alloc o).grownBy w' row)(hne:some g≠row):PolB w' g name k m q s3 s4 vm vr tn td hn hd:=(hg.block g (by have:=h.lt;simp;omega) hne).trans ((zH w o g h.lt).trans h)
theorem PolB.below{w w':World}{g:Nat}{name:ByteArray}{k m q s3 s4:Int}{vm vr tn td hn hd:Value}(h:PolB w g name k m q s3 s4 vm vr tn td hn hd)(hb:Below w.heap.size w w'):PolB w' g name k m q s3 s4 vm vr tn td hn hd:=(hb.block g h.lt).trans h
theorem info_pol:(Tryz.prog.info? 55).map (fun i=>(i.zero,i.size,i.bytes))=some (some (.agg #[.string ⟨#[]⟩,.int .i64 0,.int .i64 0,.int .i64 0,.int .i64 0,.int .i64 0,.int .i64 0,.int .i64 0,.int .i64 0,.slice none 0 0,.slice none 0 0,.bool false,.slice none 0 0,.slice none 0 0,.bool false,.slice none 0 0,.slice none 0 0]),17,240):=by kernel_rfl
theorem info_vol:(Tryz.prog.info? 106).map (fun i=>(i.zero,i.size,i.bytes))=some (some (.agg #[.string ⟨#[]⟩,.int .i64 0]),2,24):=by kernel_rfl
theorem info_frac:(Tryz.prog.info? 26).map (fun i=>(i.zero,i.size,i.bytes))=some (some (.agg #[.bool false,.slice none 0 0,.slice none 0 0]),3,56):=by kernel_rfl
theorem app_lit{ops:Array Oper}{rest:List Oper}{o:Oper}{a:Act}{Q:Exit->Act->World->Prop}{w:World}(cs:List Value)(e Ts:TypeId){size bytes:Nat}{z:Value}(hinfo:(Tryz.prog.info? e).map (fun i=>(i.zero,i.size,i.bytes))=some (some z,size,bytes))(hund:Tryz.prog.underlying Ts=some (.slice e))(hzs:z.cells.size=size)(hs0:0<size)(hb:bytes<=4096)
  (hcs:cs.length=size) (h1:∀u∈cs,u.oneCell'=true) (s x:Operand) (hgd:o.guard=none) (ho:o.op=.call { callee:=.builtin .append,args:=#[s,x],argTypes:=#[Ts,Ts] })
  (base:Nat) (v:Value) (n:Nat) (xs:List Value) (hs:a.eval s=v) (hown:w.ownsRow base e size v n xs)
  (hx:a.eval x=.slice (some ⟨w.heap.size,0,none⟩) 1 1) (hn:n+1<=16777216) (hbase:base<=w.heap.size)
  (h:∀v' w',w'.ownsRow base e size v' (n+1) (xs++cs)->(w.alloc (.cells cs.toArray e)).grownBy w' v.ownBlock->(v'.ownBlock=v.ownBlock\/v'.ownBlock=some (w.heap.size+1))->wpList Tryz.prog ops Q rest (a.put o.dst v') w') :
  wpList Tryz.prog ops Q (o :: rest) a (w.alloc (.cells cs.toArray e)):=by
 obtain⟨i0,hi0,hz0,hz1,hz2⟩:=info_parts hinfo;refine wpList_append_own_at (P:=Tryz.prog) _ hgd s x Ts ho base e i0 z size bytes hund hi0 hz0 hz1 hz2 hzs hs0 v n xs hs (hown.alloc _) ⟨w.heap.size,0,none⟩ 1 1 cs hx (by simp[hcs]) ?_ h1 (by unfold maxLen;omega) ?_ (by simp;omega) ?_
 ·intro j u hj
  have e1:(⟨w.heap.size,0,none⟩:Addr).add j=⟨w.heap.size,j,none⟩:=by unfold Addr.add;split <;> simp_all
  rw[e1,cell_of_row _ _ _ _ _ _ (zN w _)]
  simpa using hj
 ·calc (n+1)*bytes<=16777216*4096:=Nat.mul_le_mul hn hb
   _<=140737488355328:=by decide
 ·intro v' w' h2 h3 _ h5;exact h v' w' h2 h3 (by simpa using h5)
def PolWell(p:PolM):Prop:=(p.k=1\/p.k=2)/\0<=p.m/\p.m<=4/\p.k<=p.q/\p.q<=p.k+p.m/\0<=p.s3/\p.s3<=3/\0<=p.s4/\p.s4<=2/\(p.models=[0,1]\/p.models=[0])/\p.repair=List.replicate (max p.m 1).toNat ⟨false,1,2⟩/\p.target=⟨false,1,1000⟩/\p.horizon=⟨false,30,1⟩
def PolOk(N:Nat)(ps:List PolM):Prop:=∀j p,ps[j]?=some p->j<N/\p.name=⟨(nameL 112 (N-j)).toArray⟩/\PolWell p
theorem PolOk.nil(N:Nat):PolOk N []:=fun j p h=>by simp at h
theorem PolOk.push{N:Nat}{ps:List PolM}(h:PolOk N ps){p:PolM}(hn:ps.length<N)(h1:p.name=⟨(nameL 112 (N-ps.length)).toArray⟩)(h2:PolWell p):PolOk N (ps++[p]):=by
 intro j x hx;rcases Nat.lt_or_ge j ps.length with hlt | hge
 ·rw[List.getElem?_append_left hlt] at hx;exact h j x hx
 ·have he:j=ps.length:=by
   have:=(zL.1 hx).1;rw[zP] at this;simp at this;omega
  subst he;rw[List.getElem?_append_right (zR _),Nat.sub_self] at hx;simp at hx;subst hx;exact⟨hn,h1,h2⟩
def volC(x:VolM):List Value:=[.string x.name,.int .i64 x.pol]
structure InvC (gT:Nat) (vt:Value) (WC:World) (gF:Nat) (ext:Int) (vl vm vd vv vp:Value) (wr:World) (I:Nat) (vo:Value) (os:List VolM):Prop where
 tape:TapeB wr gT vt I
 hot:HotBy [some gT,some gF] WC wr
 flt:FltB wr gF ext vl vm vd vv vp vo
 vol:wr.ownsRow WC.heap.size 106 2 vo os.length (os.flatMap volC)
theorem InvC.stay{WC:World}{os:List VolM}(hT:gT<WC.heap.size)(hF:gF<WC.heap.size)(hne:gF≠gT)(h:InvC gT vt WC gF ext vl vm vd vv vp wr I vo os)(hh:HotBy [some gT] wr w')(ht:TapeB w' gT vt J):InvC gT vt WC gF ext vl vm vd vv vp w' J vo os :=
 ⟨ht,h.hot.trans (hh.more (fun x hx _=>by simp at hx ⊢;exact .inl hx)),(hh.block gF h.flt.lt (fun e=>by simp at e;exact hne e)).trans h.flt,own_hot h.vol hh (fun g hg e=>by have:=h.vol.lt g hg;simp at e;omega)⟩
theorem InvC.push{WC:World}{os:List VolM}(hT:gT<WC.heap.size)(hF:gF<WC.heap.size)(hne:gF≠gT)(h:InvC gT vt WC gF ext vl vm vd vv vp wr I vo os){x:VolM}{o:Obj}{w4:World}{vo':Value}
  (hown:w4.ownsRow WC.heap.size 106 2 vo' (os.length+1) (os.flatMap volC++volC x)) (hg:(wr.alloc o).grownBy w4 vo.ownBlock) (hat:vo'.ownBlock=vo.ownBlock\/∃b,vo'.ownBlock=some b/\wr.heap.size<=b) :
  InvC gT vt WC gF ext vl vm vd vv vp (w4.setCell ⟨gF,6,none⟩ vo') I vo' (os++[x]):=by
 have hvo:∀b,vo.ownBlock=some b->WC.heap.size<=b/\b<wr.heap.size:=fun b hb=>h.vol.lt b hb
 have hh:HotBy [some gF,vo.ownBlock] wr (w4.setCell ⟨gF,6,none⟩ vo'):=((HotBy.alloc _ wr o).trans (HotBy.grown hg (.inl (by simp)))).trans (HotBy.setCell _ _ _ _ (by simp))
 have hgT:some gT∉[some gF,vo.ownBlock]:=fun e=>by
  simp at e;rcases e with e | e
  ·exact hne e.symm
  ·have:=(hvo gT e.symm).1;omega
 have hgF:some gF≠vo.ownBlock:=fun e=>by have:=(hvo gF e.symm).1;omega
 have hFl:=h.flt.lt;have hF4:FltB w4 gF ext vl vm vd vv vp vo:=h.flt.grown5 hg hgF
 have hno:some gF≠vo'.ownBlock:=fun e=>by
  rcases hat with h1 | ⟨b,h1,h2⟩
  ·exact hgF (e.trans h1)
  ·rw[h1] at e;injection e with e;omega
 refine⟨(hh.block gT h.tape.lt hgT).trans h.tape,⟨hh.os.trans h.hot.os,hh.tape.trans h.hot.tape,hh.output.trans h.hot.output,Nat.le_trans h.hot.size hh.size,fun b hb hn=>(hh.block b (zM hb h.hot.size) (fun e=>by
  simp at e hn;rcases e with e | e
  ·exact hn.2 e
  ·have:=(hvo b e.symm).1;omega)).trans (h.hot.block b hb hn)⟩,heap_setCell_same w4 gF 6 _ _ _ hF4,?_⟩
 have h6:=hown.kept (only_set1 w4 gF 6 vo') (.inr (fun e=>hno e.symm));rw[zP,flatMap_snoc];exact h6
def VolOk(N M:Nat)(os:List VolM):Prop:=∀j x,os[j]?=some x->j<N/\x.name=⟨(nameL 118 (N-j)).toArray⟩/\∃p:Nat,x.pol=(p:Int)/\p<M
theorem VolOk.nil(N M:Nat):VolOk N M []:=fun j p h=>by simp at h
theorem VolOk.push{N M:Nat}{os:List VolM}(h:VolOk N M os){x:VolM}(hn:os.length<N)(h1:x.name=⟨(nameL 118 (N-os.length)).toArray⟩){p:Nat}(h2:x.pol=(p:Int))(h3:p<M):VolOk N M (os++[x]):=by
 intro j y hy;rcases Nat.lt_or_ge j os.length with hlt | hge
 ·rw[List.getElem?_append_left hlt] at hy;exact h j y hy
 ·have he:j=os.length:=by
   have:=(zL.1 hy).1;rw[zP] at this;simp at this;omega
  subst he;rw[List.getElem?_append_right (zR _),Nat.sub_self] at hy;simp at hy;subst hy;exact⟨hn,h1,p,h2,h3⟩
theorem FltB.sett0{w:World}{g:Nat}{e:Int}{vl vm vd vv vp vo:Value}(h:FltB w g e vl vm vd vv vp vo)(x:Int):FltB (w.setCell ⟨g,0,none⟩ (.int .i64 x)) g x vl vm vd vv vp vo:=heap_setCell_same w g 0 _ _ _ h
theorem FltB.sett1{w:World}{g:Nat}{e:Int}{vl vm vd vv vp vo:Value}(h:FltB w g e vl vm vd vv vp vo)(u:Value):FltB (w.setCell ⟨g,1,none⟩ (u)) g e u vm vd vv vp vo:=heap_setCell_same w g 1 _ _ _ h
theorem FltB.sett2{w:World}{g:Nat}{e:Int}{vl vm vd vv vp vo:Value}(h:FltB w g e vl vm vd vv vp vo)(u:Value):FltB (w.setCell ⟨g,2,none⟩ (u)) g e vl u vd vv vp vo:=heap_setCell_same w g 2 _ _ _ h
theorem FltB.sett3{w:World}{g:Nat}{e:Int}{vl vm vd vv vp vo:Value}(h:FltB w g e vl vm vd vv vp vo)(u:Value):FltB (w.setCell ⟨g,3,none⟩ (u)) g e vl vm u vv vp vo:=heap_setCell_same w g 3 _ _ _ h
theorem FltB.sett4{w:World}{g:Nat}{e:Int}{vl vm vd vv vp vo:Value}(h:FltB w g e vl vm vd vv vp vo)(u:Value):FltB (w.setCell ⟨g,4,none⟩ (u)) g e vl vm vd u vp vo:=heap_setCell_same w g 4 _ _ _ h
theorem FltB.sett5{w:World}{g:Nat}{e:Int}{vl vm vd vv vp vo:Value}(h:FltB w g e vl vm vd vv vp vo)(u:Value):FltB (w.setCell ⟨g,5,none⟩ (u)) g e vl vm vd vv u vo:=heap_setCell_same w g 5 _ _ _ h
theorem FltB.sett6{w:World}{g:Nat}{e:Int}{vl vm vd vv vp vo:Value}(h:FltB w g e vl vm vd vv vp vo)(u:Value):FltB (w.setCell ⟨g,6,none⟩ (u)) g e vl vm vd vv vp u:=heap_setCell_same w g 6 _ _ _ h
theorem FltB.store7{w:World}{g:Nat}{e:Int}{vl vm vd vv vp vo:Value}(h:FltB w g e vl vm vd vv vp vo)(e':Int)(vl' vm' vd' vv' vp' vo':Value) :
  FltB (((((((w.setCell ⟨g,0,none⟩ (.int .i64 e')).setCell ⟨g,1,none⟩ vl').setCell ⟨g,2,none⟩ vm').setCell ⟨g,3,none⟩ vd').setCell ⟨g,4,none⟩ vv').setCell ⟨g,5,none⟩ vp').setCell ⟨g,6,none⟩ vo') g e' vl' vm' vd' vv' vp' vo' :=
 ((((((h.sett0 e').sett1 vl').sett2 vm').sett3 vd').sett4 vv').sett5 vp').sett6 vo'
theorem HotBy.setOf{hot:List (Option Nat)}{a w:World}(h:HotBy hot a w){g:Nat}(hg:some g∈hot\/a.heap.size<=g)(i:Nat)(x:Value):HotBy hot a (w.setCell ⟨g,i,none⟩ x) :=
 h.transNew (HotBy.setCell [some g] w ⟨g,i,none⟩ x (by simp)) (fun y hy hl=>by
  simp at hy;subst hy;rcases hg with hg | hg
  ·exact hg
  ·omega)
theorem HotBy.store7{hot:List (Option Nat)}{a w:World}(h:HotBy hot a w){g:Nat}(hg:some g∈hot\/a.heap.size<=g)(x0 x1 x2 x3 x4 x5 x6:Value) :
  HotBy hot a (((((((w.setCell ⟨g,0,none⟩ x0).setCell ⟨g,1,none⟩ x1).setCell ⟨g,2,none⟩ x2).setCell ⟨g,3,none⟩ x3).setCell ⟨g,4,none⟩ x4).setCell ⟨g,5,none⟩ x5).setCell ⟨g,6,none⟩ x6) :=
 ((((((h.setOf hg 0 x0).setOf hg 1 x1).setOf hg 2 x2).setOf hg 3 x3).setOf hg 4 x4).setOf hg 5 x5).setOf hg 6 x6
theorem HotBy.to_grown{w w':World}{g:Nat}(h:HotBy [some g] w w'):w.grownBy w' (some g):=⟨h.os,h.tape,h.output,h.size,fun b hb hn=>h.block b hb (fun e=>by simp at e;exact hn (by rw[e]))⟩
theorem form3{v:Value}{n:Nat}(h:∃A c,v=.slice A n c):∃A m c,v=.slice A m c:=by
 obtain⟨A,c,e⟩:=h;exact⟨A,n,c,e⟩
theorem SlS.form3{α:Type}{size:Nat}{K:World->(Nat->Prop)->List Value->α->Prop}{w:World}{R:Nat->Prop}{v:Value}{es:List α}(h:SlS size K w R v es):∃A n c,v=.slice A n c:=by
 obtain⟨A,c,e,-,-⟩:=h.form;exact⟨A,_,c,e⟩
structure FleetOk (N:Nat) (F:FltM):Prop where
 ext:F.ext=1\/F.ext=2
 laws:∃r:Nat,r<100/\F.laws=[⟨{ data:=#[100,105,115,107] },[⟨false,1,1⟩],[[⟨false,0,1⟩]],[⟨false,1,100+r⟩]⟩]
 models:∃a b c d:Nat,a<2/\b<9/\c<3/\d<9/\F.models=[⟨{ data:=#[98,105,103] },3+(a:Int),8+(b:Int),0⟩,⟨{ data:=#[111,108,100] },1+(c:Int),4+(d:Int),0⟩]
 doms:DomOk F.doms
 domN:F.doms.length<=21
 dves:DveOk F.dves F.doms
 dve1:1<=F.dves.length
 dveN:F.dves.length<=9
 pols:PolOk F.pols.length F.pols
 pol1:1<=F.pols.length
 polN:F.pols.length<=2
 vols:VolOk F.vols.length F.pols.length F.vols
 vol1:1<=F.vols.length
 volN:F.vols.length<=N
theorem slS_of_own3{w:World}{base:Nat}{e:TypeId}{v:Value}{vs:List DveM}{R:Nat->Prop}(h:w.ownsRow base e 3 v vs.length (vs.flatMap dveC))(hR:∀b,v.ownBlock=some b->R b):SlS 3 DveK w R v vs:=by
 refine OwnK.slS (R:=R) dveK ⟨_,h,fun k a ha=>⟨dveC a,rfl,fun i u hu=>?_,rfl⟩⟩ (fun _ h=>h) hR;clear h hR
 induction vs generalizing k with
 | nil=>simp at ha
 | cons x xs ih =>
  rw[List.flatMap_cons]
  cases k with
  | zero =>
   simp at ha;subst ha;rw[Nat.zero_mul,Nat.zero_add,List.getElem?_append_left (zL.1 hu).1];exact hu
  | succ k =>
   rw[List.getElem?_append_right (by show 3<=_;omega)];have:=ih k (by simpa using ha);rw[show(k+1)*3+i-(dveC x).length=k*3+i by show _-3=_;omega];exact this
theorem slS_of_own2{w:World}{base:Nat}{e:TypeId}{v:Value}{vs:List VolM}{R:Nat->Prop}(h:w.ownsRow base e 2 v vs.length (vs.flatMap volC))(hR:∀b,v.ownBlock=some b->R b):SlS 2 VolK w R v vs:=by
 refine OwnK.slS (R:=R) volK ⟨_,h,fun k a ha=>⟨volC a,rfl,fun i u hu=>?_,rfl⟩⟩ (fun _ h=>h) hR;clear h hR
 induction vs generalizing k with
 | nil=>simp at ha
 | cons x xs ih =>
  rw[List.flatMap_cons]
  cases k with
  | zero =>
   simp at ha;subst ha;rw[Nat.zero_mul,Nat.zero_add,List.getElem?_append_left (zL.1 hu).1];exact hu
  | succ k =>
   rw[List.getElem?_append_right (by show 2<=_;omega)];have:=ih k (by simpa using ha);rw[show(k+1)*2+i-(volC x).length=k*2+i by show _-2=_;omega];exact this
theorem InvB.inP(h:InvB gT vt WB gF ext vl vm vd vv wr I vp ps)(hT:gT<WB.heap.size)(hF:gF<WB.heap.size)(hne:gF≠gT)(hi:InP gT vt wr w' J):InvB gT vt WB gF ext vl vm vd vv w' J vp ps:=h.stay hT hF hne hi.hot hi.tape
theorem InvC.inP{WC:World}{os:List VolM}(h:InvC gT vt WC gF ext vl vm vd vv vp wr I vo os)(hT:gT<WC.heap.size)(hF:gF<WC.heap.size)(hne:gF≠gT)(hi:InP gT vt wr w' J):InvC gT vt WC gF ext vl vm vd vv vp w' J vo os:=h.stay hT hF hne hi.hot hi.tape
end
theorem pick_l(a b:List Value)(i:Nat)(u:Value)(h:a[i]?=some u):(a++b)[0*4+i]?=some u:=by
 rw[Nat.zero_mul,Nat.zero_add,List.getElem?_append_left (zL.1 h).1];exact h
theorem pick_r(a b:List Value)(i:Nat)(u:Value)(h:b[i]?=some u)(hl:a.length=4:=by rfl):(a++b)[1*4+i]?=some u:=by
 rw[List.getElem?_append_right (by omega),show 1*4+i-a.length=i by omega];exact h
end Go.Proofs.YtgfaieppacabjaaGreat
