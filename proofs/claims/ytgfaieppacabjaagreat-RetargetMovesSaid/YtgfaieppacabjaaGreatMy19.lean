/- A row of one's own whose elements are written in place. -/
import Derived.Test.YtgfaieppacabjaaGreatMy13
set_option linter.unusedSectionVars false
set_option maxRecDepth 100000
set_option maxHeartbeats 12800000
namespace Go.Proofs.YtgfaieppacabjaaGreat
open Go.RowKit
set_option linter.unusedVariables false
set_option linter.unusedSimpArgs false
structure RowA {α:Type} (size:Nat) (K:World->(Nat->Prop)->List Value->α->Prop) (w:World) (T:TypeId) (g n:Nat) (es:List α) (R:Nat->Prop):Prop where
 apart:¬R g
 room:es.length<=n
 most:n<=maxLen
 row:∃cs:Array Value,w.heap[g]?=some (.cells cs T (0,0))/\cs.size=n*size/\∀k x,es[k]?=some x->∃c,c.length=size/\(∀i u,c[i]?=some u->cs[k*size+i]?=some u)/\K w R c x
section
variable {α : Type} {size : Nat} {K : World -> (Nat -> Prop) -> List Value -> α -> Prop} {w : World} {T : TypeId} {g n : Nat} {es : List α} {R : Nat -> Prop}
theorem RowA.lt(h:RowA size K w T g n es R):g<w.heap.size:=by
 obtain⟨cs,h1,-⟩:=h.row;exact(zA.1 h1).1
theorem RowA.keep(hK:Steady K)(h:RowA size K w T g n es R){w':World}(hk:Kept R w w')(hg:w'.heap[g]?=w.heap[g]?):RowA size K w' T g n es R:=by
 obtain⟨cs,h1,h2,h3⟩:=h.row;refine⟨h.apart,h.room,h.most,cs,hg.trans h1,h2,fun k x hx=>?_⟩;obtain⟨c,e1,e2,e3⟩:=h3 k x hx;exact⟨c,e1,e2,hK.keep hk e3⟩
theorem RowA.mono(hK:Steady K)(h:RowA size K w T g n es R){R':Nat->Prop}(hr:∀b,R b->R' b)(hg:¬R' g):RowA size K w T g n es R':=by
 obtain⟨cs,h1,h2,h3⟩:=h.row;refine⟨hg,h.room,h.most,cs,h1,h2,fun k x hx=>?_⟩;obtain⟨c,e1,e2,e3⟩:=h3 k x hx;exact⟨c,e1,e2,hK.mono hr e3⟩
theorem RowA.at_(h:RowA size K w T g n es R){k:Nat}{x:α}(hx:es[k]?=some x):∃c,c.length=size/\w.rangeAt g (k*size) c/\K w R c x:=by
 obtain⟨cs,h1,h2,h3⟩:=h.row;obtain⟨c,e1,e2,e3⟩:=h3 k x hx;exact⟨c,e1,fun j v hv=>by rw[cell_of_row _ _ _ _ _ _ h1];exact e2 j v hv,e3⟩
theorem RowA.there(h:RowA size K w T g n es R){o m:Nat}(ho:o+m<=n*size):w.there g o m:=by
 obtain⟨cs,h1,h2,-⟩:=h.row;intro k hk;exact⟨by rw[cell_of_row _ _ _ _ _ _ h1,Array.getElem?_eq_getElem (by omega)];rfl,frozen_of_row _ _ _ _ _ h1⟩
theorem RowA.froze(h:RowA size K w T g n es R)(i:Nat):w.frozen? ⟨g,i,none⟩=false:=by
 obtain⟨cs,h1,-⟩:=h.row;exact frozen_of_row _ _ _ _ _ h1
theorem RowA.slS(hK:Steady K)(h:RowA size K w T g n es R){R':Nat->Prop}(hr:∀b,R b->R' b)(hg:R' g):SlS size K w R' (.slice (some ⟨g,0,none⟩) es.length n) es:=by
 obtain⟨cs,h1,h2,h3⟩:=h.row;refine⟨_,n,rfl,h.room,Nat.le_trans h.room h.most,fun _=>⟨g,0,rfl,hg,fun k a ha=>?_⟩⟩;obtain⟨c,g1,g2,g3⟩:=h3 k a ha;refine⟨c,g1,fun i u hu=>?_,hK.mono hr g3⟩;rw[cell_of_row _ _ _ _ _ _ h1,Nat.zero_add];exact g2 i u hu
theorem OwnK.rowA(hK:Steady K){base:Nat}{v:Value}(h:OwnK size K w base T v es R)(h0:es≠[])(hR:∀b,R b->b<base):∃g c,v=.slice (some ⟨g,0,none⟩) es.length c/\base<=g/\RowA size K w T g c es R:=by
 obtain⟨cs,h1,h2⟩:=h;rcases h1.2 with ⟨rfl,h3⟩ | ⟨g,cap,cur,rfl,hb,hg,h4,h5,h6,h7⟩
 ·exact absurd (List.eq_nil_of_length_eq_zero h3) h0
 ·refine⟨g,cap,rfl,hb,⟨fun hc=>by have:=hR g hc;omega,h4,h5,cur,hg,h6,fun k x hx=>?_⟩⟩;obtain⟨c,g1,g2,g3⟩:=h2 k x hx;refine⟨c,g1,fun i u hu=>?_,g3⟩;have h8:=g2 i u hu;rw[<-h7,List.getElem?_take] at h8;split at h8
  ·rw[<-Array.getElem?_toList];exact h8
  ·simp at h8
def seg(c:List Value)(o:Nat)(vs:List Value):List Value:=c.take o++vs++c.drop (o+vs.length)
theorem seg_spec{c:List Value}{o:Nat}{vs:List Value}(h:o+vs.length<=c.length):(seg c o vs).length=c.length/\(∀i,(i<o\/o+vs.length<=i)->(seg c o vs)[i]?=c[i]?)/\∀i u,vs[i]?=some u->(seg c o vs)[o+i]?=some u:=by
 unfold seg
 have ht:(c.take o).length=o:=by simp;omega
 refine⟨by simp;omega,fun i hi=>?_,fun i u hu=>?_⟩
 ·rcases hi with hi | hi
  ·rw[List.append_assoc,List.getElem?_append_left (by omega),List.getElem?_take,if_pos hi]
  ·rw[List.getElem?_append_right (by simp;omega),List.getElem?_drop]
   congr 1
   simp;omega
 ·have hl:=(zL.1 hu).1;rw[List.append_assoc,List.getElem?_append_right (by omega),ht,Nat.add_sub_cancel_left,List.getElem?_append_left hl];exact hu
theorem RowA.put(hK:Steady K)(h:RowA size K w T g n es R){k o:Nat}{x a:α}{es':List α}(vs:List Value)(hx:es[k]?=some x)(ho:o+vs.length<=size){R':Nat->Prop}(hr:∀b,R b->R' b)(hg:¬R' g)(hl:es'.length=es.length)(ha:es'[k]?=some a)(hoth:∀i,i≠k->es'[i]?=es[i]?)
  (hn:∀c,c.length=size->w.rangeAt g (k*size) c->K w R c x->K w R' (seg c o vs) a):RowA size K (w.setCells g (k*size+o) vs) T g n es' R':=by
 obtain⟨cs,h1,h2,h3⟩:=h.row;have hk:k<es.length:=(zL.1 hx).1;have hle:(k+1)*size<=n*size:=Nat.mul_le_mul_right _ (by have:=h.room;omega);rw[Nat.succ_mul] at hle;obtain⟨cs',g1,g2,g3,g4⟩:=setCells_block vs (k*size+o) w cs h1 (by omega)
 have hkp:Kept R' w (w.setCells g (k*size+o) vs):=fun b hb=>setCells_other vs _ w b (fun e=>hg (e▸hb))
 refine⟨hg,by rw[hl];exact h.room,h.most,cs',g1,g2.trans h2,fun i y hy=>?_⟩;by_cases hik:i=k
 ·subst hik;rw[ha] at hy;injection hy with hy;subst hy;obtain⟨c,e1,e2,e3⟩:=h3 i x hx;have f4:=hn c e1 (fun j v hv=>by rw[cell_of_row _ _ _ _ _ _ h1];exact e2 j v hv) e3;obtain⟨f1,f2,f3⟩:=seg_spec (c:=c) (o:=o) (vs:=vs) (by omega);rw[e1] at f1;obtain⟨c',hc'⟩:=zx (seg c o vs);rw[<-hc'] at f1 f2 f3 f4;refine⟨c',f1,fun j u hu=>?_,hK.keep hkp f4⟩;have hj:=(zL.1 hu).1;by_cases hin:j<o\/o+vs.length<=j
  ·rw[g3 _ (by omega)];rw[f2 j hin] at hu;exact e2 j u hu
  ·obtain⟨v,hv⟩:∃v,vs[j-o]?=some v:=⟨_,zG (by omega)⟩;have h5:=f3 _ v hv;rw[show o+(j-o)=j by omega,hu] at h5;injection h5 with h5;subst h5;have h6:=g4 _ _ hv;rw[show i*size+o+(j-o)=i*size+j by omega] at h6;exact h6
 ·rw[hoth i hik] at hy;obtain⟨c,e1,e2,e3⟩:=h3 i y hy;refine⟨c,e1,fun j u hu=>?_,hK.keep hkp (hK.mono hr e3)⟩;have hj:=(zL.1 hu).1;rw[g3 _ ?_]
  ·exact e2 j u hu
  ·rcases Nat.lt_or_gt_of_ne hik with h' | h'
   ·left
    have:(i+1)*size<=k*size:=Nat.mul_le_mul_right _ h';rw[Nat.succ_mul] at this;omega
   ·right
    have:(k+1)*size<=i*size:=Nat.mul_le_mul_right _ h';rw[Nat.succ_mul] at this;omega
end
def NotG(Z:Nat->Prop)(w:World)(a b c:Nat)(k:Nat):Prop:=k<w.heap.size/\k≠a/\k≠b/\k≠c/\¬Z k
def BlZ(Z:Nat->Prop)(n k:Nat):Prop:=k<n/\¬Z k
theorem NotG.mono{Z:Nat->Prop}{w w':World}{a b c:Nat}(h:w.heap.size<=w'.heap.size):∀k,NotG Z w a b c k->NotG Z w' a b c k:=fun k hk=>⟨zM hk.1 h,hk.2⟩
theorem NotG.kept{Z:Nat->Prop}{w w':World}{a b c:Nat}{hot:List (Option Nat)}(h:HotBy hot w w')(hh:∀k,some k∈hot->k=a\/k=b\/k=c):Kept (NotG Z w a b c) w w':=fun k hk=>h.block k hk.1 (fun e=>by
 have:=hh k e;obtain⟨-,h1,h2,h3,-⟩:=hk
 omega)
theorem RowA.onward{Z:Nat->Prop}{α:Type}{size:Nat}{K:World->(Nat->Prop)->List Value->α->Prop}(hK:Steady K){w w':World}{T:TypeId}{g n a b:Nat}{es:List α}(h:RowA size K w T g n es (NotG Z w a b g)){hot:List (Option Nat)}(hh:HotBy hot w w')(hn:∀k,some k∈hot->(k=a\/k=b)/\k≠g):RowA size K w' T g n es (NotG Z w' a b g) :=
 (h.keep hK (NotG.kept hh (fun k hk=>by have:=(hn k hk).1;omega)) (hh.block g h.lt (fun e=>(hn g e).2 rfl))).mono hK (NotG.mono hh.size) (fun e=>e.2.2.2.1 rfl)
theorem SlS.onward{Z:Nat->Prop}{α:Type}{size:Nat}{K:World->(Nat->Prop)->List Value->α->Prop}(hK:Steady K){w w':World}{v:Value}{a b c:Nat}{es:List α}(h:SlS size K w (NotG Z w a b c) v es){hot:List (Option Nat)}(hh:HotBy hot w w')(hn:∀k,some k∈hot->k=a\/k=b\/k=c):SlS size K w' (NotG Z w' a b c) v es :=
 (SlS.keep hK h (NotG.kept hh hn)).mono hK (NotG.mono hh.size)
theorem law_put1{w:World}{R R':Nat->Prop}{x:LawM}{u:Value}(hr:∀b,R b->R' b)(hu:SlS 3 FrcK w R' u x.start)(c:List Value):LawK w R c x->LawK w R' (seg c 1 [u]) x:=by
 rintro ⟨vs,vr,ve,rfl,h1,h2,h3⟩;exact⟨u,vr,ve,rfl,hu,SlS.mono rowFK h2 hr,SlS.mono frcK h3 hr⟩
theorem law_put2{w:World}{R R':Nat->Prop}{x:LawM}{u:Value}(hr:∀b,R b->R' b)(hu:SlS 1 RowFK w R' u x.rates)(c:List Value):LawK w R c x->LawK w R' (seg c 2 [u]) x:=by
 rintro ⟨vs,vr,ve,rfl,h1,h2,h3⟩;exact⟨vs,u,ve,rfl,SlS.mono frcK h1 hr,hu,SlS.mono frcK h3 hr⟩
theorem law_put3{w:World}{R R':Nat->Prop}{x:LawM}{u:Value}(hr:∀b,R b->R' b)(hu:SlS 3 FrcK w R' u x.exit)(c:List Value):LawK w R c x->LawK w R' (seg c 3 [u]) x:=by
 rintro ⟨vs,vr,ve,rfl,h1,h2,h3⟩;exact⟨vs,vr,u,rfl,SlS.mono frcK h1 hr,SlS.mono rowFK h2 hr,hu⟩
theorem dom_put{w:World}{R R':Nat->Prop}{x:DomM}{un ud:Value}(hr:∀b,R b->R' b)(h1:LS w R' un (natL x.shock.num))(h2:LS w R' ud (natL x.shock.den))(c:List Value):DomK w R c x->DomK w R' (seg c 4 [.bool x.shock.neg,un,ud]) x:=by
 rintro ⟨vn,vd,rfl,g1,g2⟩;exact⟨un,ud,rfl,h1,h2⟩
theorem pol_models{w:World}{R R':Nat->Prop}{x:PolM}{u:Value}(hr:∀b,R b->R' b)(hu:IntS w R' u x.models)(c:List Value):PolK w R c x->PolK w R' (seg c 9 [u]) x:=by
 rintro ⟨vm,vr,tn,td,hn,hd,rfl,h1,h2,h3,h4,h5,h6⟩;exact⟨u,vr,tn,td,hn,hd,rfl,hu,SlS.mono frcK h2 hr,h3.mono hr,h4.mono hr,h5.mono hr,h6.mono hr⟩
theorem pol_repair{w:World}{R R':Nat->Prop}{x:PolM}{u:Value}(l:List Frc)(hr:∀b,R b->R' b)(hu:SlS 3 FrcK w R' u l)(c:List Value):PolK w R c x->PolK w R' (seg c 10 [u]) { x with repair:=l }:=by
 rintro ⟨vm,vr,tn,td,hn,hd,rfl,h1,h2,h3,h4,h5,h6⟩;exact⟨vm,u,tn,td,hn,hd,rfl,h1.mono hr,hu,h3.mono hr,h4.mono hr,h5.mono hr,h6.mono hr⟩
theorem pol_target{w:World}{R R':Nat->Prop}{x:PolM}{un ud:Value}(t:Frc)(hr:∀b,R b->R' b)(g1:LS w R' un (natL t.num))(g2:LS w R' ud (natL t.den))(c:List Value):PolK w R c x->PolK w R' (seg c 11 [.bool t.neg,un,ud]) { x with target:=t }:=by
 rintro ⟨vm,vr,tn,td,hn,hd,rfl,h1,h2,h3,h4,h5,h6⟩;exact⟨vm,vr,un,ud,hn,hd,rfl,h1.mono hr,SlS.mono frcK h2 hr,g1,g2,h5.mono hr,h6.mono hr⟩
theorem pol_horizon{w:World}{R R':Nat->Prop}{x:PolM}{un ud:Value}(hr:∀b,R b->R' b)(g1:LS w R' un (natL x.horizon.num))(g2:LS w R' ud (natL x.horizon.den))(c:List Value):PolK w R c x->PolK w R' (seg c 14 [.bool x.horizon.neg,un,ud]) x:=by
 rintro ⟨vm,vr,tn,td,hn,hd,rfl,h1,h2,h3,h4,h5,h6⟩;exact⟨vm,vr,tn,td,un,ud,rfl,h1.mono hr,SlS.mono frcK h2 hr,h3.mono hr,h4.mono hr,g1,g2⟩
theorem pol_m{w:World}{R R':Nat->Prop}{x:PolM}(m:Int)(hr:∀b,R b->R' b)(c:List Value):PolK w R c x->PolK w R' (seg c 2 [.int .i64 m]) { x with m:=m }:=by
 rintro ⟨vm,vr,tn,td,hn,hd,rfl,h1,h2,h3,h4,h5,h6⟩;exact⟨vm,vr,tn,td,hn,hd,rfl,h1.mono hr,SlS.mono frcK h2 hr,h3.mono hr,h4.mono hr,h5.mono hr,h6.mono hr⟩
theorem pol_q{w:World}{R R':Nat->Prop}{x:PolM}(q:Int)(hr:∀b,R b->R' b)(c:List Value):PolK w R c x->PolK w R' (seg c 3 [.int .i64 q]) { x with q:=q }:=by
 rintro ⟨vm,vr,tn,td,hn,hd,rfl,h1,h2,h3,h4,h5,h6⟩;exact⟨vm,vr,tn,td,hn,hd,rfl,h1.mono hr,SlS.mono frcK h2 hr,h3.mono hr,h4.mono hr,h5.mono hr,h6.mono hr⟩
theorem RowA.same{α:Type}{size:Nat}{K:World->(Nat->Prop)->List Value->α->Prop}{w:World}{T:TypeId}{g n:Nat}{es:List α}{R:Nat->Prop}(hK:Steady K)(h:RowA size K w T g n es R){k o:Nat}{x:α}(vs:List Value)(hx:es[k]?=some x)(ho:o+vs.length<=size){R':Nat->Prop}(hr:∀b,R b->R' b)(hg:¬R' g)
  (hn:∀c,K w R c x->K w R' (seg c o vs) x):RowA size K (w.setCells g (k*size+o) vs) T g n es R' :=
 h.put hK vs hx ho hr hg rfl hx (fun _ _=>rfl) (fun c _ _ h=>hn c h)
theorem own_not{Z:Nat->Prop}{α:Type}{size:Nat}{K:World->(Nat->Prop)->List Value->α->Prop}(hK:Steady K){w:World}{T:TypeId}{B b0 a b:Nat}{v:Value}{es:List α}(h:OwnK size K w B T v es (BlZ Z b0))(hZ:∀k,Z k->k<b0)(h0:b0<=w.heap.size)(h1:b0<=a)(h2:b0<=b)(h3:a<B)(h4:b<B):SlS size K w (NotG Z w a b b) v es :=
 OwnK.slS hK h (fun k hk=>by have h9:=hk.1;exact⟨by omega,by omega,by omega,by omega,hk.2⟩) (fun k hk=>by have:=OwnK.lt h k hk;exact⟨by omega,by omega,by omega,by omega,fun e=>by have:=hZ k e;omega⟩)
theorem RowA.enter{Z:Nat->Prop}{α:Type}{size:Nat}{K:World->(Nat->Prop)->List Value->α->Prop}(hK:Steady K){w:World}{T:TypeId}{g n b0 a b:Nat}{es:List α}(h:RowA size K w T g n es (BlZ Z b0))(h0:b0<=w.heap.size)(h1:b0<=a)(h2:b0<=b)(h3:b0<=g)(h4:g≠a)(i:Nat)(u:Value):RowA size K (w.setCell ⟨a,i,none⟩ u) T g n es (NotG Z (w.setCell ⟨a,i,none⟩ u) a b g):=by
 refine RowA.mono hK (h.keep hK (fun k hk=>?_) ?_) (fun k hk=>?_) (fun e=>e.2.2.2.1 rfl)
 ·exact Below.heap_setCell _ _ _ _ (by have:=hk.1;show k≠a;omega)
 ·exact Below.heap_setCell _ _ _ _ (show g≠a from h4)
 ·have hk1:=hk.1;refine⟨?_,by omega,by omega,by omega,hk.2⟩
  have:(w.setCell ⟨a,i,none⟩ u).heap.size=w.heap.size:=by simp
  omega
structure Four (Z:Nat->Prop) (w:World) (a b:Nat) (vl vm vv vo:Value) (F:FltM):Prop where
 laws:SlS 4 LawK w (NotG Z w a b b) vl F.laws
 models:SlS 4 ModK w (NotG Z w a b b) vm F.models
 dves:SlS 3 DveK w (NotG Z w a b b) vv F.dves
 vols:SlS 2 VolK w (NotG Z w a b b) vo F.vols
theorem Four.onward{Z:Nat->Prop}{w w':World}{a b:Nat}{vl vm vv vo:Value}{F:FltM}(h:Four Z w a b vl vm vv vo F){hot:List (Option Nat)}(hh:HotBy hot w w')(hn:∀k,some k∈hot->k=a\/k=b\/k=b):Four Z w' a b vl vm vv vo F :=
 ⟨SlS.onward lawK h.laws hh hn,SlS.onward modK h.models hh hn,SlS.onward dveK h.dves hh hn,SlS.onward volK h.vols hh hn⟩
theorem HotBy.setCells{hot:List (Option Nat)}{a:World}{g:Nat}(hg:some g∈hot\/a.heap.size<=g):∀(vs:List Value) (o:Nat) (w:World),HotBy hot a w->HotBy hot a (w.setCells g o vs)
 | [],_,_,h=>h
 | v :: r,o,w,h=>by
  rw[World.setCells];exact HotBy.setCells hg r (o+1) _ (h.setOf hg o v)
theorem notG_setCells{Z:Nat->Prop}(w:World)(a b c g o:Nat)(vs:List Value):NotG Z (w.setCells g o vs) a b c=NotG Z w a b c:=by
 funext k
 unfold NotG;rw[setCells_sizeK]
end Go.Proofs.YtgfaieppacabjaaGreat
