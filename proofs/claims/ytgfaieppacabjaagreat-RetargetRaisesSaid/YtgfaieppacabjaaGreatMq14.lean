/- Parts. -/
import Derived.Test.YtgfaieppacabjaaGreatMq12
set_option linter.unusedSectionVars false
set_option maxRecDepth 100000
set_option maxHeartbeats 12800000
set_option linter.unusedVariables false
set_option linter.unusedSimpArgs false
namespace Go.Proofs.YtgfaieppacabjaaGreat
open Go.RowKit Go.Shelf
theorem slat_flat{α:Type}{size:Nat}{K:World->(Nat->Prop)->List Value->α->Prop}{w:World}{R:Nat->Prop}{es:List α}{b off:Nat}(h:SlAt size K w R es b off):∀m,m<=es.length->∃news:List Value,news.length=m*size/\(∀j u,news[j]?=some u->w.cell? ⟨b,off+j,none⟩=some u)/\(∀k a,k<m->es[k]?=some a->∃c,c.length=size/\(∀i u,c[i]?=some u->news[k*size+i]?=some u)/\K w R c a)/\∀u∈news,∃a c,u∈c/\K w R c a
 | 0,_=>⟨[],by simp,fun j u h=>by simp at h,fun k a h=>by omega,fun u h=>by cases h⟩
 | m+1,hm=>by
  obtain⟨news,h1,h2,h3,h4⟩:=slat_flat h m (by omega);obtain⟨cs,g1,g2,g3⟩:=h m es[m] (zG (by omega));refine⟨news++cs,by rw[zP,h1,g1,Nat.succ_mul],fun j u hj=>?_,fun k a hk ha=>?_,fun u hu=>?_⟩
  ·rcases Nat.lt_or_ge j news.length with hlt | hge
   ·rw[List.getElem?_append_left hlt] at hj;exact h2 j u hj
   ·rw[List.getElem?_append_right hge] at hj;have:=g2 _ u hj;rw[h1] at this;rw[show off+j=off+m*size+(j-m*size) by omega];exact this
  ·rcases Nat.lt_or_ge k m with hlt | hge
   ·obtain⟨c,e1,e2,e3⟩:=h3 k a hlt ha
    exact⟨c,e1,fun i u hu=>by
     have:=e2 i u hu
     rw[List.getElem?_append_left (zL.1 this).1];exact this,e3⟩
   ·have hkm:k=m:=by omega
    subst hkm;rw[zG (by omega)] at ha;injection ha with ha;subst ha;exact⟨cs,g1,fun i u hu=>by rw[List.getElem?_append_right (by omega),h1,Nat.add_sub_cancel_left];exact hu,g3⟩
  ·rcases List.mem_append.1 hu with hu | hu
   ·exact h4 u hu
   ·exact⟨_,cs,hu,g3⟩
theorem clone_sl{α:Type}{size:Nat}{K:World->(Nat->Prop)->List Value->α->Prop}(hK:Steady K)(h1:∀{w:World} {R:Nat->Prop} {c:List Value} {a:α},K w R c a->∀u∈c,u.oneCell'=true)
  {P:Program} {ρ:Go.Shelf.Ren} (L:SlLaysE0.n41 P ρ) (i0:TypeInfo) (z:Value) (bytes:Nat) (hi:P.info? (ρ.t 23)=some i0) (hz0:i0.zero=some z) (hz1:i0.size=size) (hz2:i0.bytes=bytes) (hzs:z.cells.size=size) (hsz:0<size) (z23:∀w,(Go.sizeOf (ρ.t 23)).run P w=.ok size w)
  (v:Value) (es:List α) (w:World) (R:Nat->Prop) (h:SlS size K w R v es) (hR:∀b,R b->b<w.heap.size) (h0:0<es.length) (hl:es.length<=100000) (hb:bytes<=4096) :
  Calls P (ρ.f 41) #[v] w fun e w'=>∃v',e=.returned v'/\OwnK size K w' w.heap.size (ρ.t 23) v' es R/\Below w.heap.size w w':=by
 obtain⟨A,c,rfl,hc1,hc2,hr⟩:=h;obtain⟨b,off,rfl,hRb,hat⟩:=hr h0;obtain⟨news,g1,g2,g3,g4⟩:=slat_flat hat es.length (zR _);refine(AnyE.slices_Clone L i0 z size bytes hi hz0 hz1 hz2 hzs hsz z23 b off es.length c news w g1 hc2 ?_ g2 (fun u hu=>?_)).mono ?_
 ·calc es.length*bytes<=100000*4096:=Nat.mul_le_mul hl hb
   _<=140737488355328:=by decide
 ·obtain⟨a,c,hu,hk⟩:=g4 u hu;exact h1 hk u hu
 ·rintro e w' ⟨v',rfl,ho,-,hbel⟩;refine⟨v',rfl,⟨news,ho,fun k a ha=>?_⟩,hbel⟩;obtain⟨c,e1,e2,e3⟩:=g3 k a (zL.1 ha).1 ha;exact⟨c,e1,e2,hK.keep (fun b hb=>hbel.block b (hR b hb)) e3⟩
theorem one_law{w:World}{R:Nat->Prop}{c:List Value}{a:LawM}(h:LawK w R c a):∀u∈c,u.oneCell'=true:=by
 obtain⟨vs,vr,ve,rfl,h1,h2,h3⟩:=h;obtain⟨A1,c1,rfl,-⟩:=h1.form;obtain⟨A2,c2,rfl,-⟩:=h2.form;obtain⟨A3,c3,rfl,-⟩:=h3.form;intro u hu;simp at hu;rcases hu with rfl | rfl | rfl | rfl <;> rfl
theorem one_mod{w:World}{R:Nat->Prop}{c:List Value}{a:ModM}(h:ModK w R c a):∀u∈c,u.oneCell'=true:=by
 subst h;intro u hu;simp at hu;rcases hu with rfl | rfl | rfl | rfl <;> rfl
theorem one_dom{w:World}{R:Nat->Prop}{c:List Value}{a:DomM}(h:DomK w R c a):∀u∈c,u.oneCell'=true:=by
 obtain⟨vn,vd,rfl,h1,h2⟩:=h;obtain⟨A1,c1,rfl,-⟩:=h1.form;obtain⟨A2,c2,rfl,-⟩:=h2.form;intro u hu;simp at hu;rcases hu with rfl | rfl | rfl | rfl | rfl | rfl | rfl <;> rfl
theorem one_dve{w:World}{R:Nat->Prop}{c:List Value}{a:DveM}(h:DveK w R c a):∀u∈c,u.oneCell'=true:=by
 subst h;intro u hu;simp at hu;rcases hu with rfl | rfl | rfl <;> rfl
theorem one_vol{w:World}{R:Nat->Prop}{c:List Value}{a:VolM}(h:VolK w R c a):∀u∈c,u.oneCell'=true:=by
 subst h;intro u hu;simp at hu;rcases hu with rfl | rfl <;> rfl
theorem one_pol{w:World}{R:Nat->Prop}{c:List Value}{a:PolM}(h:PolK w R c a):∀u∈c,u.oneCell'=true:=by
 obtain⟨vm,vr,tn,td,hn,hd,rfl,h1,h2,h3,h4,h5,h6⟩:=h;obtain⟨A1,c1,rfl,-⟩:=h1.1;obtain⟨A2,c2,rfl,-⟩:=h2.form;obtain⟨A3,c3,rfl,-⟩:=h3.form;obtain⟨A4,c4,rfl,-⟩:=h4.form;obtain⟨A5,c5,rfl,-⟩:=h5.form;obtain⟨A6,c6,rfl,-⟩:=h6.form;intro u hu;simp at hu;rcases hu with rfl | rfl | rfl | rfl | rfl | rfl | rfl | rfl | rfl | rfl | rfl | rfl | rfl | rfl | rfl | rfl | rfl <;> rfl
theorem ls_clone{P:Program}{ρ:Go.Shelf.Ren}(L:SlLaysE0.n41 P ρ)(he:ρ.t 23=107)(i0:TypeInfo)(hi:P.info? (ρ.t 23)=some i0)(hz0:i0.zero=some (.int .u32 0))(hz1:i0.size=1)(hz2:i0.bytes=4)(z23:∀w,(Go.sizeOf (ρ.t 23)).run P w=.ok 1 w)
  (v:Value) (l:List Nat) (w:World) (R:Nat->Prop) (h:LS w R v l) (hl:l.length<=100000) :
  Calls P (ρ.f 41) #[v] w fun e w'=>∃v',e=.returned v'/\LS w' (Fr w.heap.size w'.heap.size) v' l/\Below w.heap.size w w':=by
 obtain⟨h1,h2⟩:=h;rcases h1 with ⟨rfl,rfl⟩ | ⟨b,off,c,rfl,g1,g2,g3,g4⟩
 ·refine(AnyE.slices_Clone_nil L 0 0 w).mono ?_;rintro e w' ⟨rfl,rfl⟩;exact⟨_,rfl,LS.nil _ _,zB _ _⟩
 ·refine(AnyE.slices_Clone L i0 (.int .u32 0) 1 4 hi hz0 hz1 hz2 rfl (by omega) z23 b off l.length c (l.map u32V) w (by simp) (Nat.le_trans g1 g2) (by omega) (fun j u hj=>?_) (fun u hu=>?_)).mono ?_
  ·rw[List.getElem?_map] at hj
   cases hx:l[j]? with
   | none=>rw[hx] at hj;cases hj
   | some x=>rw[hx] at hj;injection hj with hj;rw[<-hj];exact g4 j x hx
  ·obtain⟨x,-,rfl⟩:=List.mem_map.1 hu
   rfl
  ·rintro e w' ⟨v',rfl,ho,-,hbel⟩;rw[he] at ho;exact⟨v',rfl,OwnL.ls ho h2,hbel⟩
theorem ints_clone{P:Program}{ρ:Go.Shelf.Ren}(L:SlLaysE0.n41 P ρ)(i0:TypeInfo)(hi:P.info? (ρ.t 23)=some i0)(hz0:i0.zero=some (.int .i64 0))(hz1:i0.size=1)(hz2:i0.bytes=8)(z23:∀w,(Go.sizeOf (ρ.t 23)).run P w=.ok 1 w)
  (v:Value) (l:List Int) (w:World) (R:Nat->Prop) (h:IntS w R v l) (h0:0<l.length) (hl:l.length<=100000) :
  Calls P (ρ.f 41) #[v] w fun e w'=>∃v',e=.returned v'/\w'.ownsRow w.heap.size (ρ.t 23) 1 v' l.length (l.map (Value.int .i64))/\Below w.heap.size w w':=by
 obtain⟨⟨A,c,rfl,g1,g2,g3⟩,h2⟩:=h;obtain⟨b,off,rfl,-,g4⟩:=g3 h0;refine(AnyE.slices_Clone L i0 (.int .i64 0) 1 8 hi hz0 hz1 hz2 rfl (by omega) z23 b off l.length c (l.map (Value.int .i64)) w (by simp) g2 (by omega) (fun j u hj=>?_) (fun u hu=>?_)).mono ?_
 ·rw[List.getElem?_map] at hj
  cases hx:l[j]? with
  | none=>rw[hx] at hj;cases hj
  | some x=>rw[hx] at hj;injection hj with hj;rw[<-hj];exact g4 j x hx
 ·obtain⟨x,-,rfl⟩:=List.mem_map.1 hu
  rfl
 ·rintro e w' ⟨v',rfl,ho,-,hbel⟩;exact⟨v',rfl,ho,hbel⟩
open Go.RowKit
def upP(x:PolM)(m q:Int):PolM:={ x with m:=m,q:=q,repair:=List.replicate (max m 1).toNat ⟨false,1,2⟩ }
theorem setCells_other{g:Nat}:∀(vs:List Value) (o:Nat) (w:World) (k:Nat),k≠g->(w.setCells g o vs).heap[k]?=w.heap[k]?
 | [],_,_,_,_=>rfl
 | v :: r,o,w,k,h=>by
  rw[World.setCells,setCells_other r (o+1) _ k h];exact heap_setCell_other w ⟨g,o,none⟩ k v h
theorem setCells_sizeK{g:Nat}:∀(vs:List Value) (o:Nat) (w:World),(w.setCells g o vs).heap.size=w.heap.size
 | [],_,_=>rfl
 | v :: r,o,w=>by rw[World.setCells,setCells_sizeK r (o+1) _];simp
theorem setCells_block{g:Nat}{T:TypeId}:∀(vs:List Value) (o:Nat) (w:World) (cs:Array Value),w.heap[g]?=some (.cells cs T (0,0))->o+vs.length<=cs.size ->
  ∃cs':Array Value,(w.setCells g o vs).heap[g]?=some (.cells cs' T (0,0))/\cs'.size=cs.size/\(∀i,(i<o\/o+vs.length<=i)->cs'[i]?=cs[i]?)/\∀i u,vs[i]?=some u->cs'[o+i]?=some u
 | [],o,w,cs,h,_=>⟨cs,h,rfl,fun _ _=>rfl,fun i u hu=>by simp at hu⟩
 | v :: r,o,w,cs,h,hl=>by
  have h1:=heap_setCell_same w g o cs T v h;simp only[List.length_cons] at hl;obtain⟨cs',g1,g2,g3,g4⟩:=setCells_block r (o+1) _ _ h1 (by simp;omega);refine⟨cs',by rw[World.setCells];exact g1,by simpa using g2,fun i hi=>?_,fun i u hu=>?_⟩
  ·simp only[List.length_cons] at hi;rw[g3 i (by omega),Array.getElem?_setIfInBounds];rw[if_neg (by omega)]
  ·cases i with
   | zero =>
    simp at hu;subst hu;rw[Nat.add_zero,g3 o (by omega),Array.getElem?_setIfInBounds,if_pos rfl,if_pos (by omega)]
   | succ i =>
    have:=g4 i u (by simpa using hu);rw[show o+(i+1)=o+1+i by omega];exact this
def FillTo{α:Type}(size:Nat)(K:World->(Nat->Prop)->List Value->α->Prop)(w:World)(base:Nat)(T:TypeId)(g n j:Nat)(es:List α):Prop :=
 base<=g/\∃cs:Array Value,w.heap[g]?=some (.cells cs T (0,0))/\cs.size=n*size/\∀k x,k<j->es[k]?=some x->∃c,c.length=size/\(∀i u,c[i]?=some u->cs[k*size+i]?=some u)/\K w (fun b=>base<=b/\b<w.heap.size/\b≠g) c x
theorem FillTo.lt{α:Type}{size:Nat}{K:World->(Nat->Prop)->List Value->α->Prop}{w:World}{base:Nat}{T:TypeId}{g n j:Nat}{es:List α}(h:FillTo size K w base T g n j es):g<w.heap.size:=by
 obtain⟨-,cs,h1,-⟩:=h;exact(zA.1 h1).1
theorem FillTo.below{α:Type}{size:Nat}{K:World->(Nat->Prop)->List Value->α->Prop}(hK:Steady K){w w':World}{base:Nat}{T:TypeId}{g n j:Nat}{es:List α}(h:FillTo size K w base T g n j es)(hb:Below w.heap.size w w'):FillTo size K w' base T g n j es:=by
 have hl:=h.lt;obtain⟨h0,cs,h1,h2,h3⟩:=h;refine⟨h0,cs,(hb.block g hl).trans h1,h2,fun k x hk hx=>?_⟩;obtain⟨c,e1,e2,e3⟩:=h3 k x hk hx;exact⟨c,e1,e2,hK.mono (fun b hb'=>⟨hb'.1,zM hb'.2.1 hb.size,hb'.2.2⟩) (hK.keep (fun b hb'=>hb.block b hb'.2.1) e3)⟩
theorem FillTo.there{α:Type}{size:Nat}{K:World->(Nat->Prop)->List Value->α->Prop}{w:World}{base:Nat}{T:TypeId}{g n j:Nat}{es:List α}(h:FillTo size K w base T g n j es){i:Nat}(hi:i<n):w.there g (i*size) size:=by
 obtain⟨-,cs,h1,h2,-⟩:=h;intro k hk;have:(i+1)*size<=n*size:=Nat.mul_le_mul_right _ hi;rw[Nat.succ_mul] at this;exact⟨by rw[cell_of_row _ _ _ _ _ _ h1,Array.getElem?_eq_getElem (by omega)];rfl,frozen_of_row _ _ _ _ _ h1⟩
theorem FillTo.store{α:Type}{size:Nat}{K:World->(Nat->Prop)->List Value->α->Prop}(hK:Steady K){w:World}{base:Nat}{T:TypeId}{g n j:Nat}{es:List α}(h:FillTo size K w base T g n j es)(hj:j<n)(vs:List Value)(hl:vs.length=size){x:α}(hx:es[j]?=some x){R:Nat->Prop}(hk:K w R vs x)(hR:∀b,R b->base<=b/\b<w.heap.size/\b≠g) :
  FillTo size K (w.setCells g (j*size) vs) base T g n (j+1) es:=by
 obtain⟨h0,cs,h1,h2,h3⟩:=h;have hle:(j+1)*size<=n*size:=Nat.mul_le_mul_right _ hj;rw[Nat.succ_mul] at hle;obtain⟨cs',g1,g2,g3,g4⟩:=setCells_block vs (j*size) w cs h1 (by omega)
 have hkp:Kept (fun b=>base<=b/\b<w.heap.size/\b≠g) w (w.setCells g (j*size) vs):=fun b hb=>setCells_other vs _ w b hb.2.2
 have hsz:=setCells_sizeK (g:=g) vs (j*size) w;refine⟨h0,cs',g1,g2.trans h2,fun k y hkj hy=>?_⟩;rcases Nat.lt_or_ge k j with hlt | hge
 ·obtain⟨c,e1,e2,e3⟩:=h3 k y hlt hy;have h5:(k+1)*size<=j*size:=Nat.mul_le_mul_right _ hlt;rw[Nat.succ_mul] at h5;refine⟨c,e1,fun i u hu=>?_,hK.mono (fun b hb=>⟨hb.1,by rw[hsz];exact hb.2.1,hb.2.2⟩) (hK.keep hkp e3)⟩;have h6:=(zL.1 hu).1;rw[g3 _ (by omega)];exact e2 i u hu
 ·have:k=j:=by omega
  subst this;rw[hx] at hy;injection hy with hy;subst hy;exact⟨vs,hl,g4,hK.mono (fun b hb=>⟨(hR b hb).1,by rw[hsz];exact(hR b hb).2.1,(hR b hb).2.2⟩) (hK.keep (fun b hb=>hkp b (hR b hb)) hk)⟩
theorem FillTo.own{α:Type}{size:Nat}{K:World->(Nat->Prop)->List Value->α->Prop}{w:World}{base:Nat}{T:TypeId}{g n:Nat}{es:List α}(h:FillTo size K w base T g n n es)(hn:es.length=n)(hm:n<=maxLen):OwnK size K w base T (.slice (some ⟨g,0,none⟩) n n) es (fun b=>base<=b/\b<w.heap.size/\b≠g):=by
 subst hn;obtain⟨h0,cs,h1,h2,h3⟩:=h;refine⟨cs.toList,⟨by simpa using h2,.inr ⟨g,es.length,cs,rfl,h0,h1,zR _,hm,h2,by rw[List.take_of_length_le (by simp[h2])]⟩⟩,fun k a ha=>?_⟩;obtain⟨c,e1,e2,e3⟩:=h3 k a (zL.1 ha).1 ha;exact⟨c,e1,fun i u hu=>by rw[Array.getElem?_toList];exact e2 i u hu,e3⟩
theorem FillTo.start{α:Type}{size:Nat}{K:World->(Nat->Prop)->List Value->α->Prop}{w:World}{base:Nat}{T:TypeId}{g n:Nat}{es:List α}{cs:Array Value}(h0:base<=g)(h1:w.heap[g]?=some (.cells cs T (0,0)))(h2:cs.size=n*size):FillTo size K w base T g n 0 es:=⟨h0,cs,h1,h2,fun k x hk=>by omega⟩
theorem info_lawK:(Tryz.prog.info? 96).map (fun i=>(i.zero,i.size,i.bytes))=some (some (.agg #[.string ⟨#[]⟩,.slice none 0 0,.slice none 0 0,.slice none 0 0]),4,88):=by kernel_rfl
theorem info_modK:(Tryz.prog.info? 98).map (fun i=>(i.zero,i.size,i.bytes))=some (some (.agg #[.string ⟨#[]⟩,.int .i64 0,.int .i64 0,.int .i64 0]),4,40):=by kernel_rfl
theorem info_intK:(Tryz.prog.info? 3).map (fun i=>(i.zero,i.size,i.bytes))=some (some (.int .i64 0),1,8):=by kernel_rfl
def cllawRen:Go.Shelf.Ren:=⟨fun | 41=>74 | n=>n,fun | 4=>4 | 22=>28 | 23=>96 | n=>n,fun n=>n⟩
theorem cllawLays:Go.Proofs.SlLaysE0.n41 Tryz.prog cllawRen:={
 mixed:=by kernel_rfl
 f41 := ⟨"slices.Clone[[]drydock/api.Law,drydock/api.Law]", of_decide_eq_true (by kernel_rfl), Tryz.func74.trans (congrArg some (by kernel_rfl))⟩
 t4:=Tryz.underlying4
 a4:=Tryz.isAgg4
 z4:=Tryz.sizeOf4
 v4:=Tryz.zeroValue4
 t22:=Tryz.underlying28
 a22:=Tryz.isAgg28
 z22:=Tryz.sizeOf28
 v22:=Tryz.zeroValue28 }
def clmodRen:Go.Shelf.Ren:=⟨fun | 41=>76 | n=>n,fun | 4=>4 | 22=>29 | 23=>98 | n=>n,fun n=>n⟩
theorem clmodLays:Go.Proofs.SlLaysE0.n41 Tryz.prog clmodRen:={
 mixed:=by kernel_rfl
 f41 := ⟨"slices.Clone[[]drydock/api.Model,drydock/api.Model]", of_decide_eq_true (by kernel_rfl), Tryz.func76.trans (congrArg some (by kernel_rfl))⟩
 t4:=Tryz.underlying4
 a4:=Tryz.isAgg4
 z4:=Tryz.sizeOf4
 v4:=Tryz.zeroValue4
 t22:=Tryz.underlying29
 a22:=Tryz.isAgg29
 z22:=Tryz.sizeOf29
 v22:=Tryz.zeroValue29 }
def cldveRen:Go.Shelf.Ren:=⟨fun | 41=>77 | n=>n,fun | 4=>4 | 22=>31 | 23=>102 | n=>n,fun n=>n⟩
theorem cldveLays:Go.Proofs.SlLaysE0.n41 Tryz.prog cldveRen:={
 mixed:=by kernel_rfl
 f41 := ⟨"slices.Clone[[]drydock/api.Drive,drydock/api.Drive]", of_decide_eq_true (by kernel_rfl), Tryz.func77.trans (congrArg some (by kernel_rfl))⟩
 t4:=Tryz.underlying4
 a4:=Tryz.isAgg4
 z4:=Tryz.sizeOf4
 v4:=Tryz.zeroValue4
 t22:=Tryz.underlying31
 a22:=Tryz.isAgg31
 z22:=Tryz.sizeOf31
 v22:=Tryz.zeroValue31 }
def clvolRen:Go.Shelf.Ren:=⟨fun | 41=>78 | n=>n,fun | 4=>4 | 22=>33 | 23=>106 | n=>n,fun n=>n⟩
theorem clvolLays:Go.Proofs.SlLaysE0.n41 Tryz.prog clvolRen:={
 mixed:=by kernel_rfl
 f41 := ⟨"slices.Clone[[]drydock/api.Volume,drydock/api.Volume]", of_decide_eq_true (by kernel_rfl), Tryz.func78.trans (congrArg some (by kernel_rfl))⟩
 t4:=Tryz.underlying4
 a4:=Tryz.isAgg4
 z4:=Tryz.sizeOf4
 v4:=Tryz.zeroValue4
 t22:=Tryz.underlying33
 a22:=Tryz.isAgg33
 z22:=Tryz.sizeOf33
 v22:=Tryz.zeroValue33 }
def cldomRen:Go.Shelf.Ren:=⟨fun | 41=>79 | n=>n,fun | 4=>4 | 22=>30 | 23=>100 | n=>n,fun n=>n⟩
theorem cldomLays:Go.Proofs.SlLaysE0.n41 Tryz.prog cldomRen:={
 mixed:=by kernel_rfl
 f41 := ⟨"slices.Clone[[]drydock/api.Domain,drydock/api.Domain]", of_decide_eq_true (by kernel_rfl), Tryz.func79.trans (congrArg some (by kernel_rfl))⟩
 t4:=Tryz.underlying4
 a4:=Tryz.isAgg4
 z4:=Tryz.sizeOf4
 v4:=Tryz.zeroValue4
 t22:=Tryz.underlying30
 a22:=Tryz.isAgg30
 z22:=Tryz.sizeOf30
 v22:=Tryz.zeroValue30 }
def clpolRen:Go.Shelf.Ren:=⟨fun | 41=>80 | n=>n,fun | 4=>4 | 22=>32 | 23=>55 | n=>n,fun n=>n⟩
theorem clpolLays:Go.Proofs.SlLaysE0.n41 Tryz.prog clpolRen:={
 mixed:=by kernel_rfl
 f41 := ⟨"slices.Clone[[]drydock/api.Policy,drydock/api.Policy]", of_decide_eq_true (by kernel_rfl), Tryz.func80.trans (congrArg some (by kernel_rfl))⟩
 t4:=Tryz.underlying4
 a4:=Tryz.isAgg4
 z4:=Tryz.sizeOf4
 v4:=Tryz.zeroValue4
 t22:=Tryz.underlying32
 a22:=Tryz.isAgg32
 z22:=Tryz.sizeOf32
 v22:=Tryz.zeroValue32 }
def clintRen:Go.Shelf.Ren:=⟨fun | 41=>81 | n=>n,fun | 4=>4 | 22=>22 | 23=>3 | n=>n,fun n=>n⟩
theorem clintLays:Go.Proofs.SlLaysE0.n41 Tryz.prog clintRen:={
 mixed:=by kernel_rfl
 f41 := ⟨"slices.Clone[[]int,int]", of_decide_eq_true (by kernel_rfl), Tryz.func81.trans (congrArg some (by kernel_rfl))⟩
 t4:=Tryz.underlying4
 a4:=Tryz.isAgg4
 z4:=Tryz.sizeOf4
 v4:=Tryz.zeroValue4
 t22:=Tryz.underlying22
 a22:=Tryz.isAgg22
 z22:=Tryz.sizeOf22
 v22:=Tryz.zeroValue22 }
def clnatRen:Go.Shelf.Ren:=⟨fun | 41=>82 | n=>n,fun | 4=>4 | 22=>24 | 23=>107 | n=>n,fun n=>n⟩
theorem clnatLays:Go.Proofs.SlLaysE0.n41 Tryz.prog clnatRen:={
 mixed:=by kernel_rfl
 f41 := ⟨"slices.Clone[drydock/api.Nat,uint32]", of_decide_eq_true (by kernel_rfl), Tryz.func82.trans (congrArg some (by kernel_rfl))⟩
 t4:=Tryz.underlying4
 a4:=Tryz.isAgg4
 z4:=Tryz.sizeOf4
 v4:=Tryz.zeroValue4
 t22:=Tryz.underlying24
 a22:=Tryz.isAgg24
 z22:=Tryz.sizeOf24
 v22:=Tryz.zeroValue24 }
theorem clone_law(v:Value)(es:List LawM)(w:World)(R:Nat->Prop)(h:SlS 4 LawK w R v es)(hR:∀b,R b->b<w.heap.size)(h0:0<es.length)(hl:es.length<=100000) :
  Calls Tryz.prog 74 #[v] w fun e w'=>∃v',e=.returned v'/\OwnK 4 LawK w' w.heap.size 96 v' es R/\Below w.heap.size w w':=by
 obtain⟨i0,hi,hz0,hz1,hz2⟩:=info_parts (info_lawK);exact clone_sl lawK one_law cllawLays i0 _ _ hi hz0 hz1 hz2 rfl (by omega) Tryz.sizeOf96 v es w R h hR h0 hl (by omega)
theorem clone_mod(v:Value)(es:List ModM)(w:World)(R:Nat->Prop)(h:SlS 4 ModK w R v es)(hR:∀b,R b->b<w.heap.size)(h0:0<es.length)(hl:es.length<=100000) :
  Calls Tryz.prog 76 #[v] w fun e w'=>∃v',e=.returned v'/\OwnK 4 ModK w' w.heap.size 98 v' es R/\Below w.heap.size w w':=by
 obtain⟨i0,hi,hz0,hz1,hz2⟩:=info_parts (info_modK);exact clone_sl modK one_mod clmodLays i0 _ _ hi hz0 hz1 hz2 rfl (by omega) Tryz.sizeOf98 v es w R h hR h0 hl (by omega)
theorem clone_dve(v:Value)(es:List DveM)(w:World)(R:Nat->Prop)(h:SlS 3 DveK w R v es)(hR:∀b,R b->b<w.heap.size)(h0:0<es.length)(hl:es.length<=100000) :
  Calls Tryz.prog 77 #[v] w fun e w'=>∃v',e=.returned v'/\OwnK 3 DveK w' w.heap.size 102 v' es R/\Below w.heap.size w w':=by
 obtain⟨i0,hi,hz0,hz1,hz2⟩:=info_parts (info_dve);exact clone_sl dveK one_dve cldveLays i0 _ _ hi hz0 hz1 hz2 rfl (by omega) Tryz.sizeOf102 v es w R h hR h0 hl (by omega)
theorem clone_vol(v:Value)(es:List VolM)(w:World)(R:Nat->Prop)(h:SlS 2 VolK w R v es)(hR:∀b,R b->b<w.heap.size)(h0:0<es.length)(hl:es.length<=100000) :
  Calls Tryz.prog 78 #[v] w fun e w'=>∃v',e=.returned v'/\OwnK 2 VolK w' w.heap.size 106 v' es R/\Below w.heap.size w w':=by
 obtain⟨i0,hi,hz0,hz1,hz2⟩:=info_parts (info_vol);exact clone_sl volK one_vol clvolLays i0 _ _ hi hz0 hz1 hz2 rfl (by omega) Tryz.sizeOf106 v es w R h hR h0 hl (by omega)
theorem clone_dom(v:Value)(es:List DomM)(w:World)(R:Nat->Prop)(h:SlS 7 DomK w R v es)(hR:∀b,R b->b<w.heap.size)(h0:0<es.length)(hl:es.length<=100000) :
  Calls Tryz.prog 79 #[v] w fun e w'=>∃v',e=.returned v'/\OwnK 7 DomK w' w.heap.size 100 v' es R/\Below w.heap.size w w':=by
 obtain⟨i0,hi,hz0,hz1,hz2⟩:=info_parts (info_dom);exact clone_sl domK one_dom cldomLays i0 _ _ hi hz0 hz1 hz2 rfl (by omega) Tryz.sizeOf100 v es w R h hR h0 hl (by omega)
theorem clone_pol(v:Value)(es:List PolM)(w:World)(R:Nat->Prop)(h:SlS 17 PolK w R v es)(hR:∀b,R b->b<w.heap.size)(h0:0<es.length)(hl:es.length<=100000) :
  Calls Tryz.prog 80 #[v] w fun e w'=>∃v',e=.returned v'/\OwnK 17 PolK w' w.heap.size 55 v' es R/\Below w.heap.size w w':=by
 obtain⟨i0,hi,hz0,hz1,hz2⟩:=info_parts (info_pol);exact clone_sl polK one_pol clpolLays i0 _ _ hi hz0 hz1 hz2 rfl (by omega) Tryz.sizeOf55 v es w R h hR h0 hl (by omega)
theorem clone_int(v:Value)(l:List Int)(w:World)(R:Nat->Prop)(h:IntS w R v l)(h0:0<l.length)(hl:l.length<=100000) :
  Calls Tryz.prog 81 #[v] w fun e w'=>∃v',e=.returned v'/\w'.ownsRow w.heap.size 3 1 v' l.length (l.map (Value.int .i64))/\Below w.heap.size w w':=by
 obtain⟨i0,hi,hz0,hz1,hz2⟩:=info_parts info_intK;exact ints_clone clintLays i0 hi hz0 hz1 hz2 Tryz.sizeOf3 v l w R h h0 hl
theorem clone_nat(v:Value)(l:List Nat)(w:World)(R:Nat->Prop)(h:LS w R v l)(hl:l.length<=100000) :
  Calls Tryz.prog 82 #[v] w fun e w'=>∃v',e=.returned v'/\LS w' (Fr w.heap.size w'.heap.size) v' l/\Below w.heap.size w w':=by
 obtain⟨i0,hi,hz0,hz1,hz2⟩:=info_parts info_u32;exact ls_clone clnatLays rfl i0 hi hz0 hz1 hz2 Tryz.sizeOf107 v l w R h hl
def HeldQ(W0:World)(q:Nat)(x0 x1 x2:Value)(w':World):Prop:=w'.cell? ⟨q,0,none⟩=some x0/\w'.cell? ⟨q,1,none⟩=some x1/\w'.cell? ⟨q,2,none⟩=some x2/\w'.frozen? ⟨q,1,none⟩=false/\w'.frozen? ⟨q,2,none⟩=false/\Below W0.heap.size W0 w'
theorem HeldQ.bl{W0 w':World}{q:Nat}{x0 x1 x2:Value}(h:HeldQ W0 q x0 x1 x2 w'):Below W0.heap.size W0 w':=h.2.2.2.2.2
theorem HeldQ.below{W0 wc w2:World}{q:Nat}{x0 x1 x2:Value}(h:HeldQ W0 q x0 x1 x2 wc)(hb:Below wc.heap.size wc w2)(hq:q<W0.heap.size):HeldQ W0 q x0 x1 x2 w2:=by
 obtain⟨d0,d1,d2,f1,f2,hB⟩:=h;have hs:=hB.size
 have m:∀i,w2.cell? ⟨q,i,none⟩=wc.cell? ⟨q,i,none⟩:=fun i=>hb.cell (p:=⟨q,i,none⟩) (zM hq hs)
 have m':∀i,w2.frozen? ⟨q,i,none⟩=wc.frozen? ⟨q,i,none⟩:=fun i=>hb.frozen (p:=⟨q,i,none⟩) (zM hq hs)
 exact⟨(m _).trans d0,(m _).trans d1,(m _).trans d2,(m' _).trans f1,(m' _).trans f2,hB.trans (hb.mono hs)⟩
theorem pfrac_any(neg:Bool)(vn vd:Value)(ln ld:List Nat)(w:World)(hn:LS w (Bl w.heap.size) vn ln)(hd:LS w (Bl w.heap.size) vd ld)(h1:ln.length<=100000)(h2:ld.length<=100000) :
  Calls Tryz.prog 34 #[.agg #[.bool neg,vn,vd]] w fun e w'=>∃un ud,e=.returned (.agg #[.bool neg,un,ud])/\LS w' (Fr w.heap.size w'.heap.size) un ln/\LS w' (Fr w.heap.size w'.heap.size) ud ld/\Below w.heap.size w w':=by
 obtain⟨An,Nn,cn,rfl⟩:=hn.frm;obtain⟨Ad,Nd,cd,rfl⟩:=hd.frm;obtain⟨x1,hx1⟩:=zx (Value.slice An Nn cn);obtain⟨x2,hx2⟩:=zx (Value.slice Ad Nd cd);obtain⟨W0,hW0⟩:=zx ((w.alloc (.cells #[.bool neg,.slice An Nn cn,.slice Ad Nd cd] 26)).alloc (.cells #[.bool false,.slice none 0 0,.slice none 0 0] 26));obtain⟨q,hq⟩:=zx w.heap.size;obtain⟨g,hgq⟩:=zx (w.heap.size+1)
 have hb0:Below w.heap.size w W0:=by rw[hW0];exact((zB _ _).alloc (zR _) _).alloc (by simp) _
 have hbk:W0.heap[g]?=some (.cells #[.bool false,.slice none 0 0,.slice none 0 0] 26 (0,0)):=by
  rw[hW0];exact heap_alloc_at _ _ _ (by rw[hgq];simp)
 have hqk:W0.heap[q]?=some (.cells #[.bool neg,.slice An Nn cn,.slice Ad Nd cd] 26 (0,0)):=by
  rw[hW0,hq];exact(zH _ _ _ (by simp)).trans (zN w _)
 have hgl:g<W0.heap.size:=(zA.1 hbk).1;have hql:q<W0.heap.size:=(zA.1 hqk).1;obtain⟨c0,c1,c2,-,z1,z2⟩:=cells3 hqk;rw[<-hx1] at c1 hn;rw[<-hx2] at c2 hd;have HS0:=zh (show HeldQ W0 q (.bool neg) x1 x2 W0.drew from⟨c0,c1,c2,z1,z2,(zB _ _).drew⟩);have HC1:=zh (fun(w':World) (hb:Below W0.heap.size W0 w')=>clone_nat x1 ln w' _ ((hn.below hb0).below hb) h1);have HC2:=zh (fun(w':World) (hb:Below W0.heap.size W0 w')=>clone_nat x2 ld w' _ ((hd.below hb0).below hb) h2);have HQK:=zh hqk;have HBK:=zh hbk;have HW0:=zh hW0;have HGQ:=zh (show q=w.heap.size/\g=w.heap.size+1 from⟨hq,hgq⟩);have HB0:=zh hb0;have HGL:=zh hgl;have HQL:=zh hql;clear hn hd hW0 hq hgq hb0 hbk hqk hgl hql c0 c1 c2 z1 z2 hx1 hx2;go_enter Tryz.func34,Tryz.ntmps34;go_upto_region 1 with fail;rw[<-HW0.out,<-HGQ.out.2,<-HGQ.out.1];refine region_tail (S:=(fun w'=>w'.cell? ⟨q,0,none⟩=some (.bool neg)/\w'.cell? ⟨q,1,none⟩=some x1/\w'.cell? ⟨q,2,none⟩=some x2/\w'.frozen? ⟨q,1,none⟩=false/\w'.frozen? ⟨q,2,none⟩=false/\Below W0.heap.size W0 w')) [7,8,9] (by kernel_rfl) HS0.out (fun hHeld=>?_);refine tk 0 3 ?_;refine tk 1 4 ?_;refine tk 3 6 ?_;refine tk 4 7 ?_;refine rd1 2 (fun K hK=>?_);go_simp;(go_at_call 82;refine(HC1.out _ (HeldQ.bl (by assumption))).mono ?_;rintro e w5 ⟨u5,rfl,hu5,hb5⟩);go_wp2_with fail;refine hK.out _ _ ?_ (fun hHeld=>?_)
 ·(first|exact HeldQ.below (by assumption) hb6 HQL.out|exact HeldQ.below (by assumption) hb5 HQL.out)
 clear hK K;(try simp only[Act.put,z1,z2,z3]);refine tk 6 9 ?_;refine rd1 5 (fun K hK=>?_);go_simp;(go_at_call 82;refine(HC2.out _ (HeldQ.bl (by assumption))).mono ?_;rintro e w6 ⟨u6,rfl,hu6,hb6⟩);go_wp2_with fail;refine hK.out _ _ ?_ (fun hHeld=>?_)
 ·(first|exact HeldQ.below (by assumption) hb6 HQL.out|exact HeldQ.below (by assumption) hb5 HQL.out)
 clear hK K;(try simp only[Act.put,z1,z2,z3]);refine rd1T 7 (fun K hK=>?_);have HU5:=zh (hu5.bel hb6);have HU6:=zh hu6;obtain⟨A1,N1,c1,rfl⟩:=hu5.frm;obtain⟨A2,N2,c2,rfl⟩:=hu6.frm;have HX:=zh (hHeld.2.2.2.2.2);obtain⟨d0,d1,d2,f1,f2,-⟩:=hHeld;clear hu5 hu6 hb5 hb6;go_simp;refine hK.out _ _ ?_;clear hK K;(try simp only[Act.put,z1,z2,z3]);refine rd1T 8 (fun K hK=>?_);go_simp;refine hK.out _ _ ?_;clear hK K;(try simp only[Act.put,z1,z2,z3]);refine rd1T 9 (fun K hK=>?_);go_simp;refine hK.out _ _ ?_;clear hK K;(try simp only[Act.put,z1,z2,z3]);refine doneT (by kernel_rfl) ?_ _;obtain⟨w7,hw7⟩:=zx ((w6.setCell ⟨q,1,none⟩ (.slice A1 N1 c1)).setCell ⟨q,2,none⟩ (.slice A2 N2 c2));rw[<-hw7]
 have hq7:w7.heap[q]?=some (.cells #[.bool neg,.slice A1 N1 c1,.slice A2 N2 c2] 26 (0,0)):=by rw[hw7];exact heap_setCell_same _ q 2 _ _ _ (heap_setCell_same w6 q 1 _ _ _ ((HX.out.block q HQL.out).trans HQK.out))
 have hqg:g≠q:=by have:=HGQ.out;omega
 have hg7:w7.heap[g]?=some (.cells #[.bool false,.slice none 0 0,.slice none 0 0] 26 (0,0)):=by rw[hw7,heap_setCell_other _ _ _ _ hqg,heap_setCell_other _ _ _ _ hqg];exact(HX.out.block g HGL.out).trans HBK.out
 have hs7:w7.heap.size=w6.heap.size:=by rw[hw7];simp
 have hkp:∀b,W0.heap.size<=b->w7.heap[b]?=w6.heap[b]?:=fun b hb=>by
  have:b≠q:=by have:=HQL.out;omega
  rw[hw7,heap_setCell_other _ _ _ _ this,heap_setCell_other _ _ _ _ this]
 have hsW:W0.heap.size<=w5.heap.size:=hHeld.2.2.2.2.2.size;have hu5:LS w7 (Fr W0.heap.size w7.heap.size) (.slice A1 N1 c1) ln:=(HU5.out.keep (fun b hb=>hkp b hb.1)).mono (fun b hb=>⟨hb.1,by rw[hs7];exact hb.2⟩);have hu6:LS w7 (Fr W0.heap.size w7.heap.size) (.slice A2 N2 c2) ld:=(HU6.out.keep (fun b hb=>hkp b (Nat.le_trans hsW hb.1))).mono (fun b hb=>⟨Nat.le_trans hsW hb.1,by rw[hs7];exact hb.2⟩)
 have hb7:Below w.heap.size w w7:=by rw[hw7];exact((HB0.out.trans (HX.out.mono HB0.out.size)).setCell (by show w.heap.size<=q;rw[HGQ.out.1];exact zR _) _).setCell (by show w.heap.size<=q;rw[HGQ.out.1];exact zR _) _
 have hgw:w.heap.size<=g:=by rw[HGQ.out.2];omega
 have hfr:∀b,Fr W0.heap.size w7.heap.size b->b≠g/\w.heap.size<=b/\b<w7.heap.size:=fun b hb=>⟨by have:=hb.1;have:=HGL.out;omega,Nat.le_trans HB0.out.size hb.1,hb.2⟩
 have HB3:=zh (box3 hg7 hb7 hgw (.bool neg) (.slice A1 N1 c1) (.slice A2 N2 c2) hu5 hfr hu6 hfr);obtain⟨y0,y1,y2,-⟩:=cells3 hq7;obtain⟨l0,l1,l2,f0,f3,f4⟩:=cells3 hg7;clear hHeld hq7 hg7 hs7 hkp hsW hu5 hu6 hb7 hgw hfr hw7 d0 d1 d2 f1 f2 hqg;go_wp2_with fail;obtain⟨Wf,hWf⟩:=zx (((w7.setCell ⟨g,0,none⟩ (.bool neg)).setCell ⟨g,1,none⟩ (.slice A1 N1 c1)).setCell ⟨g,2,none⟩ (.slice A2 N2 c2));obtain⟨x0,x1,x2,hl1,hl2,hbf⟩:=HB3.out Wf hWf;rw[<-hWf];clear hWf l0 l1 l2 f0 f3 f4;exact bodyPost_ret (v:=.agg #[.bool neg,.slice A1 N1 c1,.slice A2 N2 c2]) (by simp[results,Tryz.results34,go_sem,x0,x1,x2]) rfl ⟨_,_,rfl,hl1,hl2,hbf⟩
def HeldF(W0:World)(q p:Nat)(x0 x1 x2 y0 y1 y2:Value)(w':World):Prop :=
 w'.cell? ⟨q,0,none⟩=some x0/\w'.cell? ⟨q,1,none⟩=some x1/\w'.cell? ⟨q,2,none⟩=some x2/\w'.cell? ⟨p,0,none⟩=some y0/\w'.cell? ⟨p,1,none⟩=some y1/\w'.cell? ⟨p,2,none⟩=some y2/\Below W0.heap.size W0 w'
theorem HeldF.below{W0 wc w2:World}{q p:Nat}{x0 x1 x2 y0 y1 y2:Value}(h:HeldF W0 q p x0 x1 x2 y0 y1 y2 wc)(hb:Below wc.heap.size wc w2)(hq:q<W0.heap.size)(hp:p<W0.heap.size):HeldF W0 q p x0 x1 x2 y0 y1 y2 w2:=by
 obtain⟨d0,d1,d2,e0,e1,e2,hB⟩:=h;have hs:=hB.size
 have m:∀i,w2.cell? ⟨q,i,none⟩=wc.cell? ⟨q,i,none⟩:=fun i=>hb.cell (p:=⟨q,i,none⟩) (zM hq hs)
 have m':∀i,w2.cell? ⟨p,i,none⟩=wc.cell? ⟨p,i,none⟩:=fun i=>hb.cell (p:=⟨p,i,none⟩) (zM hp hs)
 exact⟨(m _).trans d0,(m _).trans d1,(m _).trans d2,(m' _).trans e0,(m' _).trans e1,(m' _).trans e2,hB.trans (hb.mono hs)⟩
theorem HeldF.bl{W0 wc:World}{q p:Nat}{x0 x1 x2 y0 y1 y2:Value}(h:HeldF W0 q p x0 x1 x2 y0 y1 y2 wc):Below W0.heap.size W0 wc:=h.2.2.2.2.2.2
theorem HeldF.ls{W0 wc:World}{q p:Nat}{x0 x1 x2 y0 y1 y2 v:Value}{l:List Nat}(h:HeldF W0 q p x0 x1 x2 y0 y1 y2 wc)(hl:LS W0 (Bl W0.heap.size) v l):LS wc (Bl wc.heap.size) v l:=hl.below h.bl
theorem ftimes_any(va vb:Value)(n m:Nat)(w:World)(ha:LS w (Bl w.heap.size) va (natL n))(hb:LS w (Bl w.heap.size) vb (natL m))(hm:0<m)(hnm:n*m<4294967296) :
  Calls Tryz.prog 129 #[va,vb] w fun e w'=>∃u,e=.returned u/\LS w' (Fr w.heap.size w'.heap.size) u (natL (n*m))/\Below w.heap.size w w':=by
 have HM:=zh (nmul_any va vb n m w ha hb hm hnm);clear ha hb hnm;go_enter Tryz.func129,Tryz.ntmps129;go_wp2_with fail;refine HM.out.mono ?_;rintro e w1 ⟨u,rfl,hu,hb⟩;have HU:=zh hu;have HB:=zh hb;clear hu hb;go_wp2_with fail;go_ret;exact⟨_,rfl,HU.out,HB.out⟩
theorem len2{n m:Nat}(hn:n<4294967296)(hm:m<4294967296):(limbs (n*m)).length<=2:=by
 refine limbs_len _ 2 ?_;have:=Nat.mul_le_mul (show n<=4294967295 by omega) (show m<=4294967295 by omega);omega
theorem ncmpG_b(va vb:Value)(n m:Nat)(R R':Nat->Prop)(w:World)(ha:LS w R va (limbs n))(hb:LS w R' vb (limbs m))(h1:(limbs n).length<=2)(h2:(limbs m).length<=2) :
  Calls Tryz.prog 128 #[va,vb] w fun e w'=>e=.returned (.int .i64 (cmpI n m))/\Below w.heap.size w w':=by
 refine(ncmpL_any va vb (limbs n) (limbs m) R R' w ha hb (by omega) (by omega)).mono ?_;rw[nv_limbs,nv_limbs]
 exact fun e w' ⟨h1,k,h2⟩=>⟨h1,by rw[h2];exact Below.drewN' (zB _ _) k⟩
theorem ftimesG_any(va vb:Value)(n m:Nat)(w:World)(ha:LS w (Bl w.heap.size) va (natL n))(hb:LS w (Bl w.heap.size) vb (natL m))(hm:0<m) :
  Calls Tryz.prog 129 #[va,vb] w fun e w'=>∃u,e=.returned u/\LS w' (Fr w.heap.size w'.heap.size) u (limbs (n*m))/\Below w.heap.size w w':=by
 have HM:=zh (nmulG_any va vb n m w ha hb hm);clear ha hb;go_enter Tryz.func129,Tryz.ntmps129;go_wp2_with fail;refine HM.out.mono ?_;rintro e w1 ⟨u,rfl,hu,hb⟩;have HU:=zh hu;have HB:=zh hb;clear hu hb;go_wp2_with fail;go_ret;exact⟨_,rfl,HU.out,HB.out⟩
theorem fcmpG_any(xn xd yn yd:Value)(a b c d:Nat)(w:World)(hxn:LS w (Bl w.heap.size) xn (natL a))(hxd:LS w (Bl w.heap.size) xd (natL b))(hyn:LS w (Bl w.heap.size) yn (natL c))(hyd:LS w (Bl w.heap.size) yd (natL d))(h0b:0<b)(h0d:0<d) :
  Calls Tryz.prog 73 #[.agg #[.bool false,xn,xd],.agg #[.bool false,yn,yd]] w fun e w'=>e=.returned (.tuple #[.int .i64 (cmpI (a*d) (c*b)),.int .i64 0])/\Below w.heap.size w w':=by
 obtain⟨An,Nn,cn,rfl⟩:=hxn.frm;obtain⟨Ad,Nd,cd,rfl⟩:=hxd.frm;obtain⟨Bn,Mn,dn,rfl⟩:=hyn.frm;obtain⟨Bd,Md,dd,rfl⟩:=hyd.frm;obtain⟨W0,hW0⟩:=zx ((w.alloc (.cells #[.bool false,.slice An Nn cn,.slice Ad Nd cd] 26)).alloc (.cells #[.bool false,.slice Bn Mn dn,.slice Bd Md dd] 26));obtain⟨q,hq⟩:=zx w.heap.size;obtain⟨p,hp⟩:=zx (w.heap.size+1)
 have hb0:Below w.heap.size w W0:=by rw[hW0];exact((zB _ _).alloc (zR _) _).alloc (by simp) _
 have hpk:W0.heap[p]?=some (.cells #[.bool false,.slice Bn Mn dn,.slice Bd Md dd] 26 (0,0)):=by
  rw[hW0];exact heap_alloc_at _ _ _ (by rw[hp];simp)
 have hqk:W0.heap[q]?=some (.cells #[.bool false,.slice An Nn cn,.slice Ad Nd cd] 26 (0,0)):=by
  rw[hW0,hq];exact(zH _ _ _ (by simp)).trans (zN w _)
 have hpl:p<W0.heap.size:=(zA.1 hpk).1;have hql:q<W0.heap.size:=(zA.1 hqk).1;obtain⟨c0,c1,c2,-⟩:=cells3 hqk;obtain⟨d0,d1,d2,-⟩:=cells3 hpk;obtain⟨x1,hx1⟩:=zx (Value.slice An Nn cn);obtain⟨x2,hx2⟩:=zx (Value.slice Ad Nd cd);obtain⟨y1,hy1⟩:=zx (Value.slice Bn Mn dn);obtain⟨y2,hy2⟩:=zx (Value.slice Bd Md dd);have H1:=zh (hxn.below hb0);have H2:=zh (hxd.below hb0);have H3:=zh (hyn.below hb0);have H4:=zh (hyd.below hb0);have H5:=zh (And.intro (len2 hxn.lt32 hyd.lt32) (len2 hyn.lt32 hxd.lt32));have HW0:=zh hW0;have HQ:=zh (show q=w.heap.size/\p=w.heap.size+1 from⟨hq,hp⟩);have HQP:=zh (show q<W0.heap.size/\p<W0.heap.size from⟨hql,hpl⟩);have HB0:=zh hb0;clear hW0 hq hp hb0 hpk hqk hpl hql hxn hxd hyn hyd;go_enter Tryz.func73,Tryz.ntmps73;go_wp2_with fail;rw[<-HW0.out,<-HQ.out.2,<-HQ.out.1];clear HW0 HQ;rw[<-hx1] at H1 c1 ⊢;rw[<-hx2] at H2 c2 ⊢;rw[<-hy1] at H3 d1 ⊢;rw[<-hy2] at H4 d2 ⊢;have HH0:=zh (show HeldF W0 q p (.bool false) x1 x2 (.bool false) y1 y2 W0 from⟨c0,c1,c2,d0,d1,d2,zB _ _⟩);have HT1:=zh (fun W (h:HeldF W0 q p (.bool false) x1 x2 (.bool false) y1 y2 W)=>ftimesG_any x1 y2 a d W (h.ls H1.out) (h.ls H4.out) h0d);have HT2:=zh (fun W (h:HeldF W0 q p (.bool false) x1 x2 (.bool false) y1 y2 W)=>ftimesG_any y1 x2 c b W (h.ls H3.out) (h.ls H2.out) h0b);clear hx1 hx2 hy1 hy2 c0 c1 c2 d0 d1 d2;refine(fvalid_any false _ _ a b W0 H1.out H2.out h0b).mono ?_;rintro e w1 ⟨rfl,hb1⟩;have hh1:=HH0.out.below hb1 HQP.out.1 HQP.out.2;obtain⟨c0,c1,c2,d0,d1,d2,-⟩:=hh1;have HH1:=zh (HH0.out.below hb1 HQP.out.1 HQP.out.2);clear hb1;go_wp2_with fail;refine(fvalid_any false _ _ c d w1 (HH1.out.ls H3.out) (HH1.out.ls H4.out) h0d).mono ?_;rintro e w2 ⟨rfl,hb2⟩;have HS0:=zh (show HeldF W0 q p (.bool false) x1 x2 (.bool false) y1 y2 w2.drew from(by obtain⟨a1,a2,a3,a4,a5,a6,a7⟩:=HH1.out.below hb2 HQP.out.1 HQP.out.2;exact⟨a1,a2,a3,a4,a5,a6,a7.drew⟩));clear hb2 c0 c1 c2 d0 d1 d2;go_upto_region 3 with fail;refine region_tail (S:=(fun w'=>w'.cell? ⟨q,0,none⟩=some (.bool false)/\w'.cell? ⟨q,1,none⟩=some x1/\w'.cell? ⟨q,2,none⟩=some x2/\w'.cell? ⟨p,0,none⟩=some (.bool false)/\w'.cell? ⟨p,1,none⟩=some y1/\w'.cell? ⟨p,2,none⟩=some y2/\Below W0.heap.size W0 w')) [] (by kernel_rfl) HS0.out (fun hHeld=>?_);refine tk 0 17 ?_;refine tk 1 18 ?_;refine tk 2 19 ?_;refine tk 3 20 ?_;refine tk 5 22 ?_;refine tk 6 23 ?_;refine tk 7 24 ?_;refine tk 8 25 ?_;refine rd1 4 (fun K hK=>?_);go_simp;(go_at_call 129;refine(HT1.out _ (by assumption)).mono ?_;rintro e w5 ⟨u5,rfl,hu5,hb5⟩);go_wp2_with fail;refine hK.out _ _ ?_ (fun hHeld=>?_)
 ·(first|exact HeldF.below (by assumption) hb7 HQP.out.1 HQP.out.2|exact HeldF.below (by assumption) hb6 HQP.out.1 HQP.out.2|exact HeldF.below (by assumption) hb5 HQP.out.1 HQP.out.2)
 clear hK K;(try simp only[Act.put,z1,z2,z3]);refine rd1 9 (fun K hK=>?_);go_simp;(go_at_call 129;refine(HT2.out _ (by assumption)).mono ?_;rintro e w6 ⟨u6,rfl,hu6,hb6⟩);go_wp2_with fail;refine hK.out _ _ ?_ (fun hHeld=>?_)
 ·(first|exact HeldF.below (by assumption) hb7 HQP.out.1 HQP.out.2|exact HeldF.below (by assumption) hb6 HQP.out.1 HQP.out.2|exact HeldF.below (by assumption) hb5 HQP.out.1 HQP.out.2)
 clear hK K;(try simp only[Act.put,z1,z2,z3]);refine rd1 10 (fun K hK=>?_);go_simp;(go_at_call 128;refine(ncmpG_b _ _ (a*d) (c*b) _ _ _ (hu5.bel hb6) hu6 H5.out.1 H5.out.2).mono ?_;rintro e w7 ⟨rfl,hb7⟩);go_wp2_with fail;refine hK.out _ _ ?_ (fun hHeld=>?_)
 ·(first|exact HeldF.below (by assumption) hb7 HQP.out.1 HQP.out.2|exact HeldF.below (by assumption) hb6 HQP.out.1 HQP.out.2|exact HeldF.below (by assumption) hb5 HQP.out.1 HQP.out.2)
 clear hK K;(try simp only[Act.put,z1,z2,z3]);refine tk 11 6 ?_;refine doneT (by kernel_rfl) ?_ _;have HBZ:=zh (HeldF.bl (q:=q) (p:=p) (by assumption));obtain⟨d0,d1,d2,e0,e1,e2,-⟩:=hHeld;clear hu5 hu6 hb5 hb6 hb7;obtain⟨C,hC⟩:=zx (cmpI (a*d) (c*b));have HCC:=zh hC;rw[<-hC];clear hC;go_wp2_with fail
 go_quiet (fail)
 go_wp2_with fail;go_ret2;exact⟨by rw[HCC.out];rfl,by rw[show w7.drewN nq=w7.drewN nq from rfl];exact HB0.out.trans ((Below.drewN' HBZ.out nq).mono HB0.out.size)⟩
theorem fcmp_any(xn xd yn yd:Value)(a b c d:Nat)(w:World)(hxn:LS w (Bl w.heap.size) xn (natL a))(hxd:LS w (Bl w.heap.size) xd (natL b))(hyn:LS w (Bl w.heap.size) yn (natL c))(hyd:LS w (Bl w.heap.size) yd (natL d))(h0b:0<b)(h0d:0<d)(h1:a*d<4294967296)(h2:c*b<4294967296) :
  Calls Tryz.prog 73 #[.agg #[.bool false,xn,xd],.agg #[.bool false,yn,yd]] w fun e w'=>e=.returned (.tuple #[.int .i64 (cmpI (a*d) (c*b)),.int .i64 0])/\Below w.heap.size w w':=by
 exact fcmpG_any xn xd yn yd a b c d w hxn hxd hyn hyd h0b h0d
theorem nadd0_any(va vb:Value)(m:Nat)(w:World)(ha:LS w (Bl w.heap.size) va (natL 0))(hb:LS w (Bl w.heap.size) vb (natL m))(hm:0<m) :
  Calls Tryz.prog 164 #[va,vb] w fun e w'=>∃u,e=.returned (.tuple #[u,.int .i64 0])/\LS w' (Fr w.heap.size w'.heap.size) u (natL m)/\Below w.heap.size w w':=by
 have HLA:=zh (nlarge_any va _ _ w ha (by simp[natL_zero]));have HLB:=zh (nlarge_any vb _ _ w hb (by have:=natL_length m;omega));have HA:=zh (fun k=>nlength_any va _ _ (w.drewN k) ha (by simp[natL_zero]));have HB:=zh (fun k=>nlength_any vb _ _ (w.drewN k) hb (by have:=natL_length m;omega));rw[trim_natL] at HA HB;have hm32:=hb.lt32
 have lm:(natL m).length=1:=by rw[natL_pos hm];rfl
 obtain⟨B,d,rfl,-,-⟩:=hb.form;obtain⟨-,-,-,-,hd0,-⟩:=hb.cap (by rw[lm];omega);rw[lm] at hb HB HLB hd0 ⊢
 have hd1:(1:Int)<=(d:Int):=by omega
 obtain⟨b2,o2,rfl,hR2,hc2⟩:=hb.one hm;have HC2:=zh hc2;have HR2:=zh hR2;have hmk2:=mk_u32s2;have HA0:=zh (show ∀k,Calls Tryz.prog 159 #[va] (w.drewN k) fun e w'=>e=.returned (.int .i64 0)/\w.drewN k=w' from HA.out);have HB0:=zh (show ∀k,Calls Tryz.prog 159 #[.slice (some ⟨b2,o2,none⟩) 1 d] (w.drewN k) fun e w'=>e=.returned (.int .i64 1)/\w.drewN k=w' from HB.out);clear hb lm hc2 hR2 hd0 HB HA;rcases ha.1 with ⟨rfl,-⟩ | ⟨b1,o1,c,hva,-,-,-,-⟩
 ·clear ha;go_enter Tryz.func164,Tryz.ntmps164;go_wp2_with fail;refine HLA.out.mono ?_;rintro e w1 ⟨rfl,rfl⟩;go_wp2_with fail;refine HLB.out.mono ?_;rintro e w1 ⟨rfl,rfl⟩;go_wp2_with fail
  go_quiet (first | with_reducible exact Calls.quiet_of_same ((HA0.out _).mono fun _ _ h=>⟨h.1,h.2.symm⟩) | with_reducible exact Calls.quiet_of_same ((HB0.out _).mono fun _ _ h=>⟨h.1,h.2.symm⟩))
  obtain⟨W,hW⟩:=zx (w.drewN nq);rw[<-hW]
  have hbW:Below w.heap.size w W:=by rw[hW];exact Below.drewN' (zB _ _) nq
  have HBW:=zh hbW;clear hbW hW;obtain⟨W3,hW3⟩:=zx (W.alloc (.cells #[.int .u32 0,.int .u32 0] 107));obtain⟨g,hg⟩:=zx W.heap.size
  have hg3:W3.heap[g]?=some (.cells #[.int .u32 0,.int .u32 0] 107 (0,0)):=by rw[hW3,hg];exact zN _ _
  have HB3:=zh (show Below w.heap.size w W3 from by rw[hW3];exact HBW.out.alloc HBW.out.size _);have HG:=zh (show w.heap.size<=g from by rw[hg];exact HBW.out.size);have k2:W3.cell? ⟨b2,o2,none⟩=some (.int .u32 (m:Int)):=(HB3.out.cell (p:=⟨b2,o2,none⟩) HR2.out).trans HC2.out
  have kg0:W3.cell? ⟨g,0,none⟩=some (.int .u32 0):=by rw[cell_of_row _ _ _ _ _ _ hg3];rfl
  have kf0:W3.frozen? ⟨g,0,none⟩=false:=frozen_of_row _ _ _ _ _ hg3;have HG3:=zh hg3;have HW3:=zh hW3;have HGW:=zh hg
  have m0:(0:Int)<=(m:Int):=by omega
  have m1:(m:Int)<4294967296:=by omega
  have hdiv:(m:Int) / 4294967296=0:=by omega
  clear hg3 hW3 hg;go_upto_region 7 with fail;rw[<-HGW.out,<-HW3.out];clear hmk2;go_wp2_with fail;go_loopg [7,8,36] 1 (fun z v7 v8 v36 wr=>(z=1/\v36=.int .i64 0/\v7=.int .u64 0/\W3=wr)\/(z=0/\v36=.int .i64 1/\v7=.int .u64 0/\Hid (wr.heap[g]?=some (.cells #[.int .u32 (m:Int),.int .u32 0] 107 (0,0)))/\Hid (Below w.heap.size w wr)))
  case atStart=>exact .inl ⟨rfl,rfl,rfl,rfl⟩
  case round =>
   rcases hrel with ⟨rfl,rfl,rfl,rfl⟩ | ⟨rfl,rfl,rfl,hgc,hbr⟩
   ·go_wp2_with fail;go_roundg 0
    case measure=>omega
    case rel=>exact .inr ⟨rfl,rfl,rfl,heap_setCell_same W3 g 0 _ _ _ HG3.out,HB3.out.setCell HG.out _⟩
   ·clear k2 kg0 kf0
    have kg1:wr.cell? ⟨g,1,none⟩=some (.int .u32 0):=by rw[cell_of_row _ _ _ _ _ _ hgc.out];rfl
    have kf1:wr.frozen? ⟨g,1,none⟩=false:=frozen_of_row _ _ _ _ _ hgc.out;obtain⟨W4,hW4⟩:=zx (wr.setCell ⟨g,1,none⟩ (.int .u32 0))
    have hg4:W4.heap[g]?=some (.cells #[.int .u32 (m:Int),.int .u32 0] 107 (0,0)):=by rw[hW4];exact heap_setCell_same wr g 1 _ _ _ hgc.out
    have HB4:=zh (show Below w.heap.size w W4 from by rw[hW4];exact hbr.out.setCell HG.out _);have hgl:g<W4.heap.size:=(zA.1 hg4).1;have hls:LS W4 (Bl W4.heap.size) (.slice (some ⟨g,0,none⟩) 2 2) [m,0]:=LS.cell2 W4 g m (by omega) hg4 _ hgl;have HS:=zh (nsized_any _ _ _ _ _ W4 hls (by simp) (by simp))
    have hr:=((hls.take (natL m).length (natL m).length (by have:=natL_length m;simp;omega) (zR _) (by have:=natL_length m;unfold maxLen;omega) (by simp)).only (R':=Fr w.heap.size W4.heap.size) (fun b o hb=>by
     injection hb with hb;injection hb with hb;rw[<-hb]
     exact⟨HG.out,hgl⟩))
    rw[trim_zero2] at HS
    have ht:[m,0].take (natL m).length=natL m:=by rw[natL_pos hm];rfl
    rw[ht] at hr;have HR:=zh hr;have HW4:=zh hW4;clear hls hr ht hgc hbr hgl hg4 hW4;go_upto_region 18 with fail;rw[<-HW4.out];clear kg1 kf1;go_wp2_with fail;refine HS.out.mono ?_;rintro e w4 ⟨rfl,rfl⟩;go_wp2_with fail;go_ret2;exact⟨_,rfl,HR.out,HB4.out⟩
 ·have hva2:va=.slice (some ⟨b1,o1,none⟩) 0 c:=hva;subst hva2;clear ha hva;go_enter Tryz.func164,Tryz.ntmps164;go_wp2_with fail;refine HLA.out.mono ?_;rintro e w1 ⟨rfl,rfl⟩;go_wp2_with fail;refine HLB.out.mono ?_;rintro e w1 ⟨rfl,rfl⟩;go_wp2_with fail
  go_quiet (first | with_reducible exact Calls.quiet_of_same ((HA0.out _).mono fun _ _ h=>⟨h.1,h.2.symm⟩) | with_reducible exact Calls.quiet_of_same ((HB0.out _).mono fun _ _ h=>⟨h.1,h.2.symm⟩))
  obtain⟨W,hW⟩:=zx (w.drewN nq);rw[<-hW]
  have hbW:Below w.heap.size w W:=by rw[hW];exact Below.drewN' (zB _ _) nq
  have HBW:=zh hbW;clear hbW hW;obtain⟨W3,hW3⟩:=zx (W.alloc (.cells #[.int .u32 0,.int .u32 0] 107));obtain⟨g,hg⟩:=zx W.heap.size
  have hg3:W3.heap[g]?=some (.cells #[.int .u32 0,.int .u32 0] 107 (0,0)):=by rw[hW3,hg];exact zN _ _
  have HB3:=zh (show Below w.heap.size w W3 from by rw[hW3];exact HBW.out.alloc HBW.out.size _);have HG:=zh (show w.heap.size<=g from by rw[hg];exact HBW.out.size);have k2:W3.cell? ⟨b2,o2,none⟩=some (.int .u32 (m:Int)):=(HB3.out.cell (p:=⟨b2,o2,none⟩) HR2.out).trans HC2.out
  have kg0:W3.cell? ⟨g,0,none⟩=some (.int .u32 0):=by rw[cell_of_row _ _ _ _ _ _ hg3];rfl
  have kf0:W3.frozen? ⟨g,0,none⟩=false:=frozen_of_row _ _ _ _ _ hg3;have HG3:=zh hg3;have HW3:=zh hW3;have HGW:=zh hg
  have m0:(0:Int)<=(m:Int):=by omega
  have m1:(m:Int)<4294967296:=by omega
  have hdiv:(m:Int) / 4294967296=0:=by omega
  clear hg3 hW3 hg;go_upto_region 7 with fail;rw[<-HGW.out,<-HW3.out];clear hmk2;go_wp2_with fail;go_loopg [7,8,36] 1 (fun z v7 v8 v36 wr=>(z=1/\v36=.int .i64 0/\v7=.int .u64 0/\W3=wr)\/(z=0/\v36=.int .i64 1/\v7=.int .u64 0/\Hid (wr.heap[g]?=some (.cells #[.int .u32 (m:Int),.int .u32 0] 107 (0,0)))/\Hid (Below w.heap.size w wr)))
  case atStart=>exact .inl ⟨rfl,rfl,rfl,rfl⟩
  case round =>
   rcases hrel with ⟨rfl,rfl,rfl,rfl⟩ | ⟨rfl,rfl,rfl,hgc,hbr⟩
   ·go_wp2_with fail;go_roundg 0
    case measure=>omega
    case rel=>exact .inr ⟨rfl,rfl,rfl,heap_setCell_same W3 g 0 _ _ _ HG3.out,HB3.out.setCell HG.out _⟩
   ·clear k2 kg0 kf0
    have kg1:wr.cell? ⟨g,1,none⟩=some (.int .u32 0):=by rw[cell_of_row _ _ _ _ _ _ hgc.out];rfl
    have kf1:wr.frozen? ⟨g,1,none⟩=false:=frozen_of_row _ _ _ _ _ hgc.out;obtain⟨W4,hW4⟩:=zx (wr.setCell ⟨g,1,none⟩ (.int .u32 0))
    have hg4:W4.heap[g]?=some (.cells #[.int .u32 (m:Int),.int .u32 0] 107 (0,0)):=by rw[hW4];exact heap_setCell_same wr g 1 _ _ _ hgc.out
    have HB4:=zh (show Below w.heap.size w W4 from by rw[hW4];exact hbr.out.setCell HG.out _);have hgl:g<W4.heap.size:=(zA.1 hg4).1;have hls:LS W4 (Bl W4.heap.size) (.slice (some ⟨g,0,none⟩) 2 2) [m,0]:=LS.cell2 W4 g m (by omega) hg4 _ hgl;have HS:=zh (nsized_any _ _ _ _ _ W4 hls (by simp) (by simp))
    have hr:=((hls.take (natL m).length (natL m).length (by have:=natL_length m;simp;omega) (zR _) (by have:=natL_length m;unfold maxLen;omega) (by simp)).only (R':=Fr w.heap.size W4.heap.size) (fun b o hb=>by
     injection hb with hb;injection hb with hb;rw[<-hb]
     exact⟨HG.out,hgl⟩))
    rw[trim_zero2] at HS
    have ht:[m,0].take (natL m).length=natL m:=by rw[natL_pos hm];rfl
    rw[ht] at hr;have HR:=zh hr;have HW4:=zh hW4;clear hls hr ht hgc hbr hgl hg4 hW4;go_upto_region 18 with fail;rw[<-HW4.out];clear kg1 kf1;go_wp2_with fail;refine HS.out.mono ?_;rintro e w4 ⟨rfl,rfl⟩;go_wp2_with fail;go_ret2;exact⟨_,rfl,HR.out,HB4.out⟩
theorem fadd0_any(xn xd yn yd:Value)(b c d:Nat)(w:World)(hxn:LS w (Bl w.heap.size) xn (natL 0))(hxd:LS w (Bl w.heap.size) xd (natL b))(hyn:LS w (Bl w.heap.size) yn (natL c))(hyd:LS w (Bl w.heap.size) yd (natL d))(h0b:0<b)(h0c:0<c)(h0d:0<d)(h2:c*b<4294967296)(h3:b*d<4294967296)(hg:Nat.gcd (c*b) (b*d)=1) :
  Calls Tryz.prog 133 #[.agg #[.bool false,xn,xd],.agg #[.bool false,yn,yd]] w fun e w'=>∃un um,e=.returned (.tuple #[.agg #[.bool false,un,um],.int .i64 0])/\LS w' (Fr w.heap.size w'.heap.size) un (natL (c*b))/\LS w' (Fr w.heap.size w'.heap.size) um (natL (b*d))/\Below w.heap.size w w':=by
 obtain⟨An,Nn,cn,rfl⟩:=hxn.frm;obtain⟨Ad,Nd,cd,rfl⟩:=hxd.frm;obtain⟨Bn,Mn,dn,rfl⟩:=hyn.frm;obtain⟨Bd,Md,dd,rfl⟩:=hyd.frm;obtain⟨W0,hW0⟩:=zx (((w.alloc (.cells #[.bool false,.slice An Nn cn,.slice Ad Nd cd] 26)).alloc (.cells #[.bool false,.slice Bn Mn dn,.slice Bd Md dd] 26)).alloc (.cells #[.bool false,.slice none 0 0,.slice none 0 0] 26));obtain⟨q,hq⟩:=zx w.heap.size;obtain⟨p,hp⟩:=zx (w.heap.size+1);obtain⟨g,hgq⟩:=zx (w.heap.size+1+1)
 have hb0:Below w.heap.size w W0:=by rw[hW0];exact(((zB _ _).alloc (zR _) _).alloc (by simp) _).alloc (by simp;omega) _
 have hgk:W0.heap[g]?=some (.cells #[.bool false,.slice none 0 0,.slice none 0 0] 26 (0,0)):=by
  rw[hW0];exact heap_alloc_at _ _ _ (by rw[hgq];simp)
 have hpk:W0.heap[p]?=some (.cells #[.bool false,.slice Bn Mn dn,.slice Bd Md dd] 26 (0,0)):=by
  rw[hW0];exact(zH _ _ _ (by rw[hp];simp)).trans (heap_alloc_at _ _ _ (by rw[hp];simp))
 have hqk:W0.heap[q]?=some (.cells #[.bool false,.slice An Nn cn,.slice Ad Nd cd] 26 (0,0)):=by
  rw[hW0,hq];exact(zH _ _ _ (by simp;omega)).trans ((zH _ _ _ (by simp)).trans (zN w _))
 have hgl:g<W0.heap.size:=(zA.1 hgk).1;have hpl:p<W0.heap.size:=(zA.1 hpk).1;have hql:q<W0.heap.size:=(zA.1 hqk).1;obtain⟨c0,c1,c2,-⟩:=cells3 hqk;obtain⟨d0,d1,d2,-⟩:=cells3 hpk;obtain⟨x1,hx1⟩:=zx (Value.slice An Nn cn);obtain⟨x2,hx2⟩:=zx (Value.slice Ad Nd cd);obtain⟨y1,hy1⟩:=zx (Value.slice Bn Mn dn);obtain⟨y2,hy2⟩:=zx (Value.slice Bd Md dd);have H1:=zh (hxn.below hb0);have H2:=zh (hxd.below hb0);have H3:=zh (hyn.below hb0);have H4:=zh (hyd.below hb0);have HW0:=zh hW0;have HQ:=zh (show q=w.heap.size/\p=w.heap.size+1/\g=w.heap.size+1+1 from⟨hq,hp,hgq⟩);have HGL:=zh (show g<W0.heap.size/\g=w.heap.size+1+1 from⟨hgl,hgq⟩);have HBK:=zh hgk;have HQP:=zh (show q<W0.heap.size/\p<W0.heap.size from⟨hql,hpl⟩);have HB0:=zh hb0;clear hW0 hq hp hb0 hpk hqk hpl hql hxn hxd hyn hyd hgl hgk hgq;go_enter Tryz.func133,Tryz.ntmps133;go_wp2_with fail;rw[<-HW0.out,<-HQ.out.2.2,<-HQ.out.2.1,<-HQ.out.1];clear HW0 HQ;rw[<-hx1] at H1 c1 ⊢;rw[<-hx2] at H2 c2 ⊢;rw[<-hy1] at H3 d1 ⊢;rw[<-hy2] at H4 d2 ⊢;have HH0:=zh (show HeldF W0 q p (.bool false) x1 x2 (.bool false) y1 y2 W0 from⟨c0,c1,c2,d0,d1,d2,zB _ _⟩);have HT1:=zh (fun W (h:HeldF W0 q p (.bool false) x1 x2 (.bool false) y1 y2 W)=>ftimes_any x1 y2 0 d W (h.ls H1.out) (h.ls H4.out) h0d (by omega));have HT2:=zh (fun W (h:HeldF W0 q p (.bool false) x1 x2 (.bool false) y1 y2 W)=>ftimes_any y1 x2 c b W (h.ls H3.out) (h.ls H2.out) h0b h2);have HT3:=zh (fun W (h:HeldF W0 q p (.bool false) x1 x2 (.bool false) y1 y2 W)=>ftimes_any x2 y2 b d W (h.ls H2.out) (h.ls H4.out) h0d h3);clear hx1 hx2 hy1 hy2 c0 c1 c2 d0 d1 d2 h2 h3;refine(fvalid_any false _ _ 0 b W0 H1.out H2.out h0b).mono ?_;rintro e w1 ⟨rfl,hb1⟩;have hh1:=HH0.out.below hb1 HQP.out.1 HQP.out.2;obtain⟨c0,c1,c2,d0,d1,d2,-⟩:=hh1;have HH1:=zh (HH0.out.below hb1 HQP.out.1 HQP.out.2);clear hb1;go_wp2_with fail;refine(fvalid_any false _ _ c d w1 (HH1.out.ls H3.out) (HH1.out.ls H4.out) h0d).mono ?_;rintro e w2 ⟨rfl,hb2⟩;have HS0:=zh (show HeldF W0 q p (.bool false) x1 x2 (.bool false) y1 y2 w2.drew from(by obtain⟨a1,a2,a3,a4,a5,a6,a7⟩:=HH1.out.below hb2 HQP.out.1 HQP.out.2;exact⟨a1,a2,a3,a4,a5,a6,a7.drew⟩));clear hb2 c0 c1 c2 d0 d1 d2;go_upto_region 3 with fail;refine region_tail (S:=(fun w'=>w'.cell? ⟨q,0,none⟩=some (.bool false)/\w'.cell? ⟨q,1,none⟩=some x1/\w'.cell? ⟨q,2,none⟩=some x2/\w'.cell? ⟨p,0,none⟩=some (.bool false)/\w'.cell? ⟨p,1,none⟩=some y1/\w'.cell? ⟨p,2,none⟩=some y2/\Below W0.heap.size W0 w')) [] (by kernel_rfl) HS0.out (fun hHeld=>?_);refine tk 0 24 ?_;refine tk 1 25 ?_;refine tk 2 26 ?_;refine tk 3 27 ?_;refine tk 5 29 ?_;refine tk 6 30 ?_;refine tk 7 31 ?_;refine tk 8 32 ?_;refine tk 10 34 ?_;refine tk 11 35 ?_;refine tk 12 36 ?_;refine tk 13 37 ?_;refine rd1 4 (fun K hK=>?_);go_simp;(go_at_call 129;refine(HT1.out _ (by assumption)).mono ?_;rintro e w5 ⟨u5,rfl,hu5,hb5⟩);go_wp2_with fail;refine hK.out _ _ ?_ (fun hHeld=>?_)
 ·(first|exact HeldF.below (by assumption) hb7 HQP.out.1 HQP.out.2|exact HeldF.below (by assumption) hb6 HQP.out.1 HQP.out.2|exact HeldF.below (by assumption) hb5 HQP.out.1 HQP.out.2)
 clear hK K;(try simp only[Act.put,z1,z2,z3]);refine rd1 9 (fun K hK=>?_);go_simp;(go_at_call 129;refine(HT2.out _ (by assumption)).mono ?_;rintro e w6 ⟨u6,rfl,hu6,hb6⟩);go_wp2_with fail;refine hK.out _ _ ?_ (fun hHeld=>?_)
 ·(first|exact HeldF.below (by assumption) hb7 HQP.out.1 HQP.out.2|exact HeldF.below (by assumption) hb6 HQP.out.1 HQP.out.2|exact HeldF.below (by assumption) hb5 HQP.out.1 HQP.out.2)
 clear hK K;(try simp only[Act.put,z1,z2,z3]);refine rd1 14 (fun K hK=>?_);go_simp;(go_at_call 129;refine(HT3.out _ (by assumption)).mono ?_;rintro e w7 ⟨u7,rfl,hu7,hb7⟩);go_wp2_with fail;refine hK.out _ _ ?_ (fun hHeld=>?_)
 ·(first|exact HeldF.below (by assumption) hb7 HQP.out.1 HQP.out.2|exact HeldF.below (by assumption) hb6 HQP.out.1 HQP.out.2|exact HeldF.below (by assumption) hb5 HQP.out.1 HQP.out.2)
 clear hK K;(try simp only[Act.put,z1,z2,z3]);refine tk 15 6 ?_;refine tk 16 7 ?_;refine tk 17 8 ?_;refine doneT (by kernel_rfl) ?_ _;have HBZ:=zh (HeldF.bl (q:=q) (p:=p) (by assumption));obtain⟨d0,d1,d2,e0,e1,e2,-⟩:=hHeld;have HU5:=zh ((hu5.bel hb6).bel hb7);have HU6:=zh (hu6.bel hb7);have HU7:=zh hu7;clear hu5 hu6 hu7 hb5 hb6 hb7;rw[Nat.zero_mul] at HU5;have HA:=zh (nadd0_any u5 u6 (c*b) w7 (HU5.out.mono Fr.bl) (HU6.out.mono Fr.bl) (Nat.mul_pos h0c h0b));obtain⟨W7,hW7⟩:=zx w7;go_wp2_with fail;refine HA.out.mono ?_;rintro e w8 ⟨u8,rfl,hu8,hb8⟩;have HU8:=zh hu8;have HU78:=zh (HU7.out.bel hb8);have hb08:=HBZ.out.trans (hb8.mono HBZ.out.size);have l0:w8.cell? ⟨q,0,none⟩=some (.bool false):=(hb8.cell (p:=⟨q,0,none⟩) (zM HQP.out.1 HBZ.out.size)).trans d0;have HB8:=zh hb08;have HL:=zh (flowest_any u8 u7 (c*b) (b*d) w8 (HU8.out.mono Fr.bl) (HU78.out.mono Fr.bl) (Nat.mul_pos h0b h0d) hg);clear hu8 hb8 hb08 d0 d1 d2 e0 e1 e2 hW7;go_wp2_with fail;refine HL.out.mono ?_;rintro e w9 ⟨un,um,rfl,hun,hum,hb9⟩;obtain⟨A3,N3,c3,rfl⟩:=hun.frm;obtain⟨A4,N4,c4,rfl⟩:=hum.frm;have hb19:=HB8.out.trans (hb9.mono HB8.out.size);have hk:=(hb19.block g HGL.out.1).trans HBK.out;obtain⟨m0,m1,m2,f0,f1,f2⟩:=cells3 hk;have hbw:=HB0.out.trans (hb19.mono HB0.out.size)
 have hgw:w.heap.size<=g:=by rw[HGL.out.2];omega
 have hs0:=HB0.out.size;have hs1:=HB8.out.size;have HX:=zh (box3 hk hbw hgw (.bool false) (.slice A3 N3 c3) (.slice A4 N4 c4) hun (fun b hb=>⟨by have:=hb.1;have:=HGL.out.1;omega,by have:=hb.1;omega,hb.2⟩) hum (fun b hb=>⟨by have:=hb.1;have:=HGL.out.1;omega,by have:=hb.1;omega,hb.2⟩));clear hun hum hb9 hb19 hk hbw hgw hs0 hs1 l0;go_wp2_with fail;obtain⟨Wf,hWf⟩:=zx (((w9.setCell ⟨g,0,none⟩ (.bool false)).setCell ⟨g,1,none⟩ (.slice A3 N3 c3)).setCell ⟨g,2,none⟩ (.slice A4 N4 c4));obtain⟨x0,x1,x2,hl1,hl2,hbf⟩:=HX.out Wf hWf;rw[<-hWf];clear hWf m0 m1 m2 f0 f1 f2;exact bodyPost_ret (v:=.tuple #[.agg #[.bool false,.slice A3 N3 c3,.slice A4 N4 c4],.int .i64 0]) (by simp[results,Tryz.results133,go_sem,x0,x1,x2]) rfl ⟨_,_,rfl,hl1,hl2,hbf⟩
theorem three{cs:List Value}{a b c:Value}{w:World}{p o:Nat}(h:∀i c,cs[i]?=some c->w.cell? ⟨p,o+i,none⟩=some c)(e:cs=[a,b,c]) :
  w.cell? ⟨p,o,none⟩=some a/\w.cell? ⟨p,o+1,none⟩=some b/\w.cell? ⟨p,o+2,none⟩=some c:=by
 subst e;exact⟨h 0 _ rfl,h 1 _ rfl,h 2 _ rfl⟩
theorem fall_lim(v:Value)(xs:List Frc)(w:World)(h:SlS 3 FrcK w (Bl w.heap.size) v xs)
  (hK:∀(W:World) (x:Frc) (vn vd:Value),x∈xs->LS W (Bl W.heap.size) vn (natL x.num)->LS W (Bl W.heap.size) vd (natL x.den)->Calls Tryz.prog 89 #[.agg #[.bool x.neg,vn,vd]] W fun e w'=>e=.returned (.bool true)/\Below W.heap.size W w') :
  Calls Tryz.prog 91 #[v,.func (.func 89) #[] #[]] w fun e w'=>e=.returned (.bool true)/\Below w.heap.size w w':=by
 obtain⟨A,c,rfl,-,hm⟩:=h.form;unfold maxLen at hm;have HL:=zh h;have HK:=zh hK;clear h hK;go_enter Tryz.func91,Tryz.ntmps91;go_wp2_with fail;go_loopg [6,9] xs.length (fun z v6 v9 wr=>∃j:Nat,j<=xs.length/\z=xs.length-j/\v9=.int .i64 (j:Int)/\Hid (Below w.heap.size w wr))
 case atStart=>exact⟨0,by omega,rfl,rfl,zB _ _⟩
 case round =>
  obtain⟨j,hj,rfl,rfl,HB⟩:=hrel;by_cases hlt:j<xs.length
  ·obtain⟨b,off,cs,rfl,hR,-,hc,vn,vd,hcs,hn,hd⟩:=(SlS.keep frcK HL.out (kept_below HB.out)).at_ hlt;obtain⟨k0,k1,k2⟩:=three hc hcs;have hmem:xs[j]∈xs:=List.getElem_mem hlt;obtain⟨An,Nn,cn,rfl⟩:=hn.frm;obtain⟨Ad,Nd,cd,rfl⟩:=hd.frm;have hsz:=HB.out.size;generalize hx:xs[j]=x at *;obtain⟨neg,hneg⟩:=zx x.neg;rw[<-hneg] at k0;obtain⟨W1,hW1⟩:=zx (wr.alloc (.cells #[.bool neg,.slice An Nn cn,.slice Ad Nd cd] 26))
   have hb1:Below wr.heap.size wr W1:=by rw[hW1];exact(zB _ _).alloc (zR _) _
   have hn1:=((hn.mono (Bl.mono hsz)).below hb1);have hd1:=((hd.mono (Bl.mono hsz)).below hb1);have HC:=zh (HK.out W1 x _ _ hmem hn1 hd1);rw[<-hneg] at HC;have HB1:=zh (HB.out.trans (hb1.mono hsz));have HW1:=zh hW1;clear hc hcs hn hd hb1 hn1 hd1 hmem hW1 hneg hx hsz;go_wp2_with fail;rw[<-HW1.out];refine HC.out.mono ?_;rintro e w2 ⟨rfl,hb2⟩;have HB2:=zh (HB1.out.trans (hb2.mono HB1.out.size));clear hb2 k0 k1 k2;go_wp2_with fail;go_roundg (xs.length-(j+1))
   case measure=>omega
   case rel=>exact⟨j+1,by omega,rfl,by go_num,HB2⟩
  ·go_wp2_with fail;go_ret;exact⟨rfl,HB.out⟩
theorem fall_rate(v:Value)(xs:List Frc)(w:World)(h:SlS 3 FrcK w (Bl w.heap.size) v xs)
  (hK:∀(W:World) (x:Frc) (vn vd:Value),x∈xs->LS W (Bl W.heap.size) vn (natL x.num)->LS W (Bl W.heap.size) vd (natL x.den)->Calls Tryz.prog 138 #[.agg #[.bool x.neg,vn,vd]] W fun e w'=>e=.returned (.bool true)/\Below W.heap.size W w') :
  Calls Tryz.prog 91 #[v,.func (.func 138) #[] #[]] w fun e w'=>e=.returned (.bool true)/\Below w.heap.size w w':=by
 obtain⟨A,c,rfl,-,hm⟩:=h.form;unfold maxLen at hm;have HL:=zh h;have HK:=zh hK;clear h hK;go_enter Tryz.func91,Tryz.ntmps91;go_wp2_with fail;go_loopg [6,9] xs.length (fun z v6 v9 wr=>∃j:Nat,j<=xs.length/\z=xs.length-j/\v9=.int .i64 (j:Int)/\Hid (Below w.heap.size w wr))
 case atStart=>exact⟨0,by omega,rfl,rfl,zB _ _⟩
 case round =>
  obtain⟨j,hj,rfl,rfl,HB⟩:=hrel;by_cases hlt:j<xs.length
  ·obtain⟨b,off,cs,rfl,hR,-,hc,vn,vd,hcs,hn,hd⟩:=(SlS.keep frcK HL.out (kept_below HB.out)).at_ hlt;obtain⟨k0,k1,k2⟩:=three hc hcs;have hmem:xs[j]∈xs:=List.getElem_mem hlt;obtain⟨An,Nn,cn,rfl⟩:=hn.frm;obtain⟨Ad,Nd,cd,rfl⟩:=hd.frm;have hsz:=HB.out.size;generalize hx:xs[j]=x at *;obtain⟨neg,hneg⟩:=zx x.neg;rw[<-hneg] at k0;obtain⟨W1,hW1⟩:=zx (wr.alloc (.cells #[.bool neg,.slice An Nn cn,.slice Ad Nd cd] 26))
   have hb1:Below wr.heap.size wr W1:=by rw[hW1];exact(zB _ _).alloc (zR _) _
   have hn1:=((hn.mono (Bl.mono hsz)).below hb1);have hd1:=((hd.mono (Bl.mono hsz)).below hb1);have HC:=zh (HK.out W1 x _ _ hmem hn1 hd1);rw[<-hneg] at HC;have HB1:=zh (HB.out.trans (hb1.mono hsz));have HW1:=zh hW1;clear hc hcs hn hd hb1 hn1 hd1 hmem hW1 hneg hx hsz;go_wp2_with fail;rw[<-HW1.out];refine HC.out.mono ?_;rintro e w2 ⟨rfl,hb2⟩;have HB2:=zh (HB1.out.trans (hb2.mono HB1.out.size));clear hb2 k0 k1 k2;go_wp2_with fail;go_roundg (xs.length-(j+1))
   case measure=>omega
   case rel=>exact⟨j+1,by omega,rfl,by go_num,HB2⟩
  ·go_wp2_with fail;go_ret;exact⟨rfl,HB.out⟩
theorem frate_any(va vb:Value)(n m:Nat)(w:World)(ha:LS w (Bl w.heap.size) va (natL n))(hb:LS w (Bl w.heap.size) vb (natL m))(hn:0<n)(hm:0<m)(hg:Nat.gcd n m=1) :
  Calls Tryz.prog 138 #[.agg #[.bool false,va,vb]] w fun e w'=>e=.returned (.bool true)/\Below w.heap.size w w':=by
 obtain⟨An,Nn,cn,rfl⟩:=ha.frm;obtain⟨Ad,Nd,cd,rfl⟩:=hb.frm;obtain⟨W0,hW0⟩:=zx (w.alloc (.cells #[.bool false,.slice An Nn cn,.slice Ad Nd cd] 26));obtain⟨q,hq⟩:=zx w.heap.size
 have hb0:Below w.heap.size w W0:=by rw[hW0];exact(zB _ _).alloc (zR _) _
 have hbk:W0.heap[q]?=some (.cells #[.bool false,.slice An Nn cn,.slice Ad Nd cd] 26 (0,0)):=by rw[hW0,hq];exact zN _ _
 obtain⟨c0,c1,c2,-⟩:=cells3 hbk;have hql:q<W0.heap.size:=(zA.1 hbk).1;have HA0:=zh (ha.below hb0);have HBV:=zh (hb.below hb0);have HL:=zh (flimits_any _ _ n m W0 HA0.out HBV.out hm hg);have HW0:=zh hW0;have HQ:=zh hq;have HB0:=zh hb0;have HQL:=zh hql;clear ha hb hW0 hq hb0 hbk hql;go_enter Tryz.func138,Tryz.ntmps138;go_wp2_with fail;rw[<-HW0.out,<-HQ.out];refine HL.out.mono ?_;rintro e w1 ⟨rfl,hb1⟩;have k0:w1.cell? ⟨q,0,none⟩=some (.bool false):=(hb1.cell (p:=⟨q,0,none⟩) HQL.out).trans c0;have k1:w1.cell? ⟨q,1,none⟩=some (.slice An Nn cn):=(hb1.cell (p:=⟨q,1,none⟩) HQL.out).trans c1;have k2:w1.cell? ⟨q,2,none⟩=some (.slice Ad Nd cd):=(hb1.cell (p:=⟨q,2,none⟩) HQL.out).trans c2;have HV:=zh (fabove_any false _ _ n m w1 (HA0.out.below hb1) (HBV.out.below hb1));rw[decide_eq_true hn] at HV;have HB1:=zh (HB0.out.trans (hb1.mono HB0.out.size));clear hb1 c0 c1 c2;go_wp2_with fail;refine HV.out.mono ?_;rintro e w2 ⟨rfl,hb2⟩;have HB2:=zh (HB1.out.trans (hb2.mono HB1.out.size));clear hb2 k0 k1 k2;go_wp2_with fail;go_ret;exact⟨rfl,HB2.out⟩
end Go.Proofs.YtgfaieppacabjaaGreat
