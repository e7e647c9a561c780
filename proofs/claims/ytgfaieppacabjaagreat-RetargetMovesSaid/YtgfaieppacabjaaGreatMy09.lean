/- slices.Clone at whatever element type: laid from the kit's shelf. -/
import Derived.Shelf.SlicesE.Clone
import Derived.Test.YtgfaieppacabjaaGreatMy07
set_option linter.unusedSectionVars false
set_option maxRecDepth 100000
set_option maxHeartbeats 12800000
namespace Go.Proofs.YtgfaieppacabjaaGreat
open Go.RowKit Go.Shelf
set_option linter.unusedVariables false
set_option linter.unusedSimpArgs false
theorem slat_flat{α:Type}{size:Nat}{K:World->(Nat->Prop)->List Value->α->Prop}{w:World}{R:Nat->Prop}{es:List α}{b off:Nat}(h:SlAt size K w R es b off):∀m,m<=es.length->∃news:List Value,news.length=m*size/\(∀j u,news[j]?=some u->w.cell? ⟨b,off+j,none⟩=some u)/\(∀k a,k<m->es[k]?=some a->∃c,c.length=size/\(∀i u,c[i]?=some u->news[k*size+i]?=some u)/\K w R c a)/\∀u∈news,∃a c,u∈c/\K w R c a
 | 0,_=>⟨[],by simp,fun j u h=>by simp at h,fun k a h=>by omega,fun u h=>by cases h⟩
 | m+1,hm=>by
  obtain⟨news,h1,h2,h3,h4⟩:=slat_flat h m (by omega);obtain⟨cs,g1,g2,g3⟩:=h m es[m] (zG (by omega));refine⟨news++cs,by rw[zP,h1,g1,Nat.succ_mul],fun j u hj=>?_,fun k a hk ha=>?_,fun u hu=>?_⟩
  ·rcases Nat.lt_or_ge j news.length with hlt | hge
   ·rw[List.getElem?_append_left hlt] at hj;exact h2 j u hj
   ·rw[List.getElem?_append_right hge] at hj;have:=g2 _ u hj;rw[h1] at this;rw[show off+j=off+m*size+(j-m*size) by omega];exact this
  ·rcases Nat.lt_or_ge k m with hlt | hge
   ·obtain⟨c,e1,e2,e3⟩:=h3 k a hlt ha
    exact⟨c,e1,fun i u hu=>by
     have:=e2 i u hu
     rw[List.getElem?_append_left (zL.1 this).1];exact this,e3⟩
   ·have hkm:k=m:=by omega
    subst hkm;rw[zG (by omega)] at ha;injection ha with ha;subst ha;exact⟨cs,g1,fun i u hu=>by rw[List.getElem?_append_right (by omega),h1,Nat.add_sub_cancel_left];exact hu,g3⟩
  ·rcases List.mem_append.1 hu with hu | hu
   ·exact h4 u hu
   ·exact⟨_,cs,hu,g3⟩
theorem clone_sl{α:Type}{size:Nat}{K:World->(Nat->Prop)->List Value->α->Prop}(hK:Steady K)(h1:∀{w:World} {R:Nat->Prop} {c:List Value} {a:α},K w R c a->∀u∈c,u.oneCell'=true)
  {P:Program} {ρ:Go.Shelf.Ren} (L:SlLaysE0.n41 P ρ) (i0:TypeInfo) (z:Value) (bytes:Nat) (hi:P.info? (ρ.t 23)=some i0) (hz0:i0.zero=some z) (hz1:i0.size=size) (hz2:i0.bytes=bytes) (hzs:z.cells.size=size) (hsz:0<size) (z23:∀w,(Go.sizeOf (ρ.t 23)).run P w=.ok size w)
  (v:Value) (es:List α) (w:World) (R:Nat->Prop) (h:SlS size K w R v es) (hR:∀b,R b->b<w.heap.size) (h0:0<es.length) (hl:es.length<=100000) (hb:bytes<=4096) :
  Calls P (ρ.f 41) #[v] w fun e w'=>∃v',e=.returned v'/\OwnK size K w' w.heap.size (ρ.t 23) v' es R/\Below w.heap.size w w':=by
 obtain⟨A,c,rfl,hc1,hc2,hr⟩:=h;obtain⟨b,off,rfl,hRb,hat⟩:=hr h0;obtain⟨news,g1,g2,g3,g4⟩:=slat_flat hat es.length (zR _);refine(AnyE.slices_Clone L i0 z size bytes hi hz0 hz1 hz2 hzs hsz z23 b off es.length c news w g1 hc2 ?_ g2 (fun u hu=>?_)).mono ?_
 ·calc es.length*bytes<=100000*4096:=Nat.mul_le_mul hl hb
   _<=140737488355328:=by decide
 ·obtain⟨a,c,hu,hk⟩:=g4 u hu;exact h1 hk u hu
 ·rintro e w' ⟨v',rfl,ho,-,hbel⟩;refine⟨v',rfl,⟨news,ho,fun k a ha=>?_⟩,hbel⟩;obtain⟨c,e1,e2,e3⟩:=g3 k a (zL.1 ha).1 ha;exact⟨c,e1,e2,hK.keep (fun b hb=>hbel.block b (hR b hb)) e3⟩
theorem one_law{w:World}{R:Nat->Prop}{c:List Value}{a:LawM}(h:LawK w R c a):∀u∈c,u.oneCell'=true:=by
 obtain⟨vs,vr,ve,rfl,h1,h2,h3⟩:=h;obtain⟨A1,c1,rfl,-⟩:=h1.form;obtain⟨A2,c2,rfl,-⟩:=h2.form;obtain⟨A3,c3,rfl,-⟩:=h3.form;intro u hu;simp at hu;rcases hu with rfl | rfl | rfl | rfl <;> rfl
theorem one_mod{w:World}{R:Nat->Prop}{c:List Value}{a:ModM}(h:ModK w R c a):∀u∈c,u.oneCell'=true:=by
 subst h;intro u hu;simp at hu;rcases hu with rfl | rfl | rfl | rfl <;> rfl
theorem one_dom{w:World}{R:Nat->Prop}{c:List Value}{a:DomM}(h:DomK w R c a):∀u∈c,u.oneCell'=true:=by
 obtain⟨vn,vd,rfl,h1,h2⟩:=h;obtain⟨A1,c1,rfl,-⟩:=h1.form;obtain⟨A2,c2,rfl,-⟩:=h2.form;intro u hu;simp at hu;rcases hu with rfl | rfl | rfl | rfl | rfl | rfl | rfl <;> rfl
theorem one_dve{w:World}{R:Nat->Prop}{c:List Value}{a:DveM}(h:DveK w R c a):∀u∈c,u.oneCell'=true:=by
 subst h;intro u hu;simp at hu;rcases hu with rfl | rfl | rfl <;> rfl
theorem one_vol{w:World}{R:Nat->Prop}{c:List Value}{a:VolM}(h:VolK w R c a):∀u∈c,u.oneCell'=true:=by
 subst h;intro u hu;simp at hu;rcases hu with rfl | rfl <;> rfl
theorem one_pol{w:World}{R:Nat->Prop}{c:List Value}{a:PolM}(h:PolK w R c a):∀u∈c,u.oneCell'=true:=by
 obtain⟨vm,vr,tn,td,hn,hd,rfl,h1,h2,h3,h4,h5,h6⟩:=h;obtain⟨A1,c1,rfl,-⟩:=h1.1;obtain⟨A2,c2,rfl,-⟩:=h2.form;obtain⟨A3,c3,rfl,-⟩:=h3.form;obtain⟨A4,c4,rfl,-⟩:=h4.form;obtain⟨A5,c5,rfl,-⟩:=h5.form;obtain⟨A6,c6,rfl,-⟩:=h6.form;intro u hu;simp at hu;rcases hu with rfl | rfl | rfl | rfl | rfl | rfl | rfl | rfl | rfl | rfl | rfl | rfl | rfl | rfl | rfl | rfl | rfl <;> rfl
theorem ls_clone{P:Program}{ρ:Go.Shelf.Ren}(L:SlLaysE0.n41 P ρ)(he:ρ.t 23=107)(i0:TypeInfo)(hi:P.info? (ρ.t 23)=some i0)(hz0:i0.zero=some (.int .u32 0))(hz1:i0.size=1)(hz2:i0.bytes=4)(z23:∀w,(Go.sizeOf (ρ.t 23)).run P w=.ok 1 w)
  (v:Value) (l:List Nat) (w:World) (R:Nat->Prop) (h:LS w R v l) (hl:l.length<=100000) :
  Calls P (ρ.f 41) #[v] w fun e w'=>∃v',e=.returned v'/\LS w' (Fr w.heap.size w'.heap.size) v' l/\Below w.heap.size w w':=by
 obtain⟨h1,h2⟩:=h;rcases h1 with ⟨rfl,rfl⟩ | ⟨b,off,c,rfl,g1,g2,g3,g4⟩
 ·refine(AnyE.slices_Clone_nil L 0 0 w).mono ?_;rintro e w' ⟨rfl,rfl⟩;exact⟨_,rfl,LS.nil _ _,zB _ _⟩
 ·refine(AnyE.slices_Clone L i0 (.int .u32 0) 1 4 hi hz0 hz1 hz2 rfl (by omega) z23 b off l.length c (l.map u32V) w (by simp) (Nat.le_trans g1 g2) (by omega) (fun j u hj=>?_) (fun u hu=>?_)).mono ?_
  ·rw[List.getElem?_map] at hj
   cases hx:l[j]? with
   | none=>rw[hx] at hj;cases hj
   | some x=>rw[hx] at hj;injection hj with hj;rw[<-hj];exact g4 j x hx
  ·obtain⟨x,-,rfl⟩:=List.mem_map.1 hu
   rfl
  ·rintro e w' ⟨v',rfl,ho,-,hbel⟩;rw[he] at ho;exact⟨v',rfl,OwnL.ls ho h2,hbel⟩
theorem ints_clone{P:Program}{ρ:Go.Shelf.Ren}(L:SlLaysE0.n41 P ρ)(i0:TypeInfo)(hi:P.info? (ρ.t 23)=some i0)(hz0:i0.zero=some (.int .i64 0))(hz1:i0.size=1)(hz2:i0.bytes=8)(z23:∀w,(Go.sizeOf (ρ.t 23)).run P w=.ok 1 w)
  (v:Value) (l:List Int) (w:World) (R:Nat->Prop) (h:IntS w R v l) (h0:0<l.length) (hl:l.length<=100000) :
  Calls P (ρ.f 41) #[v] w fun e w'=>∃v',e=.returned v'/\w'.ownsRow w.heap.size (ρ.t 23) 1 v' l.length (l.map (Value.int .i64))/\Below w.heap.size w w':=by
 obtain⟨⟨A,c,rfl,g1,g2,g3⟩,h2⟩:=h;obtain⟨b,off,rfl,-,g4⟩:=g3 h0;refine(AnyE.slices_Clone L i0 (.int .i64 0) 1 8 hi hz0 hz1 hz2 rfl (by omega) z23 b off l.length c (l.map (Value.int .i64)) w (by simp) g2 (by omega) (fun j u hj=>?_) (fun u hu=>?_)).mono ?_
 ·rw[List.getElem?_map] at hj
  cases hx:l[j]? with
  | none=>rw[hx] at hj;cases hj
  | some x=>rw[hx] at hj;injection hj with hj;rw[<-hj];exact g4 j x hx
 ·obtain⟨x,-,rfl⟩:=List.mem_map.1 hu
  rfl
 ·rintro e w' ⟨v',rfl,ho,-,hbel⟩;exact⟨v',rfl,ho,hbel⟩
open Go.RowKit
def upP(x:PolM)(m q:Int):PolM:={ x with m:=m,q:=q,repair:=List.replicate (max m 1).toNat ⟨false,1,2⟩ }
def raiseM(F:FltM)(p:Nat)(m q:Int):FltM:={ F with pols:=F.pols.modify p (fun x=>upP x m q) }
theorem raise_len(F:FltM)(p:Nat)(m q:Int):(raiseM F p m q).pols.length=F.pols.length:=by unfold raiseM;simp
theorem raise_at{F:FltM}{p:Nat}{m q:Int}{x:PolM}(h:F.pols[p]?=some x):(raiseM F p m q).pols[p]?=some (upP x m q):=by
 unfold raiseM;rw[List.getElem?_modify_eq,h];rfl
theorem raise_other{F:FltM}{p i:Nat}{m q:Int}(h:p≠i):(raiseM F p m q).pols[i]?=F.pols[i]?:=by
 unfold raiseM;rw[List.getElem?_modify];simp[h]
theorem raise_ok{N p:Nat}{F:FltM}{m q:Int}{x:PolM}(h:FleetOk N F)(hx:F.pols[p]?=some x)(h1:0<=m)(h2:m<=4)(h3:x.k<=q)(h4:q<=x.k+m):FleetOk N (raiseM F p m q) where
 ext:=h.ext
 laws:=h.laws
 models:=h.models
 doms:=h.doms
 domN:=h.domN
 dves:=h.dves
 dve1:=h.dve1
 dveN:=h.dveN
 pols:=fun j y hy=>by
  rw[raise_len];by_cases hj:p=j
  ·subst hj;rw[raise_at hx] at hy;injection hy with hy;subst hy;obtain⟨g1,g2,g3,g4,g5,g6,g7,g8,g9,g10,g11,g12,g13,g14,g15⟩:=h.pols p x hx;exact⟨g1,g2,g3,h1,h2,h3,h4,g8,g9,g10,g11,g12,rfl,g14,g15⟩
  ·rw[raise_other hj] at hy;exact h.pols j y hy
 pol1:=by rw[raise_len];exact h.pol1
 polN:=by rw[raise_len];exact h.polN
 vols:=by rw[raise_len];exact h.vols
 vol1:=h.vol1
 volN:=h.volN
theorem setCells_other{g:Nat}:∀(vs:List Value) (o:Nat) (w:World) (k:Nat),k≠g->(w.setCells g o vs).heap[k]?=w.heap[k]?
 | [],_,_,_,_=>rfl
 | v :: r,o,w,k,h=>by
  rw[World.setCells,setCells_other r (o+1) _ k h];exact heap_setCell_other w ⟨g,o,none⟩ k v h
theorem setCells_sizeK{g:Nat}:∀(vs:List Value) (o:Nat) (w:World),(w.setCells g o vs).heap.size=w.heap.size
 | [],_,_=>rfl
 | v :: r,o,w=>by rw[World.setCells,setCells_sizeK r (o+1) _];simp
theorem setCells_block{g:Nat}{T:TypeId}:∀(vs:List Value) (o:Nat) (w:World) (cs:Array Value),w.heap[g]?=some (.cells cs T (0,0))->o+vs.length<=cs.size ->
  ∃cs':Array Value,(w.setCells g o vs).heap[g]?=some (.cells cs' T (0,0))/\cs'.size=cs.size/\(∀i,(i<o\/o+vs.length<=i)->cs'[i]?=cs[i]?)/\∀i u,vs[i]?=some u->cs'[o+i]?=some u
 | [],o,w,cs,h,_=>⟨cs,h,rfl,fun _ _=>rfl,fun i u hu=>by simp at hu⟩
 | v :: r,o,w,cs,h,hl=>by
  have h1:=heap_setCell_same w g o cs T v h;simp only[List.length_cons] at hl;obtain⟨cs',g1,g2,g3,g4⟩:=setCells_block r (o+1) _ _ h1 (by simp;omega);refine⟨cs',by rw[World.setCells];exact g1,by simpa using g2,fun i hi=>?_,fun i u hu=>?_⟩
  ·simp only[List.length_cons] at hi;rw[g3 i (by omega),Array.getElem?_setIfInBounds];rw[if_neg (by omega)]
  ·cases i with
   | zero =>
    simp at hu;subst hu;rw[Nat.add_zero,g3 o (by omega),Array.getElem?_setIfInBounds,if_pos rfl,if_pos (by omega)]
   | succ i =>
    have:=g4 i u (by simpa using hu);rw[show o+(i+1)=o+1+i by omega];exact this
def FillTo{α:Type}(size:Nat)(K:World->(Nat->Prop)->List Value->α->Prop)(w:World)(base:Nat)(T:TypeId)(g n j:Nat)(es:List α):Prop :=
 base<=g/\∃cs:Array Value,w.heap[g]?=some (.cells cs T (0,0))/\cs.size=n*size/\∀k x,k<j->es[k]?=some x->∃c,c.length=size/\(∀i u,c[i]?=some u->cs[k*size+i]?=some u)/\K w (fun b=>base<=b/\b<w.heap.size/\b≠g) c x
theorem FillTo.lt{α:Type}{size:Nat}{K:World->(Nat->Prop)->List Value->α->Prop}{w:World}{base:Nat}{T:TypeId}{g n j:Nat}{es:List α}(h:FillTo size K w base T g n j es):g<w.heap.size:=by
 obtain⟨-,cs,h1,-⟩:=h;exact(zA.1 h1).1
theorem FillTo.below{α:Type}{size:Nat}{K:World->(Nat->Prop)->List Value->α->Prop}(hK:Steady K){w w':World}{base:Nat}{T:TypeId}{g n j:Nat}{es:List α}(h:FillTo size K w base T g n j es)(hb:Below w.heap.size w w'):FillTo size K w' base T g n j es:=by
 have hl:=h.lt;obtain⟨h0,cs,h1,h2,h3⟩:=h;refine⟨h0,cs,(hb.block g hl).trans h1,h2,fun k x hk hx=>?_⟩;obtain⟨c,e1,e2,e3⟩:=h3 k x hk hx;exact⟨c,e1,e2,hK.mono (fun b hb'=>⟨hb'.1,zM hb'.2.1 hb.size,hb'.2.2⟩) (hK.keep (fun b hb'=>hb.block b hb'.2.1) e3)⟩
theorem FillTo.there{α:Type}{size:Nat}{K:World->(Nat->Prop)->List Value->α->Prop}{w:World}{base:Nat}{T:TypeId}{g n j:Nat}{es:List α}(h:FillTo size K w base T g n j es){i:Nat}(hi:i<n):w.there g (i*size) size:=by
 obtain⟨-,cs,h1,h2,-⟩:=h;intro k hk;have:(i+1)*size<=n*size:=Nat.mul_le_mul_right _ hi;rw[Nat.succ_mul] at this;exact⟨by rw[cell_of_row _ _ _ _ _ _ h1,Array.getElem?_eq_getElem (by omega)];rfl,frozen_of_row _ _ _ _ _ h1⟩
theorem FillTo.store{α:Type}{size:Nat}{K:World->(Nat->Prop)->List Value->α->Prop}(hK:Steady K){w:World}{base:Nat}{T:TypeId}{g n j:Nat}{es:List α}(h:FillTo size K w base T g n j es)(hj:j<n)(vs:List Value)(hl:vs.length=size){x:α}(hx:es[j]?=some x){R:Nat->Prop}(hk:K w R vs x)(hR:∀b,R b->base<=b/\b<w.heap.size/\b≠g) :
  FillTo size K (w.setCells g (j*size) vs) base T g n (j+1) es:=by
 obtain⟨h0,cs,h1,h2,h3⟩:=h;have hle:(j+1)*size<=n*size:=Nat.mul_le_mul_right _ hj;rw[Nat.succ_mul] at hle;obtain⟨cs',g1,g2,g3,g4⟩:=setCells_block vs (j*size) w cs h1 (by omega)
 have hkp:Kept (fun b=>base<=b/\b<w.heap.size/\b≠g) w (w.setCells g (j*size) vs):=fun b hb=>setCells_other vs _ w b hb.2.2
 have hsz:=setCells_sizeK (g:=g) vs (j*size) w;refine⟨h0,cs',g1,g2.trans h2,fun k y hkj hy=>?_⟩;rcases Nat.lt_or_ge k j with hlt | hge
 ·obtain⟨c,e1,e2,e3⟩:=h3 k y hlt hy;have h5:(k+1)*size<=j*size:=Nat.mul_le_mul_right _ hlt;rw[Nat.succ_mul] at h5;refine⟨c,e1,fun i u hu=>?_,hK.mono (fun b hb=>⟨hb.1,by rw[hsz];exact hb.2.1,hb.2.2⟩) (hK.keep hkp e3)⟩;have h6:=(zL.1 hu).1;rw[g3 _ (by omega)];exact e2 i u hu
 ·have:k=j:=by omega
  subst this;rw[hx] at hy;injection hy with hy;subst hy;exact⟨vs,hl,g4,hK.mono (fun b hb=>⟨(hR b hb).1,by rw[hsz];exact(hR b hb).2.1,(hR b hb).2.2⟩) (hK.keep (fun b hb=>hkp b (hR b hb)) hk)⟩
theorem FillTo.own{α:Type}{size:Nat}{K:World->(Nat->Prop)->List Value->α->Prop}{w:World}{base:Nat}{T:TypeId}{g n:Nat}{es:List α}(h:FillTo size K w base T g n n es)(hn:es.length=n)(hm:n<=maxLen):OwnK size K w base T (.slice (some ⟨g,0,none⟩) n n) es (fun b=>base<=b/\b<w.heap.size/\b≠g):=by
 subst hn;obtain⟨h0,cs,h1,h2,h3⟩:=h;refine⟨cs.toList,⟨by simpa using h2,.inr ⟨g,es.length,cs,rfl,h0,h1,zR _,hm,h2,by rw[List.take_of_length_le (by simp[h2])]⟩⟩,fun k a ha=>?_⟩;obtain⟨c,e1,e2,e3⟩:=h3 k a (zL.1 ha).1 ha;exact⟨c,e1,fun i u hu=>by rw[Array.getElem?_toList];exact e2 i u hu,e3⟩
theorem FillTo.start{α:Type}{size:Nat}{K:World->(Nat->Prop)->List Value->α->Prop}{w:World}{base:Nat}{T:TypeId}{g n:Nat}{es:List α}{cs:Array Value}(h0:base<=g)(h1:w.heap[g]?=some (.cells cs T (0,0)))(h2:cs.size=n*size):FillTo size K w base T g n 0 es:=⟨h0,cs,h1,h2,fun k x hk=>by omega⟩
theorem nlength_any(v:Value)(l:List Nat)(R:Nat->Prop)(w:World)(h:LS w R v l)(hl:l.length<=1048576) :
  Calls Tryz.prog 159 #[v] w fun e w'=>e=.returned (.int .i64 ((trimL l).length:Int))/\w=w':=by
 rcases h.1 with ⟨rfl,rfl⟩ | ⟨b,off,c,rfl,hlc,hcm,hRb,hcs⟩
 ·clear h;go_enter Tryz.func159,Tryz.ntmps159;go_wp2_with fail;go_loopg [3] 0 (fun z v3 wr=>w=wr/\v3=.int .i64 0)
  case atStart=>exact⟨rfl,rfl⟩
  case round =>
   obtain⟨rfl,rfl⟩:=hrel;go_wp2_with fail;go_ret;exact⟨rfl,rfl⟩
 ·clear h;unfold maxLen at hcm;have HCS:=zh hcs;clear hcs;go_enter Tryz.func159,Tryz.ntmps159;go_wp2_with fail;go_loopg [3] l.length (fun z v3 wr=>w=wr/\∃j:Nat,j<=l.length/\z=0+j/\v3=.int .i64 (j:Int)/\Hid (∀i (h:i<l.length),j<=i->l[i]=0))
  case atStart=>exact⟨rfl,l.length,zR _,(Nat.zero_add _).symm,rfl,fun i h h2=>by omega⟩
  case round =>
   obtain⟨rfl,j,hj,rfl,rfl,HZ⟩:=hrel;by_cases h0:j=0
   ·subst h0;have HT:=zh (show(trimL l).length=0 by rw[trim_at l 0 hj HZ.out (fun k _ e=>by omega)];rfl);go_wp2_with fail;go_ret;exact⟨by rw[HT.out];rfl,rfl⟩
   ·obtain⟨k,rfl⟩:∃k,j=k+1:=⟨j-1,by omega⟩
    have hkl:k<l.length:=by omega
    have hck:=HCS.out k l[k] (zG hkl);unfold u32V at hck
    have hpos:(0:Int)<((k+1:Nat):Int):=by omega
    have hsub:IntKind.i64.wrap (((k+1:Nat):Int)-1)=(k:Int):=by rw[show((k+1:Nat):Int)-1=(k:Int) by omega];exact zI _ (by omega)
    have hi0':(0:Int)<=(k:Int):=by omega
    have hi1':(k:Int)<(l.length:Int):=by omega
    have hz2':l[k]=0->∀i (h:i<l.length),k<=i->l[i]=0:=fun e i h1 h2=>by
     by_cases e2:i=k
     ·subst e2;exact e
     ·exact HZ.out i h1 (by omega)
    have hnz:l[k]≠0->(trimL l).length=k+1:=fun e=>by
     rw[trim_at l (k+1) hj HZ.out (fun k2 h2 e2=>by
      have e3:k2=k:=by omega
      subst e3;exact e),List.length_take]
     omega
    have HZ2:=zh hz2';have HNZ:=zh hnz;obtain⟨x,hx⟩:=zx (l[k]);rw[<-hx] at hck HZ2 HNZ;obtain⟨K1,hK1⟩:=zx (k+1);rw[<-hK1] at hpos hsub HNZ hj ⊢;have HK1:=zh hK1;clear hz2' hnz hx HZ hK1;by_cases hx0:x=0
    ·have HZ3:=zh (HZ2.out hx0)
     have q1:((x:Int)==0)=true:=by simpa using hx0
     clear hx0;go_wp2_with fail;go_roundg k
     case measure=>omega
     case rel=>exact⟨rfl,k,by omega,(Nat.zero_add _).symm,rfl,HZ3⟩
    ·have q1:((x:Int)==0)=false:=by simpa using hx0
     have HT:=zh (HNZ.out hx0);clear hx0;go_wp2_with fail;go_ret;exact⟨by rw[HT.out];rfl,rfl⟩
theorem LS.take{w:World}{R:Nat->Prop}{A:Option Addr}{n c:Nat}{l:List Nat}(h:LS w R (.slice A n c) l)(j c':Nat)(hj:j<=l.length)(hc:j<=c')(hc':c'<=maxLen)(hA:0<l.length):LS w R (.slice A j c') (l.take j):=by
 rcases h.1 with ⟨h1,h2⟩ | ⟨b,off,c2,h1,hlc,hcm,hRb,hcs⟩
 ·rw[h2] at hA;simp at hA
 ·injection h1 with h1 h2 h3;refine⟨.inr ⟨b,off,c',by rw[h1,List.length_take,Nat.min_eq_left hj],by rw[List.length_take];omega,by omega,hRb,fun k x hk=>hcs k x ?_⟩,fun x hx=>h.2 x (List.mem_of_mem_take hx)⟩;rw[List.getElem?_take] at hk;split at hk
  ·exact hk
  ·cases hk
theorem trimL_take(l:List Nat):trimL l=l.take (trimL l).length:=by
 have h:trimL l <+: l:=by
  unfold trimL;have h1:l.reverse.dropWhile (·==0) <:+ l.reverse:=List.dropWhile_suffix _;have h2:=List.reverse_prefix.2 h1
  simpa using h2
 exact(List.prefix_iff_eq_take.1 h)
theorem LS.only{w:World}{R R':Nat->Prop}{A:Option Addr}{n c:Nat}{l:List Nat}(h:LS w R (.slice A n c) l)(hr:∀b o,A=some ⟨b,o,none⟩->R' b):LS w R' (.slice A n c) l:=by
 refine⟨?_,h.2⟩;rcases h.1 with h1 | ⟨b,off,c2,h1,h2,h3,h4,h5⟩
 ·exact .inl h1
 ·have hA:A=some ⟨b,off,none⟩:=by injection h1
  exact .inr ⟨b,off,c2,h1,h2,h3,hr b off hA,h5⟩
theorem LS.cap{w:World}{R:Nat->Prop}{A:Option Addr}{n c:Nat}{l:List Nat}(h:LS w R (.slice A n c) l)(hA:0<l.length):∃b off,A=some ⟨b,off,none⟩/\n=l.length/\n<=c/\c<=maxLen:=by
 rcases h.1 with ⟨h1,h2⟩ | ⟨b,off,c2,h1,h2,h3,-⟩
 ·rw[h2] at hA;simp at hA
 ·injection h1 with h5 h6 h4;subst h4;subst h6;exact⟨b,off,h5,rfl,h2,h3⟩
theorem LS.trim{w:World}{R:Nat->Prop}{A:Option Addr}{n c:Nat}{l:List Nat}(h:LS w R (.slice A n c) l)(hA:0<l.length):LS w R (.slice A (trimL l).length c) (trimL l):=by
 have hc:l.length<=c/\c<=maxLen:=by
  rcases h.1 with ⟨h1,h2⟩ | ⟨b,off,c2,h1,h2,h3,-⟩
  ·rw[h2] at hA;simp at hA
  ·injection h1 with _ _ h4;subst h4;exact⟨h2,h3⟩
 have hl:=trimL_length l;have ht:trimL l=l.take (trimL l).length:=trimL_take l;have h3:=h.take (trimL l).length c hl (by omega) hc.2 hA;rw[<-ht] at h3;exact h3
theorem Fr.wider{a b c d:Nat}(h:c<=a)(k:b<=d):∀x,Fr a b x->Fr c d x:=fun x hx=>⟨Nat.le_trans h hx.1,zM hx.2 k⟩
def bl(n:Nat):Nat:=if n=0 then 0 else Nat.log2 n+1
theorem bl_zero:bl 0=0:=rfl
theorem bl_half{n:Nat}(h:0<n):bl n=bl (n / 2)+1:=by
 unfold bl;rw[if_neg (by omega)];by_cases h1:n=1
 ·subst h1;decide
 ·rw[if_neg (by omega),Nat.log2_def,if_pos (by omega)]
theorem bl_le:∀(k n:Nat),n<2 ^ k->bl n<=k
 | 0,n,h=>by
  have h0:n=0:=by simpa using h
  rw[h0];exact zR _
 | k+1,n,h=>by
  rcases Nat.eq_zero_or_pos n with h0 | h0
  ·rw[h0];exact Nat.zero_le _
  ·rw[bl_half h0];have:=bl_le k (n / 2) (by rw[Nat.pow_succ] at h;omega);omega
theorem bl_32{n:Nat}(h:n<4294967296):bl n<=32:=bl_le 32 n (by simpa using h)
theorem bl_pos{n:Nat}:0<bl n↔0<n:=by
 unfold bl;split <;> omega
theorem bl_one:bl 1=1:=by decide
theorem nlarge_any(v:Value)(l:List Nat)(R:Nat->Prop)(w:World)(h:LS w R v l)(hl:l.length<=512) :
  Calls Tryz.prog 160 #[v] w fun e w'=>e=.returned (.bool false)/\w=w':=by
 have HL:=zh (nlength_any v l R w h (by omega));have hlen:=trimL_length l;go_enter Tryz.func160,Tryz.ntmps160;go_wp2_with fail;refine HL.out.mono ?_;rintro e w2 ⟨rfl,rfl⟩
 have q:¬((512:Int)<((trimL l).length:Int)):=by omega
 generalize (trimL l).length=n at *;go_wp2_with fail;go_ret;exact⟨ret_bool (decide_eq_false (by omega)),rfl⟩
theorem nbits_any(v:Value)(n:Nat)(R:Nat->Prop)(w:World)(h:LS w R v (natL n)) :
  Calls Tryz.prog 123 #[v] w fun e w'=>e=.returned (.int .i64 (bl n:Int))/\∃k,w'=w.drewN k:=by
 have HL:=zh (nlength_any v _ R w h (by have:=natL_length n;omega));rw[trim_natL] at HL;rcases Nat.eq_zero_or_pos n with h0 | h0
 ·subst h0;go_enter Tryz.func123,Tryz.ntmps123;go_wp2_with fail;refine HL.out.mono ?_;rintro e w2 ⟨rfl,rfl⟩;go_wp2_with fail;go_ret;exact⟨rfl,0,rfl⟩
 ·obtain⟨A,c,rfl,-,-⟩:=h.form;obtain⟨b,off,rfl,-,hc⟩:=h.one h0;have h32:n<4294967296:=h.2 n (by rw[natL_pos h0];simp)
  have l1:(natL n).length=1:=by rw[natL_pos h0];rfl
  rw[l1] at HL ⊢
  have n0:(0:Int)<=(n:Int):=by omega
  have n1:(n:Int)<4294967296:=by omega
  have e0:IntKind.i64.wrap (((1:Nat):Int)-1)=0:=zI _ (by omega);clear h l1;go_enter Tryz.func123,Tryz.ntmps123;go_wp2_with fail;refine HL.out.mono ?_;rintro e w2 ⟨rfl,rfl⟩
  have q0:¬((1:Int)==0)=true:=by decide
  go_wp2_with fail;have hbn:=bl_32 h32;have HBN:=zh hbn;clear hbn q0;go_loopg [4,5] n (fun z v4 v5 wr=>w=wr/\∃k:Nat,v4=.int .i64 (k:Int)/\v5=.int .u32 (z:Int)/\Hid (k+bl z=bl n)/\z<4294967296)
  case atStart=>exact⟨rfl,0,rfl,rfl,Nat.zero_add _,h32⟩
  case round =>
   obtain⟨rfl,k,rfl,rfl,HK,hz⟩:=hrel;rcases Nat.eq_zero_or_pos gk with hg | hg
   ·subst hg;have HE:=zh (show bl n=k by have:=HK.out;rw[bl_zero] at this;omega);go_wp2_with fail;go_ret;exact⟨by rw[HE.out];rfl,0,rfl⟩
   ·have hk:(k:Int)<=32:=by have:=HK.out;have:=HBN.out;omega
    have HH:=zh (show k+1+bl (gk / 2)=bl n by have h1:=HK.out;have h2:=bl_half hg;omega)
    have g0:(0:Int)<(gk:Int):=by omega
    have g1:(gk:Int)<4294967296:=by omega
    go_wp2_with fail;go_roundg (gk / 2)
    case measure=>omega
    case rel=>exact⟨rfl,k+1,by go_num,by go_num,HH,by omega⟩
theorem addr_add0(b off j:Nat):(⟨b,off,none⟩:Addr).add j=⟨b,off+j,none⟩:=by unfold Addr.add;split <;> simp_all
theorem nmake_any(v:Nat)(w:World)(hv:v<4294967296) :
  Calls Tryz.prog 127 #[.int .u64 (v:Int)] w fun e w'=>∃u,e=.returned u/\LS w' (Fr w.heap.size w'.heap.size) u (natL v)/\Below w.heap.size w w':=by
 have hv0:(0:Int)<=(v:Int):=by omega
 have hv1:(v:Int)<4294967296:=by omega
 obtain⟨W,hW⟩:=zx (w.alloc (.cells #[.int .u32 (v:Int),.int .u32 0] 107));have hls:=LS.two w v 0 hv (by omega);rw[show((0:Nat):Int)=0 from rfl,<-hW] at hls
 have hb:Below w.heap.size w W:=by rw[hW];exact(zB _ _).alloc (zR _) _
 have hsz:W.heap.size=w.heap.size+1:=by rw[hW];simp
 have HL:=zh (nlength_any _ _ _ W hls (by simp))
 have hr:=(hls.trim (by simp)).only (R':=Fr w.heap.size W.heap.size) (fun b o hb=>by
  injection hb with hb;injection hb with hb
  exact⟨by omega,by omega⟩)
 rw[trim_two] at HL hr;have hn1:=natL_length v;have HLS:=zh hls;have HR:=zh hr;have HB:=zh hb;have HW:=zh hW;have HSZ:=zh hsz;obtain⟨N,hN⟩:=zx ((natL v).length);rw[<-hN] at HL HR hn1;clear hls hr hb hW hN hsz;go_enter Tryz.func127,Tryz.ntmps127;go_wp2_with fail
 have e0:((v:Int) / 4294967296)=0:=by omega
 rw[e0];rw[<-HW.out];refine HL.out.mono ?_;rintro e w2 ⟨rfl,rfl⟩;go_wp2_with fail;go_ret;exact⟨_,rfl,HR.out,HB.out⟩
theorem ntrim_any(v:Value)(l:List Nat)(R:Nat->Prop)(w:World)(h:LS w R v l)(hR:∀b,R b->b<w.heap.size)(hl:l.length<=1048576) :
  Calls Tryz.prog 126 #[v] w fun e w'=>∃u,e=.returned u/\OwnL w' w.heap.size u (trimL l)/\Below w.heap.size w w':=by
 obtain⟨i0,hi0,hz0,hz1,hz2⟩:=info_parts info_u32;have HL:=zh (nlength_any v l R w h (by omega));rcases h.1 with ⟨rfl,rfl⟩ | ⟨b,off,c,rfl,hlc,hcm,hRb,hcs⟩
 ·clear h;go_enter Tryz.func126,Tryz.ntmps126;go_wp2_with fail;refine HL.out.mono ?_;rintro e w2 ⟨rfl,rfl⟩;go_wp2_with (at_builtin;refine wpList_append_own_none rfl _ _ _ rfl w.heap.size 107 i0 1 Tryz.underlying24 hi0 (.slice none 0 0) 0 [] (by rfl) (World.ownsRow_nil _ _ _ _) (by rfl) ?_);go_ret;exact⟨_,rfl,OwnL.nil _ _,zB _ _⟩
 ·clear h;unfold maxLen at hcm;have hRl:=hR b hRb;have hll:=trimL_length l;have htt:=trimL_take l;obtain⟨K1,hK1⟩:=zx ((trimL l).length);rw[<-hK1] at HL hll htt
  have hnews:∀j2 u,((l.take K1).map u32V)[j2]?=some u->w.cell? ((⟨b,off,none⟩:Addr).add j2)=some u:=by
   intro j2 u hu;have e1:(⟨b,off,none⟩:Addr).add j2=⟨b,off+j2,none⟩:=addr_add0 b off j2;rw[e1];rw[List.getElem?_map] at hu
   cases hx:(l.take K1)[j2]? with
   | none=>rw[hx] at hu;cases hu
   | some x =>
    rw[hx] at hu;injection hu with hu;rw[<-hu];refine hcs j2 x ?_;rw[List.getElem?_take] at hx;split at hx
    ·exact hx
    ·cases hx
  have hlt:((l.take K1).map u32V).length=K1*1:=by rw[List.length_map,List.length_take];omega
  have HNW:=zh hnews;have HLT:=zh hlt;have HT:=zh htt;clear htt hnews hlt hcs hK1;go_enter Tryz.func126,Tryz.ntmps126;go_wp2_with fail;refine HL.out.mono ?_;rintro e w2 ⟨rfl,rfl⟩;go_wp2_with (at_builtin;refine wpList_append_own_at (P:=Tryz.prog) _ rfl _ _ _ rfl w.heap.size 107 i0 _ 1 4 Tryz.underlying24 hi0 hz0 hz1 hz2 rfl (by decide) (.slice none 0 0) 0 [] (by rfl) (World.ownsRow_nil _ _ _ _) ⟨b,off,none⟩ K1 c ((l.take K1).map u32V) (by rfl) HLT.out HNW.out (fun u hu=>by obtain⟨x,-,rfl⟩:=List.mem_map.1 hu;rfl) (by unfold maxLen;omega) (by omega) (zR _) ?_;intro v' w' hown' hg' _ hat');go_ret;refine⟨_,rfl,?_,below_none hg'⟩;have h2:=hown';rw[Nat.zero_add,List.nil_append] at h2;unfold OwnL;rw[HT.out,show(l.take K1).length=K1 by rw[List.length_take];omega];exact h2
theorem ncmp_any(va vb:Value)(n m:Nat)(R R':Nat->Prop)(w:World)(ha:LS w R va (natL n))(hb:LS w R' vb (natL m)) :
  Calls Tryz.prog 128 #[va,vb] w fun e w'=>e=.returned (.int .i64 (cmpI n m))/\∃k,w'=w.drewN k:=by
 have HA:=zh (nlength_any va _ R w ha (by have:=natL_length n;omega));have HB:=zh (nlength_any vb _ R' w hb (by have:=natL_length m;omega));rw[trim_natL] at HA HB;obtain⟨A,c,rfl,-,-⟩:=ha.form;obtain⟨B,d,rfl,-,-⟩:=hb.form;have hln:=natL_len (n:=n);have hlm:=natL_len (n:=m);obtain⟨N,hN⟩:=zx ((natL n).length);obtain⟨M,hM⟩:=zx ((natL m).length)
 have hN1:N<=1:=by rw[hN];exact natL_length n
 have hM1:M<=1:=by rw[hM];exact natL_length m
 rw[<-hN] at ha hln HA ⊢;rw[<-hM] at hb hlm HB ⊢;have H1:=zh ha;have H2:=zh hb;clear ha hb hN hM;go_enter Tryz.func128,Tryz.ntmps128;go_wp2_with fail;refine HA.out.mono ?_;rintro e w2 ⟨rfl,rfl⟩;go_wp2_with fail;refine HB.out.mono ?_;rintro e w2 ⟨rfl,rfl⟩;by_cases hlt:N<M
 ·have HE:=zh (show cmpI n m = -1 by
   have h3:=hln.1.1 (by omega);have h4:=hlm.2.1 (by omega)
   unfold cmpI;rw[if_pos (by omega)])
  have q1:(N:Int)<(M:Int):=by omega
  clear hlt hln hlm;go_wp2_with fail;go_ret;exact⟨by rw[HE.out];rfl,0,rfl⟩
 ·have q1:¬(N:Int)<(M:Int):=by omega
  by_cases hgt:M<N
  ·have HE:=zh (show cmpI n m=1 by
    have h3:=hlm.1.1 (by omega);have h4:=hln.2.1 (by omega)
    unfold cmpI;rw[if_neg (by omega),if_pos (by omega)])
   have q2:(M:Int)<(N:Int):=by omega
   clear hlt hgt hln hlm;go_wp2_with fail;go_ret;exact⟨by rw[HE.out];rfl,0,rfl⟩
  ·have q2:¬(M:Int)<(N:Int):=by omega
   have hNM:N=M:=by omega
   subst hNM;have hsub:IntKind.i64.wrap ((N:Int)-1)=(N:Int)-1:=zI _ (by omega);go_wp2_with fail;go_loopg [7] N (fun z v7 wr=>Hid (∃k,wr=w.drewN k)/\((z=0/\v7=.int .i64 (-1)/\n=m)\/(z=1/\v7=.int .i64 0/\0<n/\0<m)))
   case atStart =>
    refine⟨⟨0,rfl⟩,?_⟩;rcases Nat.lt_or_ge 0 N with h | h
    ·have e1:N=1:=by omega
     subst e1;exact .inr ⟨rfl,rfl,hln.2.1 rfl,hlm.2.1 rfl⟩
    ·have e1:N=0:=by omega
     subst e1;exact .inl ⟨rfl,rfl,by have:=hln.1.1 rfl;have:=hlm.1.1 rfl;omega⟩
   case round =>
    obtain⟨hbr,h⟩:=hrel;rcases h with ⟨rfl,rfl,he⟩ | ⟨rfl,rfl,h0,h0'⟩
    ·have HE:=zh he;obtain⟨k,rfl⟩:=hbr.out;clear he hbr hsub q1 q2 hlt hgt;go_wp2_with fail;go_ret;exact⟨ret_int (by unfold cmpI;rw[HE.out];simp),k,rfl⟩
    ·obtain⟨k,rfl⟩:=hbr.out
     have e1:N=1:=by
      have h3:=hln.2.2 h0;omega
     subst e1;obtain⟨b1,o1,rfl,hR1,hc1⟩:=H1.out.one h0;obtain⟨b2,o2,rfl,hR2,hc2⟩:=H2.out.one h0';have k1:(w.drewN k).cell? ⟨b1,o1,none⟩=_:=hc1;have k2:(w.drewN k).cell? ⟨b2,o2,none⟩=_:=hc2;obtain⟨W,hW⟩:=zx (w.drewN k);rw[<-hW] at k1 k2 ⊢;have HW:=zh hW
     have n0:(0:Int)<(n:Int):=by omega
     clear hc1 hc2 hR1 hR2 hln hlm hsub hN1 h0 h0' hbr hW q1 q2 hlt hgt;by_cases hlt:n<m
     ·have q1:(n:Int)<(m:Int):=by omega
      have HE:=zh (show cmpI n m = -1 by unfold cmpI;rw[if_pos hlt]);clear hlt;go_wp2_with fail
      go_quiet (fail)
      go_wp2_with fail;go_ret;exact⟨ret_int HE.out.symm,by rw[HW.out];simp only[World.drewN_drewN];exact⟨_,rfl⟩⟩
     ·have q1:¬(n:Int)<(m:Int):=by omega
      by_cases hgt:m<n
      ·have q2:(m:Int)<(n:Int):=by omega
       have HE:=zh (show cmpI n m=1 by unfold cmpI;rw[if_neg hlt,if_pos hgt]);clear hlt hgt;go_wp2_with fail
       go_quiet (fail)
       go_wp2_with fail
       go_quiet (fail)
       go_wp2_with fail;go_ret;exact⟨ret_int HE.out.symm,by rw[HW.out];simp only[World.drewN_drewN];exact⟨_,rfl⟩⟩
      ·have q2:¬(m:Int)<(n:Int):=by omega
       have he:n=m:=by omega
       have HE:=zh he;clear hlt hgt he;go_wp2_with fail
       go_quiet (fail)
       go_wp2_with fail
       go_quiet (fail)
       go_wp2_with fail;go_roundg 0
       case measure=>omega
       case rel=>exact⟨by rw[HW.out];simp only[World.drewN_drewN];exact⟨_,rfl⟩,.inl ⟨rfl,rfl,HE.out⟩⟩
theorem nsized_any(A:Option Addr)(n c:Nat)(l:List Nat)(R:Nat->Prop)(w:World)(h:LS w R (.slice A n c) l)(h0:0<l.length)(hl:l.length<=512) :
  Calls Tryz.prog 182 #[.slice A n c] w fun e w'=>e=.returned (.tuple #[.slice A (trimL l).length (trimL l).length,.int .i64 0])/\w=w':=by
 have HL:=zh (nlength_any _ l R w h (by omega));have hlen:=trimL_length l;obtain⟨b,off,rfl,rfl,hc1,hcm⟩:=h.cap h0;unfold maxLen at hcm;clear h;obtain⟨T,hT⟩:=zx ((trimL l).length);obtain⟨N,hN⟩:=zx l.length;rw[<-hT] at HL hlen ⊢;rw[<-hN] at HL hlen hl hc1 h0 ⊢;clear hT hN;go_enter Tryz.func182,Tryz.ntmps182;go_wp2_with fail;refine HL.out.mono ?_;rintro e w2 ⟨rfl,rfl⟩
 have q:¬((512:Int)<(T:Int)):=by omega
 have q0:(0:Int)<=(T:Int):=by omega
 have q1:(T:Int)<=(c:Int):=by omega
 go_wp2_with fail;go_ret2;exact⟨rfl,rfl⟩
theorem mk_u32n(n:Nat)(hn:n<=1048576):∀w:World,(Instr.makeSlice 24 (.int .i64 (n:Int)) (.int .i64 (n:Int))).run Tryz.prog w=.ok (.slice (some ⟨w.heap.size,0,none⟩) n n) (w.alloc (.cells (Array.replicate n (.int .u32 0)) 107)):=by
 intro w;obtain⟨i0,hi0,hz0,hz1,hz2⟩:=info_parts info_u32;have h:=run_make (P:=Tryz.prog) w 24 107 i0 _ Tryz.underlying24 hi0 hz0 .i64 .i64 (n:Int) (n:Int) (by omega) (by omega) (by rw[hz2];omega) (by omega);rw[hz1] at h
 simpa[madeCells_one,Value.cells] using h
theorem mk_u32s2:∀w:World,(Instr.makeSlice 24 (.int .i64 2) (.int .i64 2)).run Tryz.prog w=.ok (.slice (some ⟨w.heap.size,0,none⟩) 2 2) (w.alloc (.cells #[.int .u32 0,.int .u32 0] 107)):=fun w=>mk_u32n 2 (by omega) w
theorem nshort_any(va:Value)(n d:Nat)(R:Nat->Prop)(w:World)(ha:LS w R va (natL n))(hR:∀b,R b->b<w.heap.size)(hn:0<n)(hd:0<d)(hd32:d<4294967296) :
  Calls Tryz.prog 178 #[va,.int .u32 (d:Int)] w fun e w'=>∃u,e=.returned (.tuple #[u,.int .u32 ((n % d:Nat):Int)])/\LS w' (Fr w.heap.size w'.heap.size) u (natL (n / d))/\Below w.heap.size w w':=by
 have hn32:=ha.lt32;obtain⟨A,c,rfl,-,-⟩:=ha.form
 have l1:(natL n).length=1:=by rw[natL_pos hn];rfl
 rw[l1] at ha ⊢;obtain⟨b1,o1,rfl,hR1,hc1⟩:=ha.one hn;have hb1l:b1<w.heap.size:=hR _ hR1;have hmk:=mk_u32s1;obtain⟨W3,hW3⟩:=zx (w.alloc (.cells #[.int .u32 0] 107));obtain⟨g,hg⟩:=zx w.heap.size
 have k1:W3.cell? ⟨b1,o1,none⟩=some (.int .u32 (n:Int)):=by rw[hW3];exact(((zB _ _).alloc (zR _) _).cell (p:=⟨b1,o1,none⟩) hb1l).trans hc1
 have hg3:W3.heap[g]?=some (.cells #[.int .u32 0] 107 (0,0)):=by rw[hW3,hg];exact zN _ _
 have kg:W3.cell? ⟨g,0,none⟩=some (.int .u32 0):=by rw[cell_of_row _ _ _ _ _ _ hg3];rfl
 have kf:W3.frozen? ⟨g,0,none⟩=false:=frozen_of_row _ _ _ _ _ hg3
 have hb3:Below w.heap.size w W3:=by rw[hW3];exact(zB _ _).alloc (zR _) _
 have HG3:=zh hg3;have HW3:=zh hW3;have HG:=zh hg;have HB3:=zh hb3
 have n0:(0:Int)<=(n:Int):=by omega
 have n1:(n:Int)<=4294967295:=by omega
 have m0:(0:Int)<(d:Int):=by omega
 have m1:(d:Int)<=4294967295:=by omega
 have e1:b1≠g:=by omega
 clear ha l1 hc1 hW3 hg hg3 hb3 hR1;go_enter Tryz.func178,Tryz.ntmps178;go_upto_region 2 with fail;rw[<-HW3.out,<-HG.out];clear hmk;go_wp2_with fail;go_loopg [7,8] 1 (fun z v7 v8 wr=>(z=1/\v7=.int .u64 0/\v8=.int .i64 0/\W3=wr)\/(z=0/\v7=.int .u64 ((n % d:Nat):Int)/\v8=.int .i64 (-1)/\Hid (wr.heap[g]?=some (.cells #[.int .u32 ((n / d:Nat):Int)] 107 (0,0)))/\Hid (Below w.heap.size w wr)))
 case atStart=>exact .inl ⟨rfl,rfl,rfl,rfl⟩
 case round =>
  rcases hrel with ⟨rfl,rfl,rfl,rfl⟩ | ⟨rfl,rfl,rfl,hgc,hbr⟩
  ·have hor:=or_zero n hn32;have hqu:=quo_nat n d hn32;have hre:=rem_nat n d;go_wp2_with fail;go_roundg 0
   case measure=>omega
   case rel=>exact .inr ⟨rfl,rfl,rfl,heap_setCell_same W3 g 0 _ _ _ HG3.out,HB3.out.setCell (by show w.heap.size<=g;rw[HG.out];exact zR _) _⟩
  ·clear k1 kg kf;have hgl:g<wr.heap.size:=(zA.1 hgc.out).1;have hqle:n / d<4294967296:=Nat.lt_of_le_of_lt (Nat.div_le_self n d) hn32;have hls:LS wr (Bl wr.heap.size) (.slice (some ⟨g,0,none⟩) 1 1) [n / d]:=LS.cell1 wr g (n / d) hqle hgc.out _ hgl;have HL:=zh (nlength_any _ _ _ wr hls (by simp));have hr:=(hls.trim (by simp));rw[trim_one'] at HL hr
   have hr2:LS wr (Fr w.heap.size wr.heap.size) (.slice (some ⟨g,0,none⟩) (natL (n / d)).length 1) (natL (n / d)):=hr.only (fun b o hb=>by
    injection hb with hb;injection hb with hb;rw[<-hb];exact⟨by rw[HG.out];exact zR _,hgl⟩)
   have hN1:=natL_length (n / d);have hmd:n % d<4294967296:=Nat.lt_trans (Nat.mod_lt _ hd) hd32;obtain⟨Q,hQ⟩:=zx ((natL (n / d)).length);rw[<-hQ] at HL hN1 hr2;have HR2:=zh hr2;obtain⟨M,hM⟩:=zx (n % d);rw[<-hM] at hmd ⊢;have HMM:=zh hM
   have q0:(0:Int)<=(M:Int):=by omega
   have q1:(M:Int)<4294967296:=by omega
   have HBR:=zh hbr.out;clear hls hr hr2 hQ hM hgc hbr hqle hgl hmd;go_wp2_with fail;refine HL.out.mono ?_;rintro e w2 ⟨rfl,rfl⟩;go_wp2_with fail;go_ret2;exact⟨_,by rw[<-HMM.out];rfl,HR2.out,HBR.out⟩
theorem ndivide_any(va vb:Value)(n m:Nat)(w:World)(ha:LS w (Bl w.heap.size) va (natL n))(hb:LS w (Bl w.heap.size) vb (natL m))(hm:0<m) :
  Calls Tryz.prog 161 #[va,vb] w fun e w'=>∃q r,e=.returned (.tuple #[q,r])/\LS w' (Fr w.heap.size w'.heap.size) r (natL (n % m))/\Below w.heap.size w w':=by
 have HC:=zh (ncmp_any va vb n m _ _ w ha hb);have hn32:=ha.lt32;have hm32:=hb.lt32;have HA:=zh ha;have HB:=zh hb;go_enter Tryz.func161,Tryz.ntmps161;go_wp2_with fail;refine HC.out.mono ?_;rintro e w2 ⟨rfl,k2,rfl⟩;have hb2:Below w.heap.size w (w.drewN k2):=Below.drewN' (zB _ _) k2;obtain⟨W2,hW2⟩:=zx (w.drewN k2);rw[<-hW2] at hb2 ⊢;have HB2:=zh hb2;have HA2:=zh (HA.out.below hb2);have HBB2:=zh (HB.out.below hb2);clear hb2 hW2 ha hb;by_cases hlt:n<m
 ·have q1:cmpI n m = -1:=if_pos hlt;rw[q1];have HD:=zh (show n % m=n from Nat.mod_eq_of_lt hlt);clear hlt q1;go_wp2_with fail;refine(ntrim_any va _ _ _ HA2.out (fun b h=>h) (by have:=natL_length n;omega)).mono ?_;rintro e w3 ⟨u,rfl,hO,hb2⟩;rw[trim_natL] at hO;have HO:=zh ((hO.ls (natL_mem hn32)).mono (Fr.wider HB2.out.size (zR _)));have hbz:=HB2.out.trans (hb2.mono HB2.out.size);clear hO hb2;go_wp2_with fail;go_ret2;exact⟨_,_,rfl,by rw[HD.out];exact HO.out,hbz⟩
 ·have hn:0<n:=by omega
  have q1:¬cmpI n m<0:=by unfold cmpI;rw[if_neg hlt];split <;> omega
  obtain⟨A,c,rfl,-,-⟩:=HBB2.out.form
  have l2:(natL m).length=1:=by rw[natL_pos hm];rfl
  rw[l2] at HBB2 ⊢;obtain⟨b2,o2,rfl,-,hc2⟩:=HBB2.out.one hm;have HS:=zh (nshort_any va n m _ W2 HA2.out (fun b h=>h) hn hm hm32);obtain⟨C,hC⟩:=zx (cmpI n m);rw[<-hC] at q1 ⊢;clear l2 hC hlt;go_wp2_with fail;refine HS.out.mono ?_;rintro e w3 ⟨u,rfl,hu,hb3⟩;have hmd:n % m<4294967296:=Nat.lt_trans (Nat.mod_lt _ hm) hm32;have HM:=zh (fun w=>nmake_any (n % m) w hmd);have HB3:=zh (HB2.out.trans (hb3.mono HB2.out.size));obtain⟨M,hM⟩:=zx (n % m);rw[<-hM] at HM hmd ⊢;have HMM:=zh hM
  have q2:(0:Int)<=(M:Int):=by omega
  have q3:(M:Int)<4294967296:=by omega
  clear hu hb3 hc2 hM hmd;go_wp2_with fail;refine(HM.out _).mono ?_;rintro e w4 ⟨u4,rfl,hu4,hb4⟩;have HU4:=zh (hu4.mono (Fr.wider HB3.out.size (zR _)));have HB4:=zh (HB3.out.trans (hb4.mono HB3.out.size));clear hu4 hb4;go_wp2_with fail;go_ret2;exact⟨_,_,rfl,by rw[<-HMM.out];exact HU4.out,HB4.out⟩
theorem ngcd_any(va vb:Value)(n m:Nat)(w:World)(ha:LS w (Bl w.heap.size) va (natL n))(hb:LS w (Bl w.heap.size) vb (natL m)) :
  Calls Tryz.prog 124 #[va,vb] w fun e w'=>∃g,e=.returned (.tuple #[g,.int .i64 0])/\LS w' (Fr w.heap.size w'.heap.size) g (natL (Nat.gcd n m))/\Below w.heap.size w w':=by
 have hn1:=natL_length n;have hm1:=natL_length m;have hn32:=ha.lt32;have hm32:=hb.lt32;have HA:=zh ha;have HB:=zh hb;have H1:=zh hn1;have H2:=zh hm1;have H3:=zh hn32;have H4:=zh hm32;clear ha hb hn1 hm1 hn32 hm32;go_enter Tryz.func124,Tryz.ntmps124;go_wp2_with fail;refine(nlarge_any va _ _ _ HA.out (Nat.le_trans H1.out (by omega))).mono ?_;rintro e w1 ⟨rfl,rfl⟩;go_wp2_with fail;refine(nlarge_any vb _ _ _ HB.out (Nat.le_trans H2.out (by omega))).mono ?_;rintro e w1 ⟨rfl,rfl⟩;go_wp2_with fail;refine(ntrim_any va _ _ _ HA.out (fun b h=>h) (Nat.le_trans H1.out (by omega))).mono ?_;rintro e w4 ⟨u4,rfl,hO4,hb4⟩;rw[trim_natL] at hO4;have HO4:=zh (hO4.ls (natL_mem H3.out));have HB4:=zh (HB.out.below hb4);have HC4:=zh hb4;clear hb4 hO4;go_wp2_with fail;refine(ntrim_any vb _ _ _ HB4.out (fun b h=>h) (Nat.le_trans H2.out (by omega))).mono ?_;rintro e w5 ⟨u5,rfl,hO5,hb5⟩;rw[trim_natL] at hO5;have hs4:=HC4.out.size;have HO45:=zh ((HO4.out.keep (w':=w5) (fun b hb=>hb5.block b hb.2)).mono (Fr.wider (zR _) hb5.size));have HO5:=zh ((hO5.ls (natL_mem H4.out)).mono (Fr.wider hs4 (zR _)));have HC5:=zh (HC4.out.trans (hb5.mono HC4.out.size));clear hb5 hO5 hs4;go_wp2_with fail;go_loopg [0,1] m (fun z v6 v7 wr=>Hid (∃x,Nat.gcd x z=Nat.gcd n m/\x<4294967296/\z<4294967296/\LS wr (Fr w.heap.size wr.heap.size) v6 (natL x)/\LS wr (Fr w.heap.size wr.heap.size) v7 (natL z))/\Hid (Below w.heap.size w wr))
 case atStart=>exact⟨⟨n,rfl,H3.out,H4.out,HO45.out,HO5.out⟩,HC5.out⟩
 case round =>
  obtain⟨hx,hbr⟩:=hrel;obtain⟨x,hgx,hx32,hz32,hox,hoz⟩:=hx.out;have HX:=zh hox;have HZ:=zh hoz;obtain⟨A6,c6,rfl,-,-⟩:=hox.form;obtain⟨A7,c7,rfl,-,-⟩:=hoz.form;have HBR:=zh hbr.out;have hlz:=natL_len (n:=gk);have hsz:=hbr.out.size;have LX:=zh (hox.mono Fr.bl);have LZ:=zh (hoz.mono Fr.bl);by_cases h0:gk=0
  ·have hl0:(natL gk).length=0:=hlz.1.2 h0;have HE:=zh (show x=Nat.gcd n m by rw[<-hgx,h0];simp);rw[hl0];clear hx hox hoz hgx hlz hl0 h0 hbr;go_wp2_with fail;go_ret2;exact⟨_,rfl,by rw[<-HE.out];exact HX.out,HBR.out⟩
  ·have hl1:(natL gk).length=1:=hlz.2.2 (by omega);have HM:=zh (Nat.mod_lt x (show 0<gk by omega));have HG:=zh (show Nat.gcd gk (x % gk)=Nat.gcd n m by rw[<-hgx,Nat.gcd_comm x gk,Nat.gcd_rec gk x,Nat.gcd_comm gk (x % gk)]);have HZ0:=zh (show 0<gk by omega);rw[hl1] at LZ HZ ⊢;clear hx hox hoz hgx hlz hl1 h0 hbr;go_wp2_with fail;refine(ndivide_any _ _ x gk _ LX.out LZ.out HZ0.out).mono ?_;rintro e w6 ⟨q,r,rfl,hr,hb6⟩;have HQ:=zh (hr.mono (Fr.wider hsz (zR _)));have HZ6:=zh ((HZ.out.keep (w':=w6) (fun b hb=>hb6.block b hb.2)).mono (Fr.wider (zR _) hb6.size));have HC6:=zh (HBR.out.trans (hb6.mono HBR.out.size));clear hr hb6;go_wp2_with fail;go_roundg (x % gk)
   case measure=>exact HM.out
   case rel=>exact⟨⟨gk,HG.out,hz32,Nat.lt_trans HM.out hz32,HZ6.out,HQ.out⟩,HC6.out⟩
theorem mul32(n m:Nat)(h:n*m<4294967296):IntKind.u64.wrap ((n:Int)*(m:Int))=((n*m:Nat):Int):=by
 rw[show(n:Int)*(m:Int)=((n*m:Nat):Int) by simp];exact IntWalk.u64_in _ (by constructor <;> omega)
theorem LS.cell2(w:World)(g n:Nat)(hn:n<4294967296)(hg:w.heap[g]?=some (.cells #[.int .u32 (n:Int),.int .u32 0] 107 (0,0)))(R:Nat->Prop)(hR:R g):LS w R (.slice (some ⟨g,0,none⟩) 2 2) [n,0]:=by
 refine⟨.inr ⟨g,0,2,rfl,zR _,by unfold maxLen;decide,hR,fun k x hk=>?_⟩,fun x hx=>?_⟩
 ·rw[Nat.zero_add,cell_of_row _ _ _ _ _ _ hg]
  match k,hk with
  | 0,hk=>simp at hk;subst hk;rfl
  | 1,hk=>simp at hk;subst hk;rfl
 ·simp at hx;rcases hx with rfl | rfl
  ·exact hn
  ·omega
theorem trim_zero2(n:Nat):trimL [n,0]=natL n:=trim_two n
theorem nmul_any(va vb:Value)(n m:Nat)(w:World)(ha:LS w (Bl w.heap.size) va (natL n))(hb:LS w (Bl w.heap.size) vb (natL m))(hm:0<m)(hnm:n*m<4294967296) :
  Calls Tryz.prog 162 #[va,vb] w fun e w'=>∃u,e=.returned (.tuple #[u,.int .i64 0])/\LS w' (Fr w.heap.size w'.heap.size) u (natL (n*m))/\Below w.heap.size w w':=by
 have HLA:=zh (nlarge_any va _ _ w ha (by have:=natL_length n;omega));have HLB:=zh (nlarge_any vb _ _ w hb (by have:=natL_length m;omega));have HA:=zh (fun k=>nlength_any va _ _ (w.drewN k) ha (by have:=natL_length n;omega));have HB:=zh (fun k=>nlength_any vb _ _ (w.drewN k) hb (by have:=natL_length m;omega));rw[trim_natL] at HA HB;have hm32:=hb.lt32;have hn32:=ha.lt32
 have lm:(natL m).length=1:=by rw[natL_pos hm];rfl
 obtain⟨B,d,rfl,-,-⟩:=hb.form;obtain⟨-,-,-,-,hd0,-⟩:=hb.cap (by rw[lm];omega);rw[lm] at hb HB HLB hd0 ⊢
 have hd1:(1:Int)<=(d:Int):=by omega
 obtain⟨b2,o2,rfl,hR2,hc2⟩:=hb.one hm;have HC2:=zh hc2;have HR2:=zh hR2;have hmk1:=mk_u32s1;have hmk2:=mk_u32s2;have HB0:=zh (show ∀k,Calls Tryz.prog 159 #[.slice (some ⟨b2,o2,none⟩) 1 d] (w.drewN k) fun e w'=>e=.returned (.int .i64 1)/\w.drewN k=w' from HB.out);clear hb lm hc2 hR2 hd0 HB;rcases Nat.eq_zero_or_pos n with h0 | h0
 ·subst h0;have HA0:=zh (show ∀k,Calls Tryz.prog 159 #[va] (w.drewN k) fun e w'=>e=.returned (.int .i64 0)/\w.drewN k=w' from HA.out);clear HA hnm;rcases ha.1 with ⟨rfl,-⟩ | ⟨b1,o1,c,hva,-,-,-,-⟩
  ·clear ha;go_enter Tryz.func162,Tryz.ntmps162;go_wp2_with fail;refine HLA.out.mono ?_;rintro e w1 ⟨rfl,rfl⟩;go_wp2_with fail;refine HLB.out.mono ?_;rintro e w1 ⟨rfl,rfl⟩;go_wp2_with fail
   go_quiet (first | with_reducible exact Calls.quiet_of_same ((HA0.out _).mono fun _ _ h=>⟨h.1,h.2.symm⟩) | with_reducible exact Calls.quiet_of_same ((HB0.out _).mono fun _ _ h=>⟨h.1,h.2.symm⟩))
   obtain⟨W,hW⟩:=zx (w.drewN nq);rw[<-hW]
   have hbW:Below w.heap.size w W:=by rw[hW];exact Below.drewN' (zB _ _) nq
   have HBW:=zh hbW;clear hbW hW;obtain⟨W3,hW3⟩:=zx (W.alloc (.cells #[.int .u32 0] 107));obtain⟨g,hg⟩:=zx W.heap.size
   have hg3:W3.heap[g]?=some (.cells #[.int .u32 0] 107 (0,0)):=by rw[hW3,hg];exact zN _ _
   have hgl:g<W3.heap.size:=(zA.1 hg3).1;have HB3:=zh (show Below w.heap.size w W3 from by rw[hW3];exact HBW.out.alloc HBW.out.size _);have HG:=zh (show w.heap.size<=g from by rw[hg];exact HBW.out.size);have hls:LS W3 (Bl W3.heap.size) (.slice (some ⟨g,0,none⟩) 1 1) [0]:=LS.cell1 W3 g 0 (by omega) hg3 _ hgl;have HS:=zh (nsized_any _ _ _ _ _ W3 hls (by simp) (by simp));have HG3:=zh hg3;have HW3:=zh hW3;have HGW:=zh hg;rw[show(trimL [0]).length=0 from rfl] at HS;clear hg3 hgl hls hW3 hg;go_upto_region 5 with fail;rw[<-HGW.out,<-HW3.out];clear hmk1 hmk2;go_wp2_with fail;go_loopg [34] 0 (fun z v34 wr=>v34=.int .i64 0/\W3=wr)
   case atStart=>exact⟨rfl,rfl⟩
   case round =>
    obtain⟨rfl,rfl⟩:=hrel;go_wp2_with fail;refine HS.out.mono ?_;rintro e w4 ⟨rfl,rfl⟩;go_wp2_with fail;go_ret2;exact⟨_,rfl,⟨.inr ⟨g,0,0,by rw[Nat.zero_mul];rfl,by rw[Nat.zero_mul];exact zR _,by unfold maxLen;omega,⟨HG.out,(zA.1 HG3.out).1⟩,fun k x hk=>by rw[Nat.zero_mul] at hk;simp[natL_zero] at hk⟩,fun x hx=>by rw[Nat.zero_mul] at hx;simp[natL_zero] at hx⟩,HB3.out⟩
  ·have hva2:va=.slice (some ⟨b1,o1,none⟩) 0 c:=hva;subst hva2;clear ha hva;go_enter Tryz.func162,Tryz.ntmps162;go_wp2_with fail;refine HLA.out.mono ?_;rintro e w1 ⟨rfl,rfl⟩;go_wp2_with fail;refine HLB.out.mono ?_;rintro e w1 ⟨rfl,rfl⟩;go_wp2_with fail
   go_quiet (first | with_reducible exact Calls.quiet_of_same ((HA0.out _).mono fun _ _ h=>⟨h.1,h.2.symm⟩) | with_reducible exact Calls.quiet_of_same ((HB0.out _).mono fun _ _ h=>⟨h.1,h.2.symm⟩))
   obtain⟨W,hW⟩:=zx (w.drewN nq);rw[<-hW]
   have hbW:Below w.heap.size w W:=by rw[hW];exact Below.drewN' (zB _ _) nq
   have HBW:=zh hbW;clear hbW hW;obtain⟨W3,hW3⟩:=zx (W.alloc (.cells #[.int .u32 0] 107));obtain⟨g,hg⟩:=zx W.heap.size
   have hg3:W3.heap[g]?=some (.cells #[.int .u32 0] 107 (0,0)):=by rw[hW3,hg];exact zN _ _
   have hgl:g<W3.heap.size:=(zA.1 hg3).1;have HB3:=zh (show Below w.heap.size w W3 from by rw[hW3];exact HBW.out.alloc HBW.out.size _);have HG:=zh (show w.heap.size<=g from by rw[hg];exact HBW.out.size);have hls:LS W3 (Bl W3.heap.size) (.slice (some ⟨g,0,none⟩) 1 1) [0]:=LS.cell1 W3 g 0 (by omega) hg3 _ hgl;have HS:=zh (nsized_any _ _ _ _ _ W3 hls (by simp) (by simp));have HG3:=zh hg3;have HW3:=zh hW3;have HGW:=zh hg;rw[show(trimL [0]).length=0 from rfl] at HS;clear hg3 hgl hls hW3 hg;go_upto_region 5 with fail;rw[<-HGW.out,<-HW3.out];clear hmk1 hmk2;go_wp2_with fail;go_loopg [34] 0 (fun z v34 wr=>v34=.int .i64 0/\W3=wr)
   case atStart=>exact⟨rfl,rfl⟩
   case round =>
    obtain⟨rfl,rfl⟩:=hrel;go_wp2_with fail;refine HS.out.mono ?_;rintro e w4 ⟨rfl,rfl⟩;go_wp2_with fail;go_ret2;exact⟨_,rfl,⟨.inr ⟨g,0,0,by rw[Nat.zero_mul];rfl,by rw[Nat.zero_mul];exact zR _,by unfold maxLen;omega,⟨HG.out,(zA.1 HG3.out).1⟩,fun k x hk=>by rw[Nat.zero_mul] at hk;simp[natL_zero] at hk⟩,fun x hx=>by rw[Nat.zero_mul] at hx;simp[natL_zero] at hx⟩,HB3.out⟩
 ·have ln:(natL n).length=1:=by rw[natL_pos h0];rfl
  obtain⟨A,c,rfl,-,-⟩:=ha.form;obtain⟨-,-,-,-,hc0,-⟩:=ha.cap (by rw[ln];omega);rw[ln] at ha HA HLA hc0 ⊢
  have hc1:(1:Int)<=(c:Int):=by omega
  obtain⟨b1,o1,rfl,hR1,hk1⟩:=ha.one h0;have HA0:=zh (show ∀k,Calls Tryz.prog 159 #[.slice (some ⟨b1,o1,none⟩) 1 c] (w.drewN k) fun e w'=>e=.returned (.int .i64 1)/\w.drewN k=w' from HA.out);have HC1:=zh hk1;have HR1:=zh hR1;clear HA ha ln hc0 hk1 hR1;go_enter Tryz.func162,Tryz.ntmps162;go_wp2_with fail;refine HLA.out.mono ?_;rintro e w1 ⟨rfl,rfl⟩;go_wp2_with fail;refine HLB.out.mono ?_;rintro e w1 ⟨rfl,rfl⟩;go_wp2_with fail
  go_quiet (first | with_reducible exact Calls.quiet_of_same ((HA0.out _).mono fun _ _ h=>⟨h.1,h.2.symm⟩) | with_reducible exact Calls.quiet_of_same ((HB0.out _).mono fun _ _ h=>⟨h.1,h.2.symm⟩))
  obtain⟨W,hW⟩:=zx (w.drewN nq);rw[<-hW]
  have hbW:Below w.heap.size w W:=by rw[hW];exact Below.drewN' (zB _ _) nq
  have HBW:=zh hbW;clear hbW hW;obtain⟨W3,hW3⟩:=zx (W.alloc (.cells #[.int .u32 0,.int .u32 0] 107));obtain⟨g,hg⟩:=zx W.heap.size
  have hg3:W3.heap[g]?=some (.cells #[.int .u32 0,.int .u32 0] 107 (0,0)):=by rw[hW3,hg];exact zN _ _
  have hgl:g<W3.heap.size:=(zA.1 hg3).1;have HB3:=zh (show Below w.heap.size w W3 from by rw[hW3];exact HBW.out.alloc HBW.out.size _);have HG:=zh (show w.heap.size<=g from by rw[hg];exact HBW.out.size);have k1:W3.cell? ⟨b1,o1,none⟩=some (.int .u32 (n:Int)):=(HB3.out.cell (p:=⟨b1,o1,none⟩) HR1.out).trans HC1.out;have k2:W3.cell? ⟨b2,o2,none⟩=some (.int .u32 (m:Int)):=(HB3.out.cell (p:=⟨b2,o2,none⟩) HR2.out).trans HC2.out
  have kg0:W3.cell? ⟨g,0,none⟩=some (.int .u32 0):=by rw[cell_of_row _ _ _ _ _ _ hg3];rfl
  have kg1:W3.cell? ⟨g,1,none⟩=some (.int .u32 0):=by rw[cell_of_row _ _ _ _ _ _ hg3];rfl
  have kf0:W3.frozen? ⟨g,0,none⟩=false:=frozen_of_row _ _ _ _ _ hg3;have kf1:W3.frozen? ⟨g,1,none⟩=false:=frozen_of_row _ _ _ _ _ hg3
  have e1:b1≠g:=by have:=HR1.out;have:=HG.out;unfold Bl at *;omega
  have e2:b2≠g:=by have:=HR2.out;have:=HG.out;unfold Bl at *;omega
  have HG3:=zh hg3;have HW3:=zh hW3;have HGW:=zh hg
  have n0:(0:Int)<=(n:Int):=by omega
  have n1:(n:Int)<4294967296:=by omega
  have m0:(0:Int)<=(m:Int):=by omega
  have m1:(m:Int)<4294967296:=by omega
  have hmul:=mul32 n m hnm;obtain⟨NM,hNM⟩:=zx (n*m);rw[<-hNM] at hmul hnm
  have q0:(0:Int)<=(NM:Int):=by omega
  have q1:(NM:Int)<4294967296:=by omega
  have HNM:=zh hNM
  have hdiv:(NM:Int) / 4294967296=0:=by omega
  clear hg3 hW3 hg hNM;go_upto_region 5 with fail;rw[<-HGW.out,<-HW3.out];clear hmk1 hmk2;go_wp2_with fail;go_loopg [7,8,9,10,11,34] 1 (fun z v7 v8 v9 v10 v11 v34 wr=>(z=1/\v34=.int .i64 0/\W3=wr)\/(z=0/\v34=.int .i64 1/\Hid (wr.heap[g]?=some (.cells #[.int .u32 (NM:Int),.int .u32 0] 107 (0,0)))/\Hid (Below w.heap.size w wr)))
  case atStart=>exact .inl ⟨rfl,rfl,rfl⟩
  case round =>
   rcases hrel with ⟨rfl,rfl,rfl⟩ | ⟨rfl,rfl,hgc,hbr⟩
   ·go_wp2_with fail;go_loopg [9,10,11,41] 1 (fun z v9 v10 v11 v41 wr=>(z=1/\v41=.int .i64 0/\v9=.int .u64 0/\W3=wr)\/(z=0/\v41=.int .i64 1/\v9=.int .u64 0/\wr=W3.setCell ⟨g,0,none⟩ (.int .u32 (NM:Int))))
    case atStart=>exact .inl ⟨rfl,rfl,rfl,rfl⟩
    case round =>
     rcases hrel with ⟨rfl,rfl,rfl,rfl⟩ | ⟨rfl,rfl,rfl,rfl⟩
     ·go_wp2_with fail;go_roundg 0
      case measure=>omega
      case rel=>exact .inr ⟨rfl,rfl,rfl,rfl⟩
     ·obtain⟨W4,hW4⟩:=zx (W3.setCell ⟨g,0,none⟩ (.int .u32 (NM:Int)))
      have hg4:W4.heap[g]?=some (.cells #[.int .u32 (NM:Int),.int .u32 0] 107 (0,0)):=by rw[hW4];exact heap_setCell_same W3 g 0 _ _ _ HG3.out
      have HB4:=zh (show Below w.heap.size w W4 from by rw[hW4];exact HB3.out.setCell HG.out _);have HG4:=zh hg4
      have kg4:W4.cell? ⟨g,1,none⟩=some (.int .u32 0):=by rw[cell_of_row _ _ _ _ _ _ hg4];rfl
      have kf4:W4.frozen? ⟨g,1,none⟩=false:=frozen_of_row _ _ _ _ _ hg4;rw[<-hW4];clear hW4 hg4 kg0 kg1 kf0 kf1 k1 k2;go_wp2_with fail;go_roundg 0
      case measure=>omega
      case rel=>exact .inr ⟨rfl,rfl,heap_setCell_same W4 g 1 _ _ _ HG4.out,HB4.out.setCell HG.out _⟩
   ·have hgl:g<wr.heap.size:=(zA.1 hgc.out).1;have hls:LS wr (Bl wr.heap.size) (.slice (some ⟨g,0,none⟩) 2 2) [NM,0]:=LS.cell2 wr g NM (by omega) hgc.out _ hgl;have HS:=zh (nsized_any _ _ _ _ _ wr hls (by simp) (by simp))
    have hr:=((hls.take (natL NM).length (natL NM).length (by have:=natL_length NM;simp;omega) (zR _) (by have:=natL_length NM;unfold maxLen;omega) (by simp)).only (R':=Fr w.heap.size wr.heap.size) (fun b o hb=>by
     injection hb with hb;injection hb with hb;rw[<-hb]
     exact⟨HG.out,hgl⟩))
    rw[trim_zero2] at HS
    have ht:[NM,0].take (natL NM).length=natL NM:=by
     rcases Nat.eq_zero_or_pos NM with h | h
     ·rw[h];rfl
     ·rw[natL_pos h];rfl
    rw[ht] at hr;have HR:=zh hr;have HBR:=zh hbr.out;clear hls hr ht hgc hbr hgl k1 k2 kg0 kg1 kf0 kf1;go_wp2_with fail;refine HS.out.mono ?_;rintro e w4 ⟨rfl,rfl⟩;go_wp2_with fail;go_ret2;exact⟨_,rfl,by rw[<-HNM.out];exact HR.out,HBR.out⟩
end Go.Proofs.YtgfaieppacabjaaGreat
