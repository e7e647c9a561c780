/- Parts. -/
import Derived.Test.YtgfaieppacabjaaGreatMq08
import Derived.Shelf.SlicesE.Clone
set_option linter.unusedSectionVars false
set_option maxRecDepth 100000
set_option maxHeartbeats 12800000
set_option linter.unusedVariables false
set_option linter.unusedSimpArgs false
namespace Go.Proofs.YtgfaieppacabjaaGreat
open Go.RowKit
theorem OwnI.nil(w:World)(base:Nat):OwnI w base (.slice none 0 0) []:=World.ownsRow_nil _ _ _ _
theorem OwnI.below{w w2:World}{base:Nat}{v:Value}{xs:List Int}(h:OwnI w base v xs)(hb:Below w.heap.size w w2):OwnI w2 base v xs:=own_below h hb
theorem OwnI.base{w:World}{B B':Nat}{v:Value}{xs:List Int}(h:OwnI w B v xs)(hB:B'<=B):OwnI w B' v xs:=own_base h hB
theorem OwnI.intS{w:World}{base:Nat}{v:Value}{xs:List Int}(h:OwnI w base v xs)(hx:∀x∈xs,I64 x):IntS w (Fr base w.heap.size) v xs :=
 IntS.own h (fun b hb=>h.lt b hb) hx
theorem OwnI.lt{w:World}{base:Nat}{v:Value}{xs:List Int}(h:OwnI w base v xs):∀b,v.ownBlock=some b->base<=b/\b<w.heap.size:=World.ownsRow.lt h
theorem OwnI.form{w:World}{base:Nat}{v:Value}{xs:List Int}(h:OwnI w base v xs):∃A c,v=.slice A xs.length c:=own_form h
theorem info_int2:(Tryz.prog.info? 3).map (fun i=>(i.zero,i.size,i.bytes))=some (some (.int .i64 0),1,8):=by kernel_rfl
theorem app_i{ops:Array Oper}{rest:List Oper}{o:Oper}{a:Act}{Q:Exit->Act->World->Prop}{w:World}(x0:Int)(s x:Operand)(hgd:o.guard=none)(ho:o.op=.call { callee:=.builtin .append,args:=#[s,x],argTypes:=#[22,22] })
  (base:Nat) (v:Value) (n:Nat) (xs:List Int) (hl:xs.length=n) (hs:a.eval s=v) (hown:w.ownsRow base 3 1 v n (xs.map (Value.int .i64)))
  (hx:a.eval x=.slice (some ⟨w.heap.size,0,none⟩) 1 1) (hn:n+1<=16777216) (hbase:base<=w.heap.size)
  (h:∀v' w',OwnI w' base v' (xs++[x0])->w.grownBy w' v.ownBlock->(v'.ownBlock=v.ownBlock\/v'.ownBlock=some (w.heap.size+1))->wpList Tryz.prog ops Q rest (a.put o.dst v') w') :
  wpList Tryz.prog ops Q (o :: rest) a (w.alloc (.cells #[.int .i64 x0] 3)):=by
 obtain⟨i0,hi0,hz0,hz1,hz2⟩:=info_parts info_int2;refine wpList_append1 hgd s x _ ho base i0 _ 1 8 Tryz.underlying22 hi0 hz0 hz1 hz2 rfl (by omega) (by omega) v n _ hs hown hx rfl (by simp;rfl) hn hbase (fun v' w' h1=>h v' w' ?_);unfold OwnI;rw[zP,hl,List.map_append];exact h1
open Go.ChangeMaps Go.MapKept Go.WideShapes
open Go.WideElems (Fit rd rg pl rd_key rd_val rg_of)
open Go.Maps (Keyed)
def kv(a b:Int):Value:=.agg #[.int .i64 a,.int .i64 b]
def rawR(v:Value):Option (DataW Value×List MemPlace):=some (.held v,[])
theorem rawR_inj{v:Value}{d:DataW Value}{ps:List MemPlace}(h:rawR v=some (d,ps)):d=.held v:=by
 unfold rawR at h;injection h with h;injection h with h1 h2;exact h1.symm
theorem held_inj{a b:Value}(h:(DataW.held a:DataW Value)=.held b):a=b:=by injection h
section
variable {w : World} {kt t e : TypeId} {b n : Nat} {f : Int -> Int -> Option Value} {x y : Int} {z : Value}
end
section
variable {w : World} {ops : Array Oper} {rest : List Oper} {o : Oper} {a : Act} {Q : Exit -> Act -> World -> Prop}
end
section
variable {w : World} {ops : Array Oper} {rest : List Oper} {o : Oper} {a : Act} {Q : Exit -> Act -> World -> Prop}
end
noncomputable def gotten (kt : TypeId) (D : DataW Value) (left : Lit -> Bool) (z : Value) : Int -> Int -> Option Value := fun x y =>
  match keyOf Tryz.prog kt (kv x y) with
  | some l => if Maps.has D l = true /\ left l = false then some z else none
  | none => none
structure LawM where
 name:ByteArray
 start:List Frc
 rates:List (List Frc)
 exit:List Frc
structure ModM where
 name:ByteArray
 ext:Int
 port:Int
 law:Int
structure DomM where
 name:ByteArray
 level:Int
 parent:Int
 uplink:Int
 shock:Frc
structure DveM where
 name:ByteArray
 model:Int
 machine:Int
structure PolM where
 name:ByteArray
 k:Int
 m:Int
 q:Int
 s3:Int
 s4:Int
 models:List Int
 repair:List Frc
 target:Frc
 horizon:Frc
structure VolM where
 name:ByteArray
 pol:Int
structure FltM where
 ext:Int
 laws:List LawM
 models:List ModM
 doms:List DomM
 dves:List DveM
 pols:List PolM
 vols:List VolM
def FrcK(w:World)(R:Nat->Prop)(cs:List Value)(x:Frc):Prop:=∃vn vd,cs=[.bool x.neg,vn,vd]/\LS w R vn (natL x.num)/\LS w R vd (natL x.den)
def RowFK(w:World)(R:Nat->Prop)(cs:List Value)(l:List Frc):Prop:=∃v,cs=[v]/\SlS 3 FrcK w R v l
def LawK(w:World)(R:Nat->Prop)(cs:List Value)(x:LawM):Prop:=∃vs vr ve,cs=[.string x.name,vs,vr,ve]/\SlS 3 FrcK w R vs x.start/\SlS 1 RowFK w R vr x.rates/\SlS 3 FrcK w R ve x.exit
def ModK(w:World)(R:Nat->Prop)(cs:List Value)(x:ModM):Prop:=cs=[.string x.name,.int .i64 x.ext,.int .i64 x.port,.int .i64 x.law]
def DomK(w:World)(R:Nat->Prop)(cs:List Value)(x:DomM):Prop:=∃vn vd,cs=[.string x.name,.int .i64 x.level,.int .i64 x.parent,.int .i64 x.uplink,.bool x.shock.neg,vn,vd]/\LS w R vn (natL x.shock.num)/\LS w R vd (natL x.shock.den)
def DveK(w:World)(R:Nat->Prop)(cs:List Value)(x:DveM):Prop:=cs=[.string x.name,.int .i64 x.model,.int .i64 x.machine]
def PolK(w:World)(R:Nat->Prop)(cs:List Value)(x:PolM):Prop:=∃vm vr tn td hn hd,cs=[.string x.name,.int .i64 x.k,.int .i64 x.m,.int .i64 x.q,.int .i64 0,.int .i64 0,.int .i64 0,.int .i64 x.s3,.int .i64 x.s4,vm,vr,.bool x.target.neg,tn,td,.bool x.horizon.neg,hn,hd] /\
 IntS w R vm x.models/\SlS 3 FrcK w R vr x.repair/\LS w R tn (natL x.target.num)/\LS w R td (natL x.target.den)/\LS w R hn (natL x.horizon.num)/\LS w R hd (natL x.horizon.den)
def VolK(w:World)(R:Nat->Prop)(cs:List Value)(x:VolM):Prop:=cs=[.string x.name,.int .i64 x.pol]
theorem frcK:Steady FrcK:=⟨fun hk ⟨a,b,e,h1,h2⟩=>⟨a,b,e,h1.keep hk,h2.keep hk⟩,fun hr ⟨a,b,e,h1,h2⟩=>⟨a,b,e,h1.mono hr,h2.mono hr⟩⟩
theorem rowFK:Steady RowFK:=⟨fun hk ⟨v,e,h⟩=>⟨v,e,SlS.keep frcK h hk⟩,fun hr ⟨v,e,h⟩=>⟨v,e,SlS.mono frcK h hr⟩⟩
theorem lawK:Steady LawK:=⟨fun hk ⟨a,b,c,e,h1,h2,h3⟩=>⟨a,b,c,e,SlS.keep frcK h1 hk,SlS.keep rowFK h2 hk,SlS.keep frcK h3 hk⟩,fun hr ⟨a,b,c,e,h1,h2,h3⟩=>⟨a,b,c,e,SlS.mono frcK h1 hr,SlS.mono rowFK h2 hr,SlS.mono frcK h3 hr⟩⟩
theorem modK:Steady ModK:=⟨fun _ h=>h,fun _ h=>h⟩
theorem domK:Steady DomK:=⟨fun hk ⟨a,b,e,h1,h2⟩=>⟨a,b,e,h1.keep hk,h2.keep hk⟩,fun hr ⟨a,b,e,h1,h2⟩=>⟨a,b,e,h1.mono hr,h2.mono hr⟩⟩
theorem dveK:Steady DveK:=⟨fun _ h=>h,fun _ h=>h⟩
theorem polK:Steady PolK:=⟨fun hk ⟨a,b,c,d,f,g,e,h1,h2,h3,h4,h5,h6⟩=>⟨a,b,c,d,f,g,e,h1.keep hk,SlS.keep frcK h2 hk,h3.keep hk,h4.keep hk,h5.keep hk,h6.keep hk⟩,
 fun hr ⟨a,b,c,d,f,g,e,h1,h2,h3,h4,h5,h6⟩=>⟨a,b,c,d,f,g,e,h1.mono hr,SlS.mono frcK h2 hr,h3.mono hr,h4.mono hr,h5.mono hr,h6.mono hr⟩⟩
theorem volK:Steady VolK:=⟨fun _ h=>h,fun _ h=>h⟩
def FleetS(w:World)(R:Nat->Prop)(vl vm vd vv vp vo:Value)(F:FltM):Prop :=
 SlS 4 LawK w R vl F.laws/\SlS 4 ModK w R vm F.models/\SlS 7 DomK w R vd F.doms/\SlS 3 DveK w R vv F.dves/\SlS 17 PolK w R vp F.pols/\SlS 2 VolK w R vo F.vols
theorem FleetS.keep{w w':World}{R:Nat->Prop}{vl vm vd vv vp vo:Value}{F:FltM}(h:FleetS w R vl vm vd vv vp vo F)(hk:Kept R w w'):FleetS w' R vl vm vd vv vp vo F :=
 ⟨SlS.keep lawK h.1 hk,SlS.keep modK h.2.1 hk,SlS.keep domK h.2.2.1 hk,SlS.keep dveK h.2.2.2.1 hk,SlS.keep polK h.2.2.2.2.1 hk,SlS.keep volK h.2.2.2.2.2 hk⟩
theorem FleetS.mono{w:World}{R R':Nat->Prop}{vl vm vd vv vp vo:Value}{F:FltM}(h:FleetS w R vl vm vd vv vp vo F)(hr:∀b,R b->R' b):FleetS w R' vl vm vd vv vp vo F :=
 ⟨SlS.mono lawK h.1 hr,SlS.mono modK h.2.1 hr,SlS.mono domK h.2.2.1 hr,SlS.mono dveK h.2.2.2.1 hr,SlS.mono polK h.2.2.2.2.1 hr,SlS.mono volK h.2.2.2.2.2 hr⟩
theorem FleetS.below{w w':World}{vl vm vd vv vp vo:Value}{F:FltM}(h:FleetS w (Bl w.heap.size) vl vm vd vv vp vo F)(hb:Below w.heap.size w w'):FleetS w' (Bl w'.heap.size) vl vm vd vv vp vo F:=(h.keep (kept_below hb)).mono (Bl.mono hb.size)
def Cold(B:Nat)(w:World)(hot:List (Option Nat))(b:Nat):Prop:=B<=b/\b<w.heap.size/\some b∉hot
def OwnK{α:Type}(size:Nat)(K:World->(Nat->Prop)->List Value->α->Prop)(w:World)(base:Nat)(e:TypeId)(v:Value)(es:List α)(R:Nat->Prop):Prop :=
 ∃cs:List Value,w.ownsRow base e size v es.length cs/\∀k a,es[k]?=some a->∃c,c.length=size/\(∀i u,c[i]?=some u->cs[k*size+i]?=some u)/\K w R c a
theorem OwnK.nil{α:Type}(size:Nat)(K:World->(Nat->Prop)->List Value->α->Prop)(w:World)(base:Nat)(e:TypeId)(R:Nat->Prop):OwnK size K w base e (.slice none 0 0) ([]:List α) R:=⟨[],World.ownsRow_nil _ _ _ _,fun k a h=>by simp at h⟩
theorem OwnK.form{α:Type}{size:Nat}{K:World->(Nat->Prop)->List Value->α->Prop}{w:World}{base:Nat}{e:TypeId}{v:Value}{es:List α}{R:Nat->Prop}(h:OwnK size K w base e v es R):∃A c,v=.slice A es.length c:=by
 obtain⟨cs,h1,-⟩:=h;exact own_form h1
theorem OwnK.lt{α:Type}{size:Nat}{K:World->(Nat->Prop)->List Value->α->Prop}{w:World}{base:Nat}{e:TypeId}{v:Value}{es:List α}{R:Nat->Prop}(h:OwnK size K w base e v es R):∀b,v.ownBlock=some b->base<=b/\b<w.heap.size:=by
 obtain⟨cs,h1,-⟩:=h;exact h1.lt
theorem OwnK.mono{α:Type}{size:Nat}{K:World->(Nat->Prop)->List Value->α->Prop}(hK:Steady K){w:World}{base:Nat}{e:TypeId}{v:Value}{es:List α}{R R':Nat->Prop}(h:OwnK size K w base e v es R)(hr:∀b,R b->R' b):OwnK size K w base e v es R':=by
 obtain⟨cs,h1,h2⟩:=h;refine⟨cs,h1,fun k a ha=>?_⟩;obtain⟨c,g1,g2,g3⟩:=h2 k a ha;exact⟨c,g1,g2,hK.mono hr g3⟩
theorem OwnK.push{α:Type}{size:Nat}{K:World->(Nat->Prop)->List Value->α->Prop}(hK:Steady K){w w':World}{base:Nat}{e:TypeId}{v v':Value}{es:List α}{R R':Nat->Prop}{cs c:List Value}{a:α}
  (h2:∀k x,es[k]?=some x->∃c,c.length=size/\(∀i u,c[i]?=some u->cs[k*size+i]?=some u)/\K w R c x) (hl:cs.length=es.length*size) (ho:w'.ownsRow base e size v' (es.length+1) (cs++c)) (hc:c.length=size) (hk:Kept R w w') (hr:∀b,R b->R' b) (ha:K w' R' c a):OwnK size K w' base e v' (es++[a]) R':=by
 refine⟨cs++c,by rw[zP];exact ho,fun k x hx=>?_⟩;rcases Nat.lt_or_ge k es.length with hlt | hge
 ·rw[List.getElem?_append_left hlt] at hx;obtain⟨c2,g1,g2,g3⟩:=h2 k x hx
  exact⟨c2,g1,fun i u hu=>by
   have h3:=g2 i u hu
   rw[List.getElem?_append_left (zL.1 h3).1];exact h3,hK.mono hr (hK.keep hk g3)⟩
 ·have hke:k=es.length:=by
   have:=(zL.1 hx).1;rw[zP] at this;simp at this;omega
  subst hke;rw[List.getElem?_append_right (zR _),Nat.sub_self] at hx;simp at hx;subst hx;exact⟨c,hc,fun i u hu=>by rw[List.getElem?_append_right (by omega),hl,Nat.add_sub_cancel_left];exact hu,ha⟩
theorem OwnK.slS{α:Type}{size:Nat}{K:World->(Nat->Prop)->List Value->α->Prop}(hK:Steady K){w:World}{base:Nat}{e:TypeId}{v:Value}{es:List α}{R R':Nat->Prop}(h:OwnK size K w base e v es R)(hr:∀b,R b->R' b)(hR:∀b,v.ownBlock=some b->R' b):SlS size K w R' v es:=by
 obtain⟨cs,h1,h2⟩:=h
 have hc:=fun g=>h1.cells (g:=g)
 rcases h1.2 with ⟨rfl,h0⟩ | ⟨g,cap,cur,rfl,_,_,h4,h3,_⟩
 ·unfold SlS;rw[h0];exact Row.nil _ _ _
 ·refine⟨_,cap,rfl,h4,Nat.le_trans h4 h3,fun _=>⟨g,0,rfl,hR g rfl,fun k a ha=>?_⟩⟩;obtain⟨c,g1,g2,g3⟩:=h2 k a ha;refine⟨c,g1,fun i u hu=>?_,hK.mono hr g3⟩
  have e1:∀j,(⟨g,0,none⟩:Addr).add j=⟨g,0+j,none⟩:=fun j=>by unfold Addr.add;split <;> simp_all
  rw[Nat.add_assoc,<-e1];exact hc g rfl _ _ (g2 i u hu)
def nameL(c:UInt8)(n:Nat):List UInt8:=[c,UInt8.ofNat (97+n / 26 % 26),UInt8.ofNat (97+n % 26)]
theorem name_any(c:UInt8)(n:Nat)(w:World)(hn:n<=1000) :
  Calls Tryz.prog 63 #[.int .u8 (c.toNat:Int),.int .i64 (n:Int)] w fun e w'=>e=.returned (.string ⟨(nameL c n).toArray⟩)/\Below w.heap.size w w':=by
 have q0:(0:Int)<=(n:Int):=by omega
 have q1:(n:Int)<=1000:=by omega
 have e1:(((UInt8.ofNat (97+n / 26 % 26)).toNat:Nat):Int)=97+(n:Int) / 26 % 26:=by rw[UInt8.toNat_ofNat',Nat.mod_eq_of_lt (by omega)];omega
 have e2:(((UInt8.ofNat (97+n % 26)).toNat:Nat):Int)=97+(n:Int) % 26:=by rw[UInt8.toNat_ofNat',Nat.mod_eq_of_lt (by omega)];omega
 have hcv:=conv_bytes (ByS.lit w (nameL c n) 5 (by simp[nameL,maxLen]))
 have e3:(bys (nameL c n)).toArray=#[.int .u8 (c.toNat:Int),.int .u8 (97+(n:Int) / 26 % 26),.int .u8 (97+(n:Int) % 26)]:=by simp only[bys,nameL,List.map_cons,List.map_nil,e1,e2]
 rw[e3,show(nameL c n).length=3 from rfl] at hcv;clear e1 e2 e3;go_enter Tryz.func63,Tryz.ntmps63;go_wp2_with fail;go_ret;exact⟨rfl,(zB _ _).alloc (zR _) _⟩
theorem HotBy.grown{hot:List (Option Nat)}{w w':World}{row:Option Nat}(h:w.grownBy w' row)(hr:row∈hot\/row=none):HotBy hot w w' :=
 ⟨h.os,h.tape,h.output,h.size,fun b hb hn=>h.block b hb (fun e=>by
  rcases hr with hr | hr
  ·exact hn (e▸hr)
  ·rw[hr] at e;cases e)⟩
theorem HotBy.alloc(hot:List (Option Nat))(w:World)(o:Obj):HotBy hot w (w.alloc o):=⟨rfl,rfl,rfl,by simp,fun b hb _=>zH w o b hb⟩
theorem HotBy.drew{hot:List (Option Nat)}{a w:World}(h:HotBy hot a w):HotBy hot a w.drew:=⟨h.os,h.tape,h.output,h.size,h.block⟩
def FltB(w:World)(g:Nat)(e:Int)(vl vm vd vv vp vo:Value):Prop:=w.heap[g]?=some (.cells #[.int .i64 e,vl,vm,vd,vv,vp,vo] 35 (0,0))
theorem FltB.cells{w:World}{g:Nat}{e:Int}{vl vm vd vv vp vo:Value}(h:FltB w g e vl vm vd vv vp vo) :
  w.cell? ⟨g,0,none⟩=some (.int .i64 e)/\w.cell? ⟨g,1,none⟩=some vl/\w.cell? ⟨g,2,none⟩=some vm/\w.cell? ⟨g,3,none⟩=some vd/\w.cell? ⟨g,4,none⟩=some vv/\w.cell? ⟨g,5,none⟩=some vp/\w.cell? ⟨g,6,none⟩=some vo/\(∀i,w.frozen? ⟨g,i,none⟩=false) :=
 ⟨by rw[cell_of_row _ _ _ _ _ _ h];rfl,by rw[cell_of_row _ _ _ _ _ _ h];rfl,by rw[cell_of_row _ _ _ _ _ _ h];rfl,by rw[cell_of_row _ _ _ _ _ _ h];rfl,by rw[cell_of_row _ _ _ _ _ _ h];rfl,by rw[cell_of_row _ _ _ _ _ _ h];rfl,by rw[cell_of_row _ _ _ _ _ _ h];rfl,fun i=>frozen_of_row _ _ _ _ _ h⟩
theorem FltB.lt{w:World}{g:Nat}{e:Int}{vl vm vd vv vp vo:Value}(h:FltB w g e vl vm vd vv vp vo):g<w.heap.size:=(zA.1 h).1
theorem frac01(w:World):Calls Tryz.prog 9 #[.int .i64 0,.int .i64 1] w fun e w'=>∃v,e=.returned v/\(∃vn vd,v=.agg #[.bool false,vn,vd]/\LS w' (Fr w.heap.size w'.heap.size) vn (natL 0)/\LS w' (Fr w.heap.size w'.heap.size) vd (natL 1))/\Below w.heap.size w w':=frac_any 0 1 w (by omega) (by omega) (by omega)
theorem FltB.below{w w':World}{g:Nat}{e:Int}{vl vm vd vv vp vo:Value}(h:FltB w g e vl vm vd vv vp vo)(hb:Below w.heap.size w w'):FltB w' g e vl vm vd vv vp vo:=(hb.block g h.lt).trans h
theorem FltB.grown5{w w':World}{o:Obj}{g:Nat}{e:Int}{vl vm vd vv vp vo:Value}{row:Option Nat}(h:FltB w g e vl vm vd vv vp vo)(hg:(w.alloc o).grownBy w' row)(hne:some g≠row):FltB w' g e vl vm vd vv vp vo :=
 (hg.block g (by have:=h.lt;simp;omega) hne).trans ((zH w o g h.lt).trans h)
theorem FltB.set3{w:World}{g:Nat}{e:Int}{vl vm vd vv vp vo:Value}(h:FltB w g e vl vm vd vv vp vo)(u:Value):FltB (w.setCell ⟨g,3,none⟩ u) g e vl vm u vv vp vo:=heap_setCell_same w g 3 _ _ u h
theorem dom_nested{w w2 w3 w5:World}{o:Obj}{vd v u:Value}{l:List Nat}{g gg B n cap:Nat}(h:LS w3 (Fr w2.heap.size w3.heap.size) v l)(h2:w.heap.size<=w2.heap.size)(hg:(w3.alloc o).grownBy w5 vd.ownBlock)(ho:∀b,vd.ownBlock=some b->B<=b/\b<w.heap.size)(hB:g<B)
  (hat:vd.ownBlock=some gg\/gg=w3.heap.size+1) (h3:w.heap.size<=w3.heap.size) (hgl:g<w.heap.size) :
  LS (w5.setCell ⟨g,3,none⟩ u) (fun b=>w.heap.size<=b/\b<(w5.setCell ⟨g,3,none⟩ u).heap.size/\(Value.slice (some ⟨gg,0,none⟩) n cap).ownBlock≠some b) v l:=by
 have hs5:=hg.size
 have hk:Kept (Fr w2.heap.size w3.heap.size) w3 (w5.setCell ⟨g,3,none⟩ u):=fun b hb=>by
  have hlt:=hb.2;have hge:=hb.1;rw[Below.heap_setCell w5 ⟨g,3,none⟩ u b (fun e=>by have e2:b=g:=e;omega)];rw[hg.block b (by simp;omega) (fun e=>by have:=(ho b e.symm).2;omega)];exact zH w3 o b hlt
 refine(h.keep hk).mono (fun b hb=>?_);have hlt:=hb.2;have hge:=hb.1;refine⟨by omega,by simp at hs5 ⊢;omega,fun e=>?_⟩
 have e2:gg=b:=by injection e
 rcases hat with h4 | h4
 ·have:=(ho gg h4).2;omega
 ·omega
theorem info_dom:(Tryz.prog.info? 100).map (fun i=>(i.zero,i.size,i.bytes))=some (some (.agg #[.string ⟨#[]⟩,.int .i64 0,.int .i64 0,.int .i64 0,.bool false,.slice none 0 0,.slice none 0 0]),7,96):=by kernel_rfl
theorem domain_any(g:Nat)(e:Int)(vl vm vd vv vp vo:Value)(n:Nat)(cs:List Value)(B:Nat)(level parent uplink:Int)(w:World)(hF:FltB w g e vl vm vd vv vp vo)(ho:w.ownsRow B 100 7 vd n cs)(hB:g<B)(hBs:B<=w.heap.size)(hn:n<=1000) :
  Calls Tryz.prog 62 #[.pointer (some ⟨g,0,none⟩),.int .i64 level,.int .i64 parent,.int .i64 uplink] w fun r w'=>r=.returned (.int .i64 (n:Int))/\∃vd' vn2 vd2,FltB w' g e vl vm vd' vv vp vo /\
   w'.ownsRow B 100 7 vd' (n+1) (cs++[.string ⟨(nameL 110 n).toArray⟩,.int .i64 level,.int .i64 parent,.int .i64 uplink,.bool false,vn2,vd2])/\LS w' (fun b=>w.heap.size<=b/\b<w'.heap.size/\vd'.ownBlock≠some b) vn2 (natL 0)/\LS w' (fun b=>w.heap.size<=b/\b<w'.heap.size/\vd'.ownBlock≠some b) vd2 (natL 1) /\
   (vd'.ownBlock=vd.ownBlock\/∃x,vd'.ownBlock=some x/\w.heap.size<=x)/\HotBy [some g,vd.ownBlock] w w':=by
 obtain⟨i0,hi0,hz0,hz1,hz2⟩:=info_parts info_dom;obtain⟨A,c,rfl⟩:=own_form ho;obtain⟨k0,k1,k2,k3,k4,k5,k6,kf⟩:=hF.cells;have kf3:=kf 3;have HF:=zh hF;have HO:=zh ho;have hgl:=hF.lt;have HNM:=zh (fun w=>name_any 110 n w hn);have HFR:=zh (fun w=>frac01 w);have HN:=zh hn;have n10:((110:UInt8).toNat:Int)=110:=rfl;rw[n10] at HNM;clear hF ho k0 k1 k2 k4 k5 k6 kf n10 hn;go_enter Tryz.func62,Tryz.ntmps62;go_wp2_with fail;obtain⟨X,hX⟩:∃X:ByteArray,X=⟨(nameL 110 n).toArray⟩:=⟨_,rfl⟩;rw[<-hX] at HNM;have HX:=zh hX;clear hX
 go_region_law (first
  | (refine step_append_lies _ (by rfl) _ _ _ (by rfl) B 100 i0 _ 7 96 Tryz.underlying30 hi0 hz0 hz1 hz2 rfl (by decide) (.slice A n c) n cs (by rfl) (World.ownsRow.alloc ho3 _) ⟨w3.heap.size,0,none⟩ 1 1 [.string X,.int .i64 level,.int .i64 parent,.int .i64 uplink,.bool false,.slice An Ln cn,.slice Aq Lq cq] (by rfl) (by rfl) (World.news_of_block (cs:=#[.string X,.int .i64 level,.int .i64 parent,.int .i64 uplink,.bool false,.slice An Ln cn,.slice Aq Lq cq]) (t:=100) (fr:=(0,0)) (zN w3 _)) (by simp[Value.oneCell']) (by omega) (by have:=HN.out;unfold maxLen;omega) (by have:=HN.out;omega) (by simp;omega) (w3.heap.size+1) (by simp) ?_;intro gg cap w5 hown5 hg5 hat5 hlt5;have hF5:=hF3.grown5 hg5 hne5;have k35:=hF5.cells.2.2.2.1;have f35:=hF5.cells.2.2.2.2.2.2.2 3)
  | (go_simp;go_at_call 63;refine(HNM.out _).mono ?_;rintro e w2 ⟨rfl,hb2⟩;have k32:=((hb2.cell (p:=⟨g,3,none⟩) hgl).trans k3))
  | (go_simp;go_at_call 9;refine(HFR.out _).mono ?_;rintro e w3 ⟨v3,rfl,⟨vn,vq,rfl,hvn,hvq⟩,hb3⟩;obtain⟨An,Ln,cn,rfl⟩:∃A l c,vn=.slice A l c:=(by obtain⟨A,c,e,-,-⟩:=hvn.form;exact⟨A,_,c,e⟩);obtain⟨Aq,Lq,cq,rfl⟩:∃A l c,vq=.slice A l c:=(by obtain⟨A,c,e,-,-⟩:=hvq.form;exact⟨A,_,c,e⟩);have k33:=((hb3.cell (p:=⟨g,3,none⟩) (zM hgl hb2.size)).trans k32);have hb23:Below w.heap.size w w3:=(below_drewL hb2).trans (hb3.mono hb2.size);have ho3:=own_below HO.out hb23;have hs3:=hb23.size;have hF3:=HF.out.below hb23;have hF4:=hF3.below ((zB w3.heap.size w3).alloc (zR _) (.cells #[.string X,.int .i64 level,.int .i64 parent,.int .i64 uplink,.bool false,.slice An Ln cn,.slice Aq Lq cq] 100));have k34:=hF4.cells.2.2.2.1;have hgn3:g≠w3.heap.size:=(by have:=zM hgl hb23.size;omega);have hgn4:w3.heap.size≠g:=(fun e=>hgn3 e.symm);have hne5:some g≠(Value.slice A n c).ownBlock:=(fun e=>by have:=(HO.out.lt g e.symm).1;omega)))
 all_goals
  have HVN:=zh hvn;have HVQ:=zh hvq;have HF5:=zh (hF5.set3 (.slice (some ⟨gg,0,none⟩) (n+1) cap));have HG5:=zh hg5;have HO5:=zh hown5;have HAT:=zh hat5;have HS2:=zh (show w.heap.size<=w2.heap.size from hb2.size);have HB23:=zh hb23;have hggB:B<=gg:=(hown5.lt gg rfl).1
  have hoB:=fun b e=>HO.out.lt b e
  have HOB:=zh hoB;have HNE:=zh hne5;clear hvn hvq hF5 hg5 hown5 hat5 hb2 hb23 hb3 hoB ho3 hF3 hF4 hne5 k35 f35 k34 k33 k32 k3;go_wp2_with fail;go_ret
  have hgg2:gg≠g:=by omega
  have hne2:(Value.slice (some ⟨gg,0,none⟩) (n+1) cap).ownBlock≠some g:=fun e=>hgg2 (Option.some.inj e)
  refine⟨rfl,.slice (some ⟨gg,0,none⟩) (n+1) cap,.slice An Ln cn,.slice Aq Lq cq,HF5.out,by rw[<-HX.out];exact HO5.out.kept (only_set1 _ g 3 _) (.inr hne2),?_,?_,?_,?_⟩
  ·exact dom_nested HVN.out HS2.out HG5.out HOB.out hB HAT.out (by omega) hgl
  ·exact dom_nested HVQ.out HS2.out HG5.out HOB.out hB HAT.out (by omega) hgl
  ·rcases HAT.out with h | h
   ·exact .inl h.symm
   ·exact .inr ⟨gg,rfl,by omega⟩
  ·exact((HotBy.below HB23.out).trans (HotBy.alloc _ _ _)).trans ((HotBy.grown HG5.out (.inl (by simp))).trans (HotBy.setCell _ _ _ _ (by simp)))
theorem sub_step{u x f c b low hi ni b' P o n v:Nat}(h1:c+f*x=low+4294967296*hi)(h2:u+4294967296*b'=ni+low+b)(h:o+P*(b+c)=n+f*v):(o+P*u)+P*4294967296*(b'+hi)=(n+P*ni)+f*(v+P*x):=by
 have e1:P*(c+f*x)=P*(low+4294967296*hi):=by rw[h1]
 have e2:P*(u+4294967296*b')=P*(ni+low+b):=by rw[h2]
 rw[Nat.mul_add] at e1 e2 h;rw[Nat.mul_add P low] at e1;rw[Nat.mul_add P (ni+low),Nat.mul_add P ni] at e2;have e3:P*(f*x)=f*(P*x):=Nat.mul_left_comm _ _ _;have e4:P*(4294967296*hi)=P*4294967296*hi:=(Nat.mul_assoc _ _ _).symm;have e5:P*(4294967296*b')=P*4294967296*b':=(Nat.mul_assoc _ _ _).symm;rw[Nat.mul_add (P*4294967296),Nat.mul_add f];omega
theorem and_low(n:Nat)(h:n<18446744073709551616):bits .and .u64 (n:Int) 4294967295=((n % 4294967296:Nat):Int):=by
 show IntKind.u64.wrap ((BitVec.ofInt 64 (n:Int) &&& BitVec.ofInt 64 4294967295).toNat:Int)=_
 rw[BitVec.ofInt_natCast,show BitVec.ofInt 64 4294967295=BitVec.ofNat 64 4294967295 from rfl,BitVec.toNat_and,BitVec.toNat_ofNat,BitVec.toNat_ofNat,Nat.mod_eq_of_lt (by omega),Nat.mod_eq_of_lt (by omega)];have h1:n &&& 4294967295=n % 4294967296:=Nat.and_two_pow_sub_one_eq_mod n 32;rw[h1];exact IntWalk.u64_in _ (by omega)
theorem u64_sub(a b:Nat)(ha:a<18446744073709551616)(hb:b<18446744073709551616):IntKind.u64.wrap ((a:Int)-(b:Int))=(((a+18446744073709551616-b) % 18446744073709551616:Nat):Int):=by
 have e:IntKind.u64.wrap ((a:Int)-(b:Int))=((a:Int)-(b:Int)) % 18446744073709551616:=by
  simp[IntKind.wrap,IntKind.signed,IntKind.bits]
 rw[e];omega
theorem nsubt_any(gU j n cu f:Nat)(U V:List Nat)(vb:Value)(R:Nat->Prop)(w:World)(hu:RowU w gU U)(hj:j+n+1<=U.length)(hV:LS w R vb V)(hVn:V.length=n)(hn:0<n)(hR:∀b,R b->b<w.heap.size/\b≠gU)(hf:f<4294967296)(hU:Lim U)(hn1:n<=1000) :
  Calls Tryz.prog 180 #[.slice (some ⟨gU,j,none⟩) (n+1) cu,vb,.int .u64 (f:Int)] w fun e w'=>∃U' ng,e=.returned (.bool ng)/\RowU w' gU U'/\U'.length=U.length/\Lim U'/\(∀k,k<j\/j+n+1<=k->U'[k]?=U[k]?)/\nv (win U j (n+1))+4294967296 ^ (n+1)*(if ng=true then 1 else 0)=nv (win U' j (n+1))+f*nv V/\HotBy [some gU] w w':=by
 obtain⟨A,c,rfl,-,-⟩:=hV.form;obtain⟨b1,o1,rfl,hR1,hc1⟩:=hV.reads (by omega);have hb1:=hR _ hR1;have hlim:=hV.lim;rw[hVn];obtain⟨N1,hN1⟩:=zx (n+1);rw[<-hN1];have HRD:=zh (show ∀w',HotBy [some gU] w w'->∀(i x:Nat),V[i]?=some x->w'.cell? ⟨b1,o1+i,none⟩=some (.int .u32 (x:Int)) from fun w' hh i x hx=>hc1 i x hx w' (hh.block b1 hb1.1 (by simp;exact hb1.2)));have HV:=zh (show V.length=n/\Lim V/\N1=n+1/\j+n+1<=U.length/\Lim U/\f<4294967296 from⟨hVn,hlim,hN1,hj,hU,hf⟩);have HU:=zh hu
 have n1000:(n:Int)<=1000:=by omega
 have f0:(0:Int)<=(f:Int):=by omega
 have f1:(f:Int)<4294967296:=by omega
 clear hu hj hV hVn hR hf hU hc1 hR1 hb1 hlim hn1 hN1;go_enter Tryz.func180,Tryz.ntmps180;go_wp2_with fail;go_loopg [7,8,15] n (fun z v7 v8 v15 wr=>∃(i k b:Nat) (O:List Nat),i<=n/\z=n-i/\k<4294967296/\b<=1/\v7=.int .u64 (k:Int)/\v8=.int .u64 (b:Int)/\v15=.int .i64 (i:Int)/\Hid (HotBy [some gU] w wr)/\Hid (RowU wr gU O/\O.length=U.length/\Lim O/\(∀q,q<j\/j+i<=q->O[q]?=U[q]?)/\nv (win U j i)+4294967296 ^ i*(b+k)=nv (win O j i)+f*nv (V.take i)))
 case atStart=>exact⟨0,0,0,U,Nat.zero_le _,rfl,by omega,by omega,rfl,rfl,rfl,HotBy.refl _ _,zh ⟨HU.out,rfl,HV.out.2.2.2.2.1,fun q _=>rfl,by simp[win,nv]⟩⟩
 case round =>
  obtain⟨i,k,b,O,hi,rfl,hk,hb,rfl,rfl,rfl,HB,HO⟩:=hrel;obtain⟨W4,hW4⟩:=zx wr;rw[<-hW4] at HB HO ⊢;clear hW4;by_cases hlt:i<n
  ·have xa:=zG (l:=V) (i:=i) (by rw[HV.out.1];exact hlt);obtain⟨X,hX⟩:=zx (V[i]'(by rw[HV.out.1];exact hlt));rw[<-hX] at xa;have hX32:X<4294967296:=HV.out.2.1 X (List.mem_of_getElem? xa);have k1:=HRD.out W4 HB.out i X xa
   have hil:j+i<O.length:=by rw[HO.out.2.1];have:=HV.out.2.2.2.1;omega
   have ua:=zG hil;obtain⟨Y,hY⟩:=zx (O[j+i]);rw[<-hY] at ua;have hY32:Y<4294967296:=HO.out.2.2.1 Y (List.mem_of_getElem? ua);have kg:=HO.out.1.cell ua;have kf:=HO.out.1.fz (j+i)
   have i1:(i:Int)<(n:Int):=by omega
   have i2:(i:Int)<(N1:Int):=by have:=HV.out.2.2.1;omega
   have x0:(0:Int)<=(X:Int):=by omega
   have x1:(X:Int)<4294967296:=by omega
   have hp:f*X<=4294967295*4294967295:=Nat.mul_le_mul (by have:=HV.out.2.2.2.2.2;omega) (by omega)
   have s1:IntKind.u64.wrap ((f:Int)*(X:Int))=((f*X:Nat):Int):=by
    rw[<-Int.natCast_mul];exact IntWalk.u64_in _ (by omega)
   have vsum:nv (V.take (i+1))=nv (V.take i)+4294967296 ^ i*X:=by
    rw[List.take_add_one,xa,show(some X).toList=[X] from rfl,nv_snoc,List.length_take,Nat.min_eq_left (by rw[HV.out.1];omega)]
   have husum:nv (win U j (i+1))=nv (win U j i)+4294967296 ^ i*Y:=by
    rw[win_succ (x:=Y) (by rw[<-HO.out.2.2.2.1 (j+i) (.inr (zR _))];exact ua),nv_snoc,win_len (by have:=HV.out.2.2.2.1;omega)]
   obtain⟨P,hP⟩:=zx (f*X);rw[<-hP] at s1 hp
   have s2:IntKind.u64.wrap ((k:Int)+(P:Int))=((k+P:Nat):Int):=by
    rw[<-Int.natCast_add];exact IntWalk.u64_in _ (by omega)
   obtain⟨T,hT⟩:=zx (k+P);rw[<-hT] at s2;have s3:=and_low T (by omega);obtain⟨LO,hLO⟩:=zx (T % 4294967296);rw[<-hLO] at s3;have s4:=u64_sub Y LO (by omega) (by omega);obtain⟨EE,hEE⟩:=zx ((Y+18446744073709551616-LO) % 18446744073709551616);rw[<-hEE] at s4;have s5:=u64_sub EE b (by omega) (by omega);obtain⟨D,hD⟩:=zx ((EE+18446744073709551616-b) % 18446744073709551616);rw[<-hD] at s5;obtain⟨HI,hHI⟩:=zx (T / 4294967296);obtain⟨NI,hNI⟩:=zx (D % 4294967296);obtain⟨B1,hB1⟩:=zx (D / 9223372036854775808)
   have s6:(T:Int) / 4294967296=(HI:Int):=by omega
   have s7:(D:Int) % 4294967296=(NI:Int):=by omega
   have s8:(D:Int) / 9223372036854775808=(B1:Int):=by omega
   have hh1:k+f*X=LO+4294967296*HI:=by rw[<-hP];omega
   have hh2:Y+4294967296*B1=NI+LO+b:=by omega
   have hb1:B1<=1:=by omega
   have hhi:HI<4294967296:=by omega
   have hni:NI<4294967296:=by omega
   have hst:=sub_step hh1 hh2 HO.out.2.2.2.2;rw[<-vsum,<-husum,<-Nat.pow_succ] at hst
   have hw1:nv (win (O.set (j+i) NI) j (i+1))=nv (win O j i)+4294967296 ^ i*NI:=by
    rw[win_succ (x:=NI) (List.getElem?_set_self hil),nv_snoc,win_set,win_len (by omega)]
   rw[<-hw1] at hst;have HB5:=zh (HB.out.trans (HotBy.setCell [some gU] W4 ⟨gU,j+i,none⟩ (.int .u32 (NI:Int)) (by simp)))
   have HO5:=zh (show RowU (W4.setCell ⟨gU,j+i,none⟩ (.int .u32 (NI:Int))) gU (O.set (j+i) NI)/\(O.set (j+i) NI).length=U.length/\Lim (O.set (j+i) NI)/\(∀q,q<j\/j+(i+1)<=q->(O.set (j+i) NI)[q]?=U[q]?)/\nv (win U j (i+1))+4294967296 ^ (i+1)*(B1+HI)=nv (win (O.set (j+i) NI) j (i+1))+f*nv (V.take (i+1)) from⟨HO.out.1.set (j+i) NI,by rw[List.length_set];exact HO.out.2.1,fun x hx=>by
    rcases List.mem_or_eq_of_mem_set hx with h | h
    ·exact HO.out.2.2.1 x h
    ·rw[h];exact hni,fun q hq=>by
    rw[List.getElem?_set_ne (by omega)]
    exact HO.out.2.2.2.1 q (by omega),hst⟩)
   obtain⟨W5,hW5⟩:=zx (W4.setCell ⟨gU,j+i,none⟩ (.int .u32 (NI:Int)));rw[<-hW5] at HB5 HO5;have HW5:=zh hW5;have HQ:=zh (show HI<4294967296/\B1<=1/\i<n from⟨hhi,hb1,hlt⟩);clear hX hY hP hT hLO hEE hD hHI hNI hB1 hh1 hh2 hb1 hhi hni hst hw1 vsum husum hW5 hil ua xa hp hk hb hlt;go_wp2_with fail;rw[<-HW5.out];go_roundg (n-(i+1))
   case measure=>have:=HQ.out.2.2;omega
   case rel=>exact⟨i+1,HI,B1,O.set (j+i) NI,by have:=HQ.out.2.2;omega,rfl,HQ.out.1,HQ.out.2.1,rfl,rfl,by go_num,HB5,HO5⟩
  ·have hie:i=n:=by omega
   subst hie
   have hil:j+i<O.length:=by rw[HO.out.2.1];have:=HV.out.2.2.2.1;omega
   have ua:=zG hil;obtain⟨Y,hY⟩:=zx (O[j+i]);rw[<-hY] at ua;have hY32:Y<4294967296:=HO.out.2.2.1 Y (List.mem_of_getElem? ua);have kg:=HO.out.1.cell ua;have kf:=HO.out.1.fz (j+i)
   have i2:(i:Int)<(N1:Int):=by have:=HV.out.2.2.1;omega
   have husum:nv (win U j (i+1))=nv (win U j i)+4294967296 ^ i*Y:=by
    rw[win_succ (x:=Y) (by rw[<-HO.out.2.2.2.1 (j+i) (.inr (zR _))];exact ua),nv_snoc,win_len (by have:=HV.out.2.2.2.1;omega)]
   have s4:=u64_sub Y k (by omega) (by omega);obtain⟨EE,hEE⟩:=zx ((Y+18446744073709551616-k) % 18446744073709551616);rw[<-hEE] at s4;have s5:=u64_sub EE b (by omega) (by omega);obtain⟨D,hD⟩:=zx ((EE+18446744073709551616-b) % 18446744073709551616);rw[<-hD] at s5;obtain⟨NI,hNI⟩:=zx (D % 4294967296);obtain⟨B1,hB1⟩:=zx (D / 9223372036854775808)
   have s7:(D:Int) % 4294967296=(NI:Int):=by omega
   have s8:(D:Int) / 9223372036854775808=(B1:Int):=by omega
   have hh2:Y+4294967296*B1=NI+k+b:=by omega
   have hb1:B1<=1:=by omega
   have hni:NI<4294967296:=by omega
   have hst:=sub_step (u:=Y) (x:=0) (c:=k) (f:=f) (low:=k) (hi:=0) (b':=B1) (by simp) hh2 HO.out.2.2.2.2;rw[<-husum,<-Nat.pow_succ,Nat.mul_zero,Nat.add_zero,Nat.add_zero,List.take_of_length_le (l:=V) (by rw[HV.out.1];exact zR _)] at hst
   have hw1:nv (win (O.set (j+i) NI) j (i+1))=nv (win O j i)+4294967296 ^ i*NI:=by
    rw[win_succ (x:=NI) (List.getElem?_set_self hil),nv_snoc,win_set,win_len (by omega)]
   rw[<-hw1] at hst;have HB5:=zh (HB.out.trans (HotBy.setCell [some gU] W4 ⟨gU,j+i,none⟩ (.int .u32 (NI:Int)) (by simp)));obtain⟨ng,hng⟩:=zx (decide (B1=1))
   have hq:((B1:Int)==1)=ng:=by
    rw[hng];by_cases h:B1=1
    ·rw[h];rfl
    ·rw[decide_eq_false h];exact beq_eq_false_iff_ne.2 (by omega)
   have hif:(if ng=true then 1 else 0)=B1:=by
    rw[hng];by_cases h:B1=1
    ·rw[h];rfl
    ·rw[decide_eq_false h];simp;omega
   have HO5:=zh (show RowU (W4.setCell ⟨gU,j+i,none⟩ (.int .u32 (NI:Int))) gU (O.set (j+i) NI)/\(O.set (j+i) NI).length=U.length/\Lim (O.set (j+i) NI)/\(∀q,q<j\/j+i+1<=q->(O.set (j+i) NI)[q]?=U[q]?)/\nv (win U j (i+1))+4294967296 ^ (i+1)*(if ng=true then 1 else 0)=nv (win (O.set (j+i) NI) j (i+1))+f*nv V from⟨HO.out.1.set (j+i) NI,by rw[List.length_set];exact HO.out.2.1,fun x hx=>by
    rcases List.mem_or_eq_of_mem_set hx with h | h
    ·exact HO.out.2.2.1 x h
    ·rw[h];exact hni,fun q hq=>by
    rw[List.getElem?_set_ne (by omega)]
    exact HO.out.2.2.2.1 q (by omega),by rw[hif];exact hst⟩)
   rw[<-HV.out.2.2.1] at HO5;obtain⟨W5,hW5⟩:=zx (W4.setCell ⟨gU,j+i,none⟩ (.int .u32 (NI:Int)));rw[<-hW5] at HB5 HO5;have HW5:=zh hW5;clear hY hEE hD hNI hB1 hh2 hb1 hni hst hw1 husum hW5 hil ua hk hb hlt hif hng hi;go_wp2_with fail;go_ret;rw[<-HW5.out];exact⟨_,ng,rfl,HO5.out.1,HO5.out.2.1,HO5.out.2.2.1,HO5.out.2.2.2.1,HO5.out.2.2.2.2,HB5.out⟩
theorem add_step{u x c ni hi P o n v:Nat}(h1:c+(u+x)=ni+4294967296*hi)(h:o+v=n+P*c):(o+P*u)+(v+P*x)=(n+P*ni)+P*4294967296*hi:=by
 have e1:P*(c+(u+x))=P*(ni+4294967296*hi):=by rw[h1]
 rw[Nat.mul_add,Nat.mul_add P u,Nat.mul_add P ni,<-Nat.mul_assoc] at e1;omega
theorem nrest_any(gU j n cu:Nat)(U V:List Nat)(vb:Value)(R:Nat->Prop)(w:World)(hu:RowU w gU U)(hj:j+n+1<=U.length)(hV:LS w R vb V)(hVn:V.length=n)(hn:0<n)(hR:∀b,R b->b<w.heap.size/\b≠gU)(hU:Lim U)(hn1:n<=1000) :
  Calls Tryz.prog 181 #[.slice (some ⟨gU,j,none⟩) (n+1) cu,vb] w fun e w'=>∃U' c,e=.returned (.tuple #[])/\RowU w' gU U'/\U'.length=U.length/\Lim U'/\(∀k,k<j\/j+n+1<=k->U'[k]?=U[k]?)/\nv (win U j (n+1))+nv V=nv (win U' j (n+1))+4294967296 ^ (n+1)*c/\HotBy [some gU] w w':=by
 obtain⟨A,c,rfl,-,-⟩:=hV.form;obtain⟨b1,o1,rfl,hR1,hc1⟩:=hV.reads (by omega);have hb1:=hR _ hR1;have hlim:=hV.lim;rw[hVn];obtain⟨N1,hN1⟩:=zx (n+1);rw[<-hN1];have HRD:=zh (show ∀w',HotBy [some gU] w w'->∀(i x:Nat),V[i]?=some x->w'.cell? ⟨b1,o1+i,none⟩=some (.int .u32 (x:Int)) from fun w' hh i x hx=>hc1 i x hx w' (hh.block b1 hb1.1 (by simp;exact hb1.2)));have HV:=zh (show V.length=n/\Lim V/\N1=n+1/\j+n+1<=U.length/\Lim U from⟨hVn,hlim,hN1,hj,hU⟩);have HU:=zh hu
 have n1000:(n:Int)<=1000:=by omega
 clear hu hj hV hVn hR hU hc1 hR1 hb1 hlim hn1 hN1;go_enter Tryz.func181,Tryz.ntmps181;go_wp2_with fail;go_loopg [4,9] n (fun z v4 v9 wr=>∃(i k:Nat) (O:List Nat),i<=n/\z=n-i/\k<=1/\v4=.int .u64 (k:Int)/\v9=.int .i64 (i:Int)/\Hid (HotBy [some gU] w wr)/\Hid (RowU wr gU O/\O.length=U.length/\Lim O/\(∀q,q<j\/j+i<=q->O[q]?=U[q]?)/\nv (win U j i)+nv (V.take i)=nv (win O j i)+4294967296 ^ i*k))
 case atStart=>exact⟨0,0,U,Nat.zero_le _,rfl,by omega,rfl,rfl,HotBy.refl _ _,zh ⟨HU.out,rfl,HV.out.2.2.2.2,fun q _=>rfl,by simp[win,nv]⟩⟩
 case round =>
  obtain⟨i,k,O,hi,rfl,hk,rfl,rfl,HB,HO⟩:=hrel;obtain⟨W4,hW4⟩:=zx wr;rw[<-hW4] at HB HO ⊢;clear hW4;by_cases hlt:i<n
  ·have xa:=zG (l:=V) (i:=i) (by rw[HV.out.1];exact hlt);obtain⟨X,hX⟩:=zx (V[i]'(by rw[HV.out.1];exact hlt));rw[<-hX] at xa;have hX32:X<4294967296:=HV.out.2.1 X (List.mem_of_getElem? xa);have k1:=HRD.out W4 HB.out i X xa
   have hil:j+i<O.length:=by rw[HO.out.2.1];have:=HV.out.2.2.2.1;omega
   have ua:=zG hil;obtain⟨Y,hY⟩:=zx (O[j+i]);rw[<-hY] at ua;have hY32:Y<4294967296:=HO.out.2.2.1 Y (List.mem_of_getElem? ua);have kg:=HO.out.1.cell ua;have kf:=HO.out.1.fz (j+i)
   have i1:(i:Int)<(n:Int):=by omega
   have i2:(i:Int)<(N1:Int):=by have:=HV.out.2.2.1;omega
   have x0:(0:Int)<=(X:Int):=by omega
   have x1:(X:Int)<4294967296:=by omega
   have vsum:nv (V.take (i+1))=nv (V.take i)+4294967296 ^ i*X:=by
    rw[List.take_add_one,xa,show(some X).toList=[X] from rfl,nv_snoc,List.length_take,Nat.min_eq_left (by rw[HV.out.1];omega)]
   have husum:nv (win U j (i+1))=nv (win U j i)+4294967296 ^ i*Y:=by
    rw[win_succ (x:=Y) (by rw[<-HO.out.2.2.2.1 (j+i) (.inr (zR _))];exact ua),nv_snoc,win_len (by have:=HV.out.2.2.2.1;omega)]
   have s1:IntKind.u64.wrap ((Y:Int)+(X:Int))=((Y+X:Nat):Int):=by
    rw[<-Int.natCast_add];exact IntWalk.u64_in _ (by omega)
   obtain⟨P,hP⟩:=zx (Y+X);rw[<-hP] at s1
   have s2:IntKind.u64.wrap ((k:Int)+(P:Int))=((k+P:Nat):Int):=by
    rw[<-Int.natCast_add];exact IntWalk.u64_in _ (by omega)
   obtain⟨T,hT⟩:=zx (k+P);rw[<-hT] at s2;obtain⟨HI,hHI⟩:=zx (T / 4294967296);obtain⟨NI,hNI⟩:=zx (T % 4294967296)
   have s6:(T:Int) / 4294967296=(HI:Int):=by omega
   have s7:(T:Int) % 4294967296=(NI:Int):=by omega
   have hh1:k+(Y+X)=NI+4294967296*HI:=by omega
   have hhi:HI<=1:=by omega
   have hni:NI<4294967296:=by omega
   have hst:=add_step hh1 HO.out.2.2.2.2;rw[<-vsum,<-husum,<-Nat.pow_succ] at hst
   have hw1:nv (win (O.set (j+i) NI) j (i+1))=nv (win O j i)+4294967296 ^ i*NI:=by
    rw[win_succ (x:=NI) (List.getElem?_set_self hil),nv_snoc,win_set,win_len (by omega)]
   rw[<-hw1] at hst;have HB5:=zh (HB.out.trans (HotBy.setCell [some gU] W4 ⟨gU,j+i,none⟩ (.int .u32 (NI:Int)) (by simp)))
   have HO5:=zh (show RowU (W4.setCell ⟨gU,j+i,none⟩ (.int .u32 (NI:Int))) gU (O.set (j+i) NI)/\(O.set (j+i) NI).length=U.length/\Lim (O.set (j+i) NI)/\(∀q,q<j\/j+(i+1)<=q->(O.set (j+i) NI)[q]?=U[q]?)/\nv (win U j (i+1))+nv (V.take (i+1))=nv (win (O.set (j+i) NI) j (i+1))+4294967296 ^ (i+1)*HI from⟨HO.out.1.set (j+i) NI,by rw[List.length_set];exact HO.out.2.1,fun x hx=>by
    rcases List.mem_or_eq_of_mem_set hx with h | h
    ·exact HO.out.2.2.1 x h
    ·rw[h];exact hni,fun q hq=>by
    rw[List.getElem?_set_ne (by omega)]
    exact HO.out.2.2.2.1 q (by omega),hst⟩)
   obtain⟨W5,hW5⟩:=zx (W4.setCell ⟨gU,j+i,none⟩ (.int .u32 (NI:Int)));rw[<-hW5] at HB5 HO5;have HW5:=zh hW5;have HQ:=zh (show HI<=1/\i<n from⟨hhi,hlt⟩);clear hX hY hP hT hHI hNI hh1 hhi hni hst hw1 vsum husum hW5 hil ua xa hk hlt;go_wp2_with fail;rw[<-HW5.out];go_roundg (n-(i+1))
   case measure=>have:=HQ.out.2;omega
   case rel=>exact⟨i+1,HI,O.set (j+i) NI,by have:=HQ.out.2;omega,rfl,HQ.out.1,rfl,by go_num,HB5,HO5⟩
  ·have hie:i=n:=by omega
   subst hie
   have hil:j+i<O.length:=by rw[HO.out.2.1];have:=HV.out.2.2.2.1;omega
   have ua:=zG hil;obtain⟨Y,hY⟩:=zx (O[j+i]);rw[<-hY] at ua;have hY32:Y<4294967296:=HO.out.2.2.1 Y (List.mem_of_getElem? ua);have kg:=HO.out.1.cell ua;have kf:=HO.out.1.fz (j+i)
   have i2:(i:Int)<(N1:Int):=by have:=HV.out.2.2.1;omega
   have husum:nv (win U j (i+1))=nv (win U j i)+4294967296 ^ i*Y:=by
    rw[win_succ (x:=Y) (by rw[<-HO.out.2.2.2.1 (j+i) (.inr (zR _))];exact ua),nv_snoc,win_len (by have:=HV.out.2.2.2.1;omega)]
   have hk32:(k:Int) % 4294967296=(k:Int):=by omega
   obtain⟨NI,hNI⟩:=zx ((Y+k) % 4294967296);obtain⟨HI,hHI⟩:=zx ((Y+k) / 4294967296)
   have s7:((Y:Int)+(k:Int)) % 4294967296=(NI:Int):=by omega
   have hh1:k+(Y+0)=NI+4294967296*HI:=by omega
   have hni:NI<4294967296:=by omega
   have hst:=add_step hh1 HO.out.2.2.2.2;rw[<-husum,<-Nat.pow_succ,Nat.mul_zero,Nat.add_zero,List.take_of_length_le (l:=V) (by rw[HV.out.1];exact zR _)] at hst
   have hw1:nv (win (O.set (j+i) NI) j (i+1))=nv (win O j i)+4294967296 ^ i*NI:=by
    rw[win_succ (x:=NI) (List.getElem?_set_self hil),nv_snoc,win_set,win_len (by omega)]
   rw[<-hw1] at hst;have HB5:=zh (HB.out.trans (HotBy.setCell [some gU] W4 ⟨gU,j+i,none⟩ (.int .u32 (NI:Int)) (by simp)))
   have HO5:=zh (show RowU (W4.setCell ⟨gU,j+i,none⟩ (.int .u32 (NI:Int))) gU (O.set (j+i) NI)/\(O.set (j+i) NI).length=U.length/\Lim (O.set (j+i) NI)/\(∀q,q<j\/j+i+1<=q->(O.set (j+i) NI)[q]?=U[q]?)/\nv (win U j (i+1))+nv V=nv (win (O.set (j+i) NI) j (i+1))+4294967296 ^ (i+1)*HI from⟨HO.out.1.set (j+i) NI,by rw[List.length_set];exact HO.out.2.1,fun x hx=>by
    rcases List.mem_or_eq_of_mem_set hx with h | h
    ·exact HO.out.2.2.1 x h
    ·rw[h];exact hni,fun q hq=>by
    rw[List.getElem?_set_ne (by omega)]
    exact HO.out.2.2.2.1 q (by omega),hst⟩)
   rw[<-HV.out.2.2.1] at HO5;obtain⟨W5,hW5⟩:=zx (W4.setCell ⟨gU,j+i,none⟩ (.int .u32 (NI:Int)));rw[<-hW5] at HB5 HO5;have HW5:=zh hW5;clear hY hNI hHI hh1 hni hst hw1 husum hW5 hil ua hk hlt hi;go_wp2_with fail
   go_end0
   rw[<-HW5.out];exact⟨_,HI,rfl,HO5.out.1,HO5.out.2.1,HO5.out.2.2.1,HO5.out.2.2.2.1,HO5.out.2.2.2.2,HB5.out⟩
theorem dig_hit{U V g new:Nat}(hV:0<V)(hlo:U / V<=g)(h:U=new+g*V):g=U / V/\new=U % V:=by
 have h1:g<=U / V:=(Nat.le_div_iff_mul_le hV).2 (by omega)
 have h2:g=U / V:=by omega
 have h3:=Nat.div_add_mod U V;rw[<-h2,Nat.mul_comm] at h3;exact⟨h2,by omega⟩
theorem dig_miss{U V g new res c Q:Nat}(hV:0<V)(hlo:U / V<=g)(hhi:g<=U / V+1)(h:U+Q=new+g*V)(hn:new<Q)(hr:new+V=res+Q*c)(hres:res<Q)(hVQ:V<=Q):g=U / V+1/\res=U % V:=by
 have h3:=Nat.div_add_mod U V;have hm:=Nat.mod_lt U hV
 have h1:g=U / V+1:=by
  rcases Nat.eq_or_lt_of_le hhi with e | e
  ·exact e
  ·exfalso
   have e2:g=U / V:=by omega
   rw[e2,Nat.mul_comm] at h;omega
 refine⟨h1,?_⟩;rw[h1,Nat.add_mul,Nat.one_mul,Nat.mul_comm] at h
 have h4:U % V+Q=res+Q*c:=by omega
 rcases Nat.lt_or_ge c 1 with h0 | h0
 ·have:c=0:=by omega
  subst this;omega
 ·rcases Nat.lt_or_ge c 2 with h5 | h5
  ·have:c=1:=by omega
   subst this;omega
  ·have:=Nat.mul_le_mul_left Q h5;omega
structure Gs (top head c g r:Nat):Prop where
 eq:g*top+r=head
 lo:c<=g
theorem Gs.first{U V P next u2 top head:Nat}(h:DigAt U V P (top*4294967296+next) (head*4294967296+u2))(hu2:u2<4294967296)(ht:0<top):Gs top head (U / V) (head / top) (head % top) :=
 ⟨by rw[Nat.mul_comm];exact Nat.div_add_mod head top,h.first hu2 ht⟩
theorem gs_aux(a b c u:Nat):(a+c+u<a+b↔c+u<b)/\(a+b<=a+c+u↔b<=c+u):=⟨⟨fun h=>by omega,fun h=>by omega⟩,⟨fun h=>by omega,fun h=>by omega⟩⟩
theorem gs_cmp{top head g r next u2:Nat}(e:g*top+r=head):(head*4294967296+u2<g*(top*4294967296+next)↔r*4294967296+u2<g*next)/\(g*(top*4294967296+next)<=head*4294967296+u2↔g*next<=r*4294967296+u2):=by
 have h1:g*(top*4294967296+next)=g*top*4294967296+g*next:=by rw[Nat.mul_add,Nat.mul_assoc]
 rw[h1,<-e,Nat.add_mul];exact gs_aux _ _ _ _
theorem Gs.next{U V P next u2 top head g r:Nat}(hD:DigAt U V P (top*4294967296+next) (head*4294967296+u2))(hcB:U / V<4294967296)(h:Gs top head (U / V) g r)(hc:4294967296<=g\/r*4294967296+u2<g*next):0<g/\Gs top head (U / V) (g-1) (r+top):=by
 have h1:U / V<g:=by
  rcases hc with hc | hc
  ·omega
  ·exact hD.less ((gs_cmp h.eq).1.2 hc)
 have e1:=h.eq;clear hD hc h;generalize U / V=c at *;obtain⟨k,rfl⟩:∃k,g=k+1:=⟨g - 1,by omega⟩;rw[Nat.add_mul,Nat.one_mul] at e1;rw[Nat.add_sub_cancel];exact⟨by omega,by omega,by omega⟩
theorem Gs.stop{U V P next u2 top head g r:Nat}(hD:DigAt U V P (top*4294967296+next) (head*4294967296+u2))(h:Gs top head (U / V) g r)(hr:4294967296<=r)(hh:head<top*4294967296+4294967296)(hn:next<4294967296):g<4294967296/\g<=U / V+1:=by
 have hg:g<4294967296:=by
  have h1:=h.eq
  have h2:g*top<4294967296*top:=by omega
  exact Nat.lt_of_mul_lt_mul_right h2
 refine⟨hg,hD.near ((gs_cmp h.eq).2.2 ?_) hg⟩;have:g*next<=4294967296*4294967296:=Nat.mul_le_mul (by omega) (by omega);have:4294967296*4294967296<=r*4294967296:=Nat.mul_le_mul_right _ hr;omega
theorem Gs.done{U V P next u2 top head g r:Nat}(hD:DigAt U V P (top*4294967296+next) (head*4294967296+u2))(h:Gs top head (U / V) g r)(hg:g<4294967296)(hc:g*next<=r*4294967296+u2):g<=U / V+1 :=
 hD.near ((gs_cmp h.eq).2.2 hc) hg
theorem LS.cell2(w:World)(g n:Nat)(hn:n<4294967296)(hg:w.heap[g]?=some (.cells #[.int .u32 (n:Int),.int .u32 0] 107 (0,0)))(R:Nat->Prop)(hR:R g):LS w R (.slice (some ⟨g,0,none⟩) 2 2) [n,0]:=by
 refine⟨.inr ⟨g,0,2,rfl,zR _,by unfold maxLen;decide,hR,fun k x hk=>?_⟩,fun x hx=>?_⟩
 ·rw[Nat.zero_add,cell_of_row _ _ _ _ _ _ hg]
  match k,hk with
  | 0,hk=>simp at hk;subst hk;rfl
  | 1,hk=>simp at hk;subst hk;rfl
 ·simp at hx;rcases hx with rfl | rfl
  ·exact hn
  ·omega
theorem trim_zero2(n:Nat):trimL [n,0]=natL n:=trim_two n
theorem cell2L(w:World)(g a b:Nat)(ha:a<4294967296)(hb:b<4294967296)(hg:w.heap[g]?=some (.cells #[.int .u32 (a:Int),.int .u32 (b:Int)] 107 (0,0)))(R:Nat->Prop)(hR:R g):LS w R (.slice (some ⟨g,0,none⟩) 2 2) [a,b]:=by
 refine⟨.inr ⟨g,0,2,rfl,zR _,by unfold maxLen;decide,hR,fun k x hk=>?_⟩,fun x hx=>by simp at hx;omega⟩;rw[Nat.zero_add,cell_of_row _ _ _ _ _ _ hg]
 match k,hk with
 | 0,hk=>simp at hk;subst hk;rfl
 | 1,hk=>simp at hk;subst hk;rfl
theorem nmulP_any(va vb:Value)(n m:Nat)(w:World)(ha:LS w (Bl w.heap.size) va (natL n))(hb:LS w (Bl w.heap.size) vb (natL m))(hm:0<m)(h0:0<n) :
  Calls Tryz.prog 162 #[va,vb] w fun e w'=>∃u,e=.returned (.tuple #[u,.int .i64 0])/\LS w' (Fr w.heap.size w'.heap.size) u (limbs (n*m))/\Below w.heap.size w w':=by
 have HLA:=zh (nlarge_any va _ _ w ha (by have:=natL_length n;omega));have HLB:=zh (nlarge_any vb _ _ w hb (by have:=natL_length m;omega));have HA:=zh (fun k=>nlength_any va _ _ (w.drewN k) ha (by have:=natL_length n;omega));have HB:=zh (fun k=>nlength_any vb _ _ (w.drewN k) hb (by have:=natL_length m;omega));rw[trim_natL] at HA HB;have hm32:=hb.lt32;have hn32:=ha.lt32
 have lm:(natL m).length=1:=by rw[natL_pos hm];rfl
 obtain⟨B,d,rfl,-,-⟩:=hb.form;obtain⟨-,-,-,-,hd0,-⟩:=hb.cap (by rw[lm];omega);rw[lm] at hb HB HLB hd0 ⊢
 have hd1:(1:Int)<=(d:Int):=by omega
 obtain⟨b2,o2,rfl,hR2,hc2⟩:=hb.one hm;have HC2:=zh hc2;have HR2:=zh hR2;have hmk1:=mk_u32s1;have hmk2:=mk_u32s2;have HB0:=zh (show ∀k,Calls Tryz.prog 159 #[.slice (some ⟨b2,o2,none⟩) 1 d] (w.drewN k) fun e w'=>e=.returned (.int .i64 1)/\w.drewN k=w' from HB.out);clear hb lm hc2 hR2 hd0 HB
 have ln:(natL n).length=1:=by rw[natL_pos h0];rfl
 obtain⟨A,c,rfl,-,-⟩:=ha.form;obtain⟨-,-,-,-,hc0,-⟩:=ha.cap (by rw[ln];omega);rw[ln] at ha HA HLA hc0 ⊢
 have hc1:(1:Int)<=(c:Int):=by omega
 obtain⟨b1,o1,rfl,hR1,hk1⟩:=ha.one h0;have HA0:=zh (show ∀k,Calls Tryz.prog 159 #[.slice (some ⟨b1,o1,none⟩) 1 c] (w.drewN k) fun e w'=>e=.returned (.int .i64 1)/\w.drewN k=w' from HA.out);have HC1:=zh hk1;have HR1:=zh hR1;clear HA ha ln hc0 hk1 hR1;go_enter Tryz.func162,Tryz.ntmps162;go_wp2_with fail;refine HLA.out.mono ?_;rintro e w1 ⟨rfl,rfl⟩;go_wp2_with fail;refine HLB.out.mono ?_;rintro e w1 ⟨rfl,rfl⟩;go_wp2_with fail
 go_quiet (first | with_reducible exact Calls.quiet_of_same ((HA0.out _).mono fun _ _ h=>⟨h.1,h.2.symm⟩) | with_reducible exact Calls.quiet_of_same ((HB0.out _).mono fun _ _ h=>⟨h.1,h.2.symm⟩))
 obtain⟨W,hW⟩:=zx (w.drewN nq);rw[<-hW]
 have hbW:Below w.heap.size w W:=by rw[hW];exact Below.drewN' (zB _ _) nq
 have HBW:=zh hbW;clear hbW hW;obtain⟨W3,hW3⟩:=zx (W.alloc (.cells #[.int .u32 0,.int .u32 0] 107));obtain⟨g,hg⟩:=zx W.heap.size
 have hg3:W3.heap[g]?=some (.cells #[.int .u32 0,.int .u32 0] 107 (0,0)):=by rw[hW3,hg];exact zN _ _
 have hgl:g<W3.heap.size:=(zA.1 hg3).1;have HB3:=zh (show Below w.heap.size w W3 from by rw[hW3];exact HBW.out.alloc HBW.out.size _);have HG:=zh (show w.heap.size<=g from by rw[hg];exact HBW.out.size);have k1:W3.cell? ⟨b1,o1,none⟩=some (.int .u32 (n:Int)):=(HB3.out.cell (p:=⟨b1,o1,none⟩) HR1.out).trans HC1.out;have k2:W3.cell? ⟨b2,o2,none⟩=some (.int .u32 (m:Int)):=(HB3.out.cell (p:=⟨b2,o2,none⟩) HR2.out).trans HC2.out
 have kg0:W3.cell? ⟨g,0,none⟩=some (.int .u32 0):=by rw[cell_of_row _ _ _ _ _ _ hg3];rfl
 have kg1:W3.cell? ⟨g,1,none⟩=some (.int .u32 0):=by rw[cell_of_row _ _ _ _ _ _ hg3];rfl
 have kf0:W3.frozen? ⟨g,0,none⟩=false:=frozen_of_row _ _ _ _ _ hg3;have kf1:W3.frozen? ⟨g,1,none⟩=false:=frozen_of_row _ _ _ _ _ hg3
 have e1:b1≠g:=by have:=HR1.out;have:=HG.out;unfold Bl at *;omega
 have e2:b2≠g:=by have:=HR2.out;have:=HG.out;unfold Bl at *;omega
 have HG3:=zh hg3;have HW3:=zh hW3;have HGW:=zh hg
 have n0:(0:Int)<=(n:Int):=by omega
 have n1:(n:Int)<4294967296:=by omega
 have m0:(0:Int)<=(m:Int):=by omega
 have m1:(m:Int)<4294967296:=by omega
 have hpp:n*m<=4294967295*4294967295:=Nat.mul_le_mul (by omega) (by omega)
 have hmul:IntKind.u64.wrap ((n:Int)*(m:Int))=((n*m:Nat):Int):=by rw[<-Int.natCast_mul];exact IntWalk.u64_in _ (by omega)
 obtain⟨NM,hNM⟩:=zx (n*m);rw[<-hNM] at hmul hpp;have q3:IntKind.u64.wrap (NM:Int)=(NM:Int):=IntWalk.u64_in _ (by omega);obtain⟨LO,hLO⟩:=zx (NM % 4294967296);obtain⟨HI,hHI⟩:=zx (NM / 4294967296)
 have hlo:(NM:Int) % 4294967296=(LO:Int):=by omega
 have hlow:IntKind.u32.wrap (NM:Int)=(LO:Int):=by rw[IntKind.wrap_u32];omega
 have hhi:(NM:Int) / 4294967296=(HI:Int):=by omega
 have hhm:(HI:Int) % 4294967296=(HI:Int):=by omega
 have hhw:IntKind.u32.wrap (HI:Int)=(HI:Int):=by rw[IntKind.wrap_u32];omega
 have HLH:=zh (show LO<4294967296/\HI<4294967296/\LO+4294967296*HI=NM from⟨by omega,by omega,by omega⟩);have t1:IntKind.u64.wrap (n:Int)=(n:Int):=IntWalk.u64_in _ (by omega);have t2:IntKind.u64.wrap (m:Int)=(m:Int):=IntWalk.u64_in _ (by omega);have HNM:=zh hNM;clear hg3 hW3 hg hNM hpp hLO hHI;go_upto_region 5 with fail;rw[<-HGW.out,<-HW3.out];clear hmk1 hmk2;go_wp2_with fail;go_loopg [7,8,9,10,11,34] 1 (fun z v7 v8 v9 v10 v11 v34 wr=>(z=1/\v34=.int .i64 0/\W3=wr)\/(z=0/\v34=.int .i64 1/\Hid (wr.heap[g]?=some (.cells #[.int .u32 (LO:Int),.int .u32 (HI:Int)] 107 (0,0)))/\Hid (Below w.heap.size w wr)))
 case atStart=>exact .inl ⟨rfl,rfl,rfl⟩
 case round =>
  rcases hrel with ⟨rfl,rfl,rfl⟩ | ⟨rfl,rfl,hgc,hbr⟩
  ·go_wp2_with fail;go_loopg [9,10,11,41] 1 (fun z v9 v10 v11 v41 wr=>(z=1/\v41=.int .i64 0/\v9=.int .u64 0/\W3=wr)\/(z=0/\v41=.int .i64 1/\v9=.int .u64 (HI:Int)/\wr=W3.setCell ⟨g,0,none⟩ (.int .u32 (LO:Int))))
   case atStart=>exact .inl ⟨rfl,rfl,rfl,rfl⟩
   case round =>
    rcases hrel with ⟨rfl,rfl,rfl,rfl⟩ | ⟨rfl,rfl,rfl,rfl⟩
    ·go_wp2_with fail;go_roundg 0
     case measure=>omega
     case rel=>exact .inr ⟨rfl,rfl,rfl,rfl⟩
    ·obtain⟨W4,hW4⟩:=zx (W3.setCell ⟨g,0,none⟩ (.int .u32 (LO:Int)))
     have hg4:W4.heap[g]?=some (.cells #[.int .u32 (LO:Int),.int .u32 0] 107 (0,0)):=by rw[hW4];exact heap_setCell_same W3 g 0 _ _ _ HG3.out
     have HB4:=zh (show Below w.heap.size w W4 from by rw[hW4];exact HB3.out.setCell HG.out _);have HG4:=zh hg4
     have kg4:W4.cell? ⟨g,1,none⟩=some (.int .u32 0):=by rw[cell_of_row _ _ _ _ _ _ hg4];rfl
     have kf4:W4.frozen? ⟨g,1,none⟩=false:=frozen_of_row _ _ _ _ _ hg4;rw[<-hW4];clear hW4 hg4 kg0 kg1 kf0 kf1 k1 k2;go_wp2_with fail;go_roundg 0
     case measure=>omega
     case rel=>exact .inr ⟨rfl,rfl,heap_setCell_same W4 g 1 _ _ _ HG4.out,HB4.out.setCell HG.out _⟩
  ·have hgl:g<wr.heap.size:=(zA.1 hgc.out).1;have hls:LS wr (Bl wr.heap.size) (.slice (some ⟨g,0,none⟩) 2 2) [LO,HI]:=cell2L wr g LO HI HLH.out.1 HLH.out.2.1 hgc.out _ hgl;have HS:=zh (nsized_any _ _ _ _ _ wr hls (by simp) (by simp))
   have htl:trimL [LO,HI]=limbs NM:=by rw[<-limbs_nv hls.lim];congr 1;simp only[nv];have:=HLH.out.2.2;omega
   have hr:LS wr (Fr w.heap.size wr.heap.size) (.slice (some ⟨g,0,none⟩) (limbs NM).length (limbs NM).length) (limbs NM):=by
    have h:=((hls.take (trimL [LO,HI]).length (trimL [LO,HI]).length (trimL_length _) (zR _) (by have:=trimL_length [LO,HI];simp at this;unfold maxLen;omega) (by simp)).only (R':=Fr w.heap.size wr.heap.size) (fun b o hb=>by
     injection hb with hb;injection hb with hb;rw[<-hb]
     exact⟨HG.out,hgl⟩))
    rw[<-trimL_take,htl] at h;exact h
   rw[htl] at HS;have HR:=zh hr;have HBR:=zh hbr.out;clear hls hr htl hgc hbr hgl k1 k2 kg0 kg1 kf0 kf1;go_wp2_with fail;refine HS.out.mono ?_;rintro e w4 ⟨rfl,rfl⟩;go_wp2_with fail;go_ret2;exact⟨_,rfl,by rw[<-HNM.out];exact HR.out,HBR.out⟩
theorem nmul0_any(va vb:Value)(m:Nat)(w:World)(ha:LS w (Bl w.heap.size) va (natL 0))(hb:LS w (Bl w.heap.size) vb (natL m))(hm:0<m) :
  Calls Tryz.prog 162 #[va,vb] w fun e w'=>∃u,e=.returned (.tuple #[u,.int .i64 0])/\LS w' (Fr w.heap.size w'.heap.size) u (natL (0*m))/\Below w.heap.size w w':=by
 have HLA:=zh (nlarge_any va _ _ w ha (by have:=natL_length 0;omega));have HLB:=zh (nlarge_any vb _ _ w hb (by have:=natL_length m;omega));have HA:=zh (fun k=>nlength_any va _ _ (w.drewN k) ha (by have:=natL_length 0;omega));have HB:=zh (fun k=>nlength_any vb _ _ (w.drewN k) hb (by have:=natL_length m;omega));rw[trim_natL] at HA HB;have hm32:=hb.lt32;have hn32:=ha.lt32
 have lm:(natL m).length=1:=by rw[natL_pos hm];rfl
 obtain⟨B,d,rfl,-,-⟩:=hb.form;obtain⟨-,-,-,-,hd0,-⟩:=hb.cap (by rw[lm];omega);rw[lm] at hb HB HLB hd0 ⊢
 have hd1:(1:Int)<=(d:Int):=by omega
 obtain⟨b2,o2,rfl,hR2,hc2⟩:=hb.one hm;have HC2:=zh hc2;have HR2:=zh hR2;have hmk1:=mk_u32s1;have hmk2:=mk_u32s2;have HB0:=zh (show ∀k,Calls Tryz.prog 159 #[.slice (some ⟨b2,o2,none⟩) 1 d] (w.drewN k) fun e w'=>e=.returned (.int .i64 1)/\w.drewN k=w' from HB.out);clear hb lm hc2 hR2 hd0 HB;have HA0:=zh (show ∀k,Calls Tryz.prog 159 #[va] (w.drewN k) fun e w'=>e=.returned (.int .i64 0)/\w.drewN k=w' from HA.out);obtain⟨A,c,rfl,-,-⟩:=ha.form;rw[show(natL 0).length=0 from rfl] at HA0 HLA ⊢;clear HA ha;go_enter Tryz.func162,Tryz.ntmps162;go_wp2_with fail;refine HLA.out.mono ?_;rintro e w1 ⟨rfl,rfl⟩;go_wp2_with fail;refine HLB.out.mono ?_;rintro e w1 ⟨rfl,rfl⟩;go_wp2_with fail
 go_quiet (first | with_reducible exact Calls.quiet_of_same ((HA0.out _).mono fun _ _ h=>⟨h.1,h.2.symm⟩) | with_reducible exact Calls.quiet_of_same ((HB0.out _).mono fun _ _ h=>⟨h.1,h.2.symm⟩))
 obtain⟨W,hW⟩:=zx (w.drewN nq);rw[<-hW]
 have hbW:Below w.heap.size w W:=by rw[hW];exact Below.drewN' (zB _ _) nq
 have HBW:=zh hbW;clear hbW hW;obtain⟨W3,hW3⟩:=zx (W.alloc (.cells #[.int .u32 0] 107));obtain⟨g,hg⟩:=zx W.heap.size
 have hg3:W3.heap[g]?=some (.cells #[.int .u32 0] 107 (0,0)):=by rw[hW3,hg];exact zN _ _
 have hgl:g<W3.heap.size:=(zA.1 hg3).1;have HB3:=zh (show Below w.heap.size w W3 from by rw[hW3];exact HBW.out.alloc HBW.out.size _);have HG:=zh (show w.heap.size<=g from by rw[hg];exact HBW.out.size);have hls:LS W3 (Bl W3.heap.size) (.slice (some ⟨g,0,none⟩) 1 1) [0]:=LS.cell1 W3 g 0 (by omega) hg3 _ hgl;have HS:=zh (nsized_any _ _ _ _ _ W3 hls (by simp) (by simp));have HG3:=zh hg3;have HW3:=zh hW3;have HGW:=zh hg;rw[show(trimL [0]).length=0 from rfl] at HS;clear hg3 hgl hls hW3 hg;go_upto_region 5 with fail;rw[<-HGW.out,<-HW3.out];clear hmk1 hmk2;go_wp2_with fail;go_loopg [34] 0 (fun z v34 wr=>v34=.int .i64 0/\W3=wr)
 case atStart=>exact⟨rfl,rfl⟩
 case round =>
  obtain⟨rfl,rfl⟩:=hrel;go_wp2_with fail;refine HS.out.mono ?_;rintro e w4 ⟨rfl,rfl⟩;go_wp2_with fail;go_ret2;exact⟨_,rfl,⟨.inr ⟨g,0,0,by rw[Nat.zero_mul];rfl,by rw[Nat.zero_mul];exact zR _,by unfold maxLen;omega,⟨HG.out,(zA.1 HG3.out).1⟩,fun k x hk=>by rw[Nat.zero_mul] at hk;simp[natL_zero] at hk⟩,fun x hx=>by rw[Nat.zero_mul] at hx;simp[natL_zero] at hx⟩,HB3.out⟩
theorem nmulG_any(va vb:Value)(n m:Nat)(w:World)(ha:LS w (Bl w.heap.size) va (natL n))(hb:LS w (Bl w.heap.size) vb (natL m))(hm:0<m) :
  Calls Tryz.prog 162 #[va,vb] w fun e w'=>∃u,e=.returned (.tuple #[u,.int .i64 0])/\LS w' (Fr w.heap.size w'.heap.size) u (limbs (n*m))/\Below w.heap.size w w':=by
 rcases Nat.eq_zero_or_pos n with h | h
 ·subst h;refine(nmul0_any va vb m w ha hb hm).mono ?_;rintro e w' ⟨u,h1,h2,h3⟩;rw[<-limbs_small (by omega)] at h2;exact⟨u,h1,h2,h3⟩
 ·exact nmulP_any va vb n m w ha hb hm h
theorem nmul_any(va vb:Value)(n m:Nat)(w:World)(ha:LS w (Bl w.heap.size) va (natL n))(hb:LS w (Bl w.heap.size) vb (natL m))(hm:0<m)(hnm:n*m<4294967296) :
  Calls Tryz.prog 162 #[va,vb] w fun e w'=>∃u,e=.returned (.tuple #[u,.int .i64 0])/\LS w' (Fr w.heap.size w'.heap.size) u (natL (n*m))/\Below w.heap.size w w':=by
 have h:=nmulG_any va vb n m w ha hb hm
 rwa [limbs_small hnm] at h
theorem nbits_b(v:Value)(n:Nat)(R:Nat->Prop)(w:World)(h:LS w R v (natL n)) :
  Calls Tryz.prog 123 #[v] w fun e w'=>e=.returned (.int .i64 (bl n:Int))/\Below w.heap.size w w':=(nbits_any v n R w h).mono fun e w' ⟨h1,k,h2⟩=>⟨h1,by rw[h2];exact Below.drewN' (zB _ _) k⟩
theorem LS.frm{w:World}{R:Nat->Prop}{v:Value}{l:List Nat}(h:LS w R v l):∃A n c,v=.slice A n c:=by
 obtain⟨A,c,e,-⟩:=h.form;exact⟨A,_,c,e⟩
theorem LS.bel{w w':World}{B:Nat}{v:Value}{l:List Nat}(h:LS w (Fr B w.heap.size) v l)(hb:Below w.heap.size w w'):LS w' (Fr B w'.heap.size) v l:=(h.keep (fun b hb'=>hb.block b hb'.2)).mono (Fr.wider (zR _) hb.size)
def okL(n d:Nat):Bool:=decide (0<d/\bl d<=4096/\bl n<=4096)
theorem nbitsL_b(v:Value)(l:List Nat)(R:Nat->Prop)(w:World)(h:LS w R v l)(hl:l.length<=1000) :
  Calls Tryz.prog 123 #[v] w fun e w'=>e=.returned (.int .i64 (bl (nv l):Int))/\Below w.heap.size w w':=(nbitsL_any v l R w h hl).mono fun e w' ⟨h1,k,h2⟩=>⟨h1,by rw[h2];exact Below.drewN' (zB _ _) k⟩
theorem fvalidL_any(neg:Bool)(vn vd:Value)(ln ld:List Nat)(w:World)(hn:LS w (Bl w.heap.size) vn ln)(hd:LS w (Bl w.heap.size) vd ld)(h1:ln.length<=512)(h2:ld.length<=512) :
  Calls Tryz.prog 70 #[.agg #[.bool neg,vn,vd]] w fun e w'=>e=.returned (.bool (okL (nv ln) (nv ld)))/\Below w.heap.size w w':=by
 obtain⟨An,Nn,cn,rfl⟩:=hn.frm;obtain⟨Ad,Nd,cd,rfl⟩:=hd.frm;obtain⟨W0,hW0⟩:=zx (w.alloc (.cells #[.bool neg,.slice An Nn cn,.slice Ad Nd cd] 26));obtain⟨q,hq⟩:=zx w.heap.size
 have hb0:Below w.heap.size w W0:=by rw[hW0];exact(zB _ _).alloc (zR _) _
 have hbk:W0.heap[q]?=some (.cells #[.bool neg,.slice An Nn cn,.slice Ad Nd cd] 26 (0,0)):=by rw[hW0,hq];exact zN _ _
 obtain⟨c0,c1,c2,-⟩:=cells3 hbk;have hql:q<W0.heap.size:=(zA.1 hbk).1;have HBD:=zh (nbitsL_b _ ld _ W0 (hd.below hb0) (by omega));have HN0:=zh (And.intro (hn.below hb0) h1);have HW0:=zh hW0;have HQ:=zh hq;have HB0:=zh hb0;have HQL:=zh hql;obtain⟨BD,hBD⟩:=zx (bl (nv ld));obtain⟨BN,hBN⟩:=zx (bl (nv ln));rw[<-hBD] at HBD
 have hok:okL (nv ln) (nv ld)=decide (0<BD/\BD<=4096/\BN<=4096):=by
  unfold okL;rw[hBD,hBN];exact decide_eq_decide.2 (by rw[bl_pos])
 rw[hok];have HBN:=zh hBN;obtain⟨D,hD⟩:∃x:Int,x=(BD:Int):=⟨_,rfl⟩;obtain⟨N,hN⟩:∃x:Int,x=(BN:Int):=⟨_,rfl⟩;rw[<-hD] at HBD;have HDN:=zh (And.intro hD hN);clear hn hd hW0 hq hb0 hbk hql hBD hBN h1 h2 hok hD hN;go_enter Tryz.func70,Tryz.ntmps70;go_wp2_with fail;rw[<-HW0.out,<-HQ.out];refine HBD.out.mono ?_;rintro e w1 ⟨rfl,hb1⟩;have k1:w1.cell? ⟨q,1,none⟩=some (.slice An Nn cn):=(hb1.cell (p:=⟨q,1,none⟩) HQL.out).trans c1;have HN1:=zh (nbitsL_b _ ln _ w1 (HN0.out.1.below hb1) (by have:=HN0.out.2;omega));rw[<-HBN.out,<-HDN.out.2] at HN1;have HB1:=zh (HB0.out.trans (hb1.mono HB0.out.size));clear c0 c1 c2 hb1;by_cases h0:0<D
 ·by_cases h1:D<=4096
  ·go_wp2_with fail;refine HN1.out.mono ?_;rintro e w2 ⟨rfl,hb2⟩;have HB2:=zh (HB1.out.trans (hb2.mono HB1.out.size));clear hb2 k1;go_wp2_with fail;go_ret
   exact⟨ret_bool (by
    have h3:=HDN.out.1;have h4:=HDN.out.2
    refine decide_eq_decide.2 ⟨fun h=>⟨by omega,by omega,by omega⟩,fun h=>by omega⟩),HB2.out⟩
  ·have d1:decide (D<=4096)=false:=decide_eq_false h1;have HE:=zh (show decide (0<BD/\BD<=4096/\BN<=4096)=false from decide_eq_false (by have:=HDN.out.1;omega));clear h1;go_wp2_with fail;go_ret;exact⟨ret_bool HE.out.symm,HB1.out⟩
 ·have d1:decide (0<D)=false:=decide_eq_false h0;have HE:=zh (show decide (0<BD/\BD<=4096/\BN<=4096)=false from decide_eq_false (by have:=HDN.out.1;omega));clear h0;go_wp2_with fail;go_ret;exact⟨ret_bool HE.out.symm,HB1.out⟩
theorem nv_len512{x k:Nat}(h:bl x<=4096):(limbs x).length<=128:=limbs_len x 128 (by
 have:=bl_le_iff.1 h
 rwa [show(4294967296:Nat) ^ 128=2 ^ 4096 by decide +kernel])
theorem ok128{n:Nat}:(limbs n).length<=128↔bl n<=4096:=by
 constructor
 ·intro h;refine bl_le_iff.2 ?_;have h1:=nv_lt (lim_limbs n);rw[nv_limbs] at h1;have h2:4294967296 ^ (limbs n).length<=4294967296 ^ 128:=Nat.pow_le_pow_right (by omega) h;rw[show(4294967296:Nat) ^ 128=2 ^ 4096 by decide +kernel] at h2;omega
 ·exact fun h=>nv_len512 (k:=0) h
theorem okL_small{n d:Nat}(h:0<d)(hn:n<4294967296)(hd:d<4294967296):okL n d=true:=by
 refine decide_eq_true ⟨h,ok128.1 ?_,ok128.1 ?_⟩
 ·have:=limbs_len1.2 hd;omega
 ·have:=limbs_len1.2 hn;omega
end Go.Proofs.YtgfaieppacabjaaGreat
