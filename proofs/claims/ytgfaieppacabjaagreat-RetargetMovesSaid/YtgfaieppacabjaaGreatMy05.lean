/- awake, walked. -/
import Derived.Test.YtgfaieppacabjaaGreatMy04
import Derived.Lib.BufferWrite
import Derived.WideKeyEntry
import Derived.Maps.RangeWalk
import Derived.Laws.AppendOwnNone
set_option linter.unusedSectionVars false
set_option maxRecDepth 100000
set_option maxHeartbeats 12800000
namespace Go.Proofs.YtgfaieppacabjaaGreat
open Go.RowKit
set_option linter.unusedVariables false
set_option linter.unusedSimpArgs false
theorem awake_decE:decE 1 0 [⟨0,[0]⟩]=0:=by kernel_rfl
theorem awake_comE:comE 1 0 2 [⟨0,[0]⟩]=0:=by unfold comE;rw[if_neg (by decide),awake_decE]
theorem awake_comE2:comE 1 2 1 []=1:=by unfold comE;rw[if_pos (by decide)]
theorem awake_frag(w:World)(g1 g2:Nat)(h1:w.cell? ⟨g1,0,none⟩=some (.int .u8 0))(h2:w.cell? ⟨g2,0,none⟩=some (.int .i64 0))(h3:w.cell? ⟨g2,1,none⟩=some (.slice (some ⟨g1,0,none⟩) 1 1))(hg1:g1<w.heap.size)(hg2:g2<w.heap.size) :
  FragS w (Bl w.heap.size) (.slice (some ⟨g2,0,none⟩) 1 1) [⟨0,[0]⟩]:=by
 refine⟨⟨_,1,rfl,zR _,by unfold maxLen;simp,fun _=>⟨g2,0,rfl,hg2,fun k h hk=>?_⟩⟩,fun h hh=>by
  rw[List.mem_singleton.1 hh];exact⟨by decide,by decide⟩⟩
 have hk0:k=0:=by have:=(zL.1 hk).1;simpa using this
 subst hk0;simp only[List.getElem?_cons_zero,Option.some.injEq] at hk;subst hk;refine⟨_,h2,h3,⟨_,1,rfl,zR _,by unfold maxLen;simp,fun _=>⟨g1,0,rfl,hg1,fun j x hj=>?_⟩⟩⟩
 have hj0:j=0:=by have:=(zL.1 hj).1;simpa using this
 subst hj0;simp only[List.getElem?_cons_zero,Option.some.injEq] at hj;subst hj;exact h1
theorem awake_any(w:World):Calls Tryz.prog 7 #[] w fun e w'=>e=.returned (.bool true)/\Below w.heap.size w w':=by
 go_enter Tryz.func7,Tryz.ntmps7;go_wp2_with fail;obtain⟨g,hg⟩:=zx w.heap.size;obtain⟨W,hW⟩:=zx ((w.alloc (.cells #[.int .u8 0] 5)).alloc (.cells #[.int .i64 0,.slice (some ⟨w.heap.size,0,none⟩) 1 1] 74))
 have hbW:Below w.heap.size w W:=by rw[hW];exact((zB _ _).alloc (zR _) _).alloc (by simp) _
 have hfr:FragS W (Bl W.heap.size) (.slice (some ⟨w.heap.size+1,0,none⟩) 1 1) [⟨0,[0]⟩]:=by
  rw[hW];exact awake_frag _ w.heap.size (w.heap.size+1) (by simp) (by simp) (by simp) (by simp;omega) (by simp)
 have hc1:=complete_any 1 0 2 _ _ W (by unfold I64;omega) (by unfold I64;omega) (by unfold I64;omega) hfr (by simp) (by simp);rw[awake_comE] at hc1;rw[<-hg] at hc1 hW ⊢;rw[<-hW];clear hfr hW;refine hc1.mono ?_;rintro e w1 ⟨v,rfl,ho,-,hb1⟩;have ho:=ho (by trivial);have ho2:OwnFg w1 W.heap.size v [⟨1,[0]⟩,⟨2,[0]⟩]:=ho;obtain⟨A,c,rfl⟩:=ho2.form;have hfs:=ho2.fragS;have hn:FragS w1 (Bl w1.heap.size) (.slice none 0 0) []:=⟨Row.nil _ _ _,fun h hh=>by cases hh⟩;have hc2:=complete_any 1 2 1 _ _ w1 (by unfold I64;omega) (by unfold I64;omega) (by unfold I64;omega) hn (by simp) (by simp);rw[awake_comE2] at hc2;have HC2:=zh hc2;clear hc1 hc2 ho hn;go_wp2_with fail;refine HC2.out.mono ?_;rintro e w2 ⟨v,rfl,-,hv,hb2⟩;obtain rfl:=hv (by decide);have hf2:=hfs.below hb2;obtain⟨b,off,va,rfl,hR,c0,c1,hva,-⟩:=hf2.at_ (k:=0) (by simp);obtain⟨b',off',vb,he,hR',d0,d1,hvb,-⟩:=hf2.at_ (k:=1) (by simp)
 obtain⟨rfl,rfl⟩:b=b'/\off=off':=by injection he with h;injection h with h1 h2;exact⟨h1,h2⟩
 simp only[Nat.zero_mul,Nat.add_zero,Nat.one_mul,List.getElem_cons_zero,List.getElem_cons_succ] at c0 c1 d0 d1 hva;obtain⟨A1,c1',rfl,-,-⟩:=hva.form;have hva':ByS w2 (Bl w2.heap.size) (.slice A1 1 c1') [0]:=hva;obtain⟨b1,o1,rfl,-,e0⟩:=hva'.at_ (k:=0) (by simp);simp only[Nat.add_zero,List.getElem_cons_zero] at e0;have hbb:=(hbW.trans (hb1.mono hbW.size)).trans (hb2.mono (Nat.le_trans hbW.size hb1.size));clear hf2 hfs hva hvb he ho2 hva';have e1:w2.cell? ⟨b1,o1,none⟩=some (.int .u8 0):=e0;clear e0;go_wp2;go_ret;exact⟨rfl,hbb⟩
def num(l:List UInt8):Nat:=l.foldl (fun a c=>a*256+c.toNat) 0
theorem heap_alloc_at(w:World)(o:Obj)(n:Nat)(h:n=w.heap.size):(w.alloc o).heap[n]?=some o:=by subst h;exact zN w o
theorem below_drewL{w w2:World}(h:Below w.drew.heap.size w.drew w2):Below w.heap.size w w2:=⟨h.os,h.tape,h.output,h.size,h.block⟩
def SlAt{α:Type}(size:Nat)(K:World->(Nat->Prop)->List Value->α->Prop)(w:World)(R:Nat->Prop)(es:List α)(b off:Nat):Prop :=
 ∀k a,es[k]?=some a->∃cs,cs.length=size/\(∀i c,cs[i]?=some c->w.cell? ⟨b,off+k*size+i,none⟩=some c)/\K w R cs a
def SlS{α:Type}(size:Nat)(K:World->(Nat->Prop)->List Value->α->Prop)(w:World)(R:Nat->Prop)(v:Value)(es:List α):Prop:=Row R v es.length (SlAt size K w R es)
structure Steady {α:Type} (K:World->(Nat->Prop)->List Value->α->Prop):Prop where
 keep:∀{w w':World} {R:Nat->Prop} {cs:List Value} {a:α},Kept R w w'->K w R cs a->K w' R cs a
 mono:∀{w:World} {R R':Nat->Prop} {cs:List Value} {a:α},(∀b,R b->R' b)->K w R cs a->K w R' cs a
theorem SlS.keep{α:Type}{size:Nat}{K:World->(Nat->Prop)->List Value->α->Prop}(hK:Steady K){w w':World}{R:Nat->Prop}{v:Value}{es:List α}(h:SlS size K w R v es)(hk:Kept R w w'):SlS size K w' R v es :=
 Row.imp h (fun _ hb=>hb) fun b off hb hc k a ha=>by
  obtain⟨cs,h1,h2,h3⟩:=hc k a ha;exact⟨cs,h1,fun i c hi=>(hk.cell hb).trans (h2 i c hi),hK.keep hk h3⟩
theorem SlS.mono{α:Type}{size:Nat}{K:World->(Nat->Prop)->List Value->α->Prop}(hK:Steady K){w:World}{R R':Nat->Prop}{v:Value}{es:List α}(h:SlS size K w R v es)(hr:∀b,R b->R' b):SlS size K w R' v es :=
 Row.imp h hr fun b off _ hc k a ha=>by
  obtain⟨cs,h1,h2,h3⟩:=hc k a ha;exact⟨cs,h1,h2,hK.mono hr h3⟩
theorem SlS.below{α:Type}{size:Nat}{K:World->(Nat->Prop)->List Value->α->Prop}(hK:Steady K){w w':World}{v:Value}{es:List α}(h:SlS size K w (Bl w.heap.size) v es)(hb:Below w.heap.size w w'):SlS size K w' (Bl w'.heap.size) v es :=
 SlS.mono hK (SlS.keep hK h (kept_below hb)) (Bl.mono hb.size)
theorem SlS.form{α:Type}{size:Nat}{K:World->(Nat->Prop)->List Value->α->Prop}{w:World}{R:Nat->Prop}{v:Value}{es:List α}(h:SlS size K w R v es):∃A c,v=.slice A es.length c/\es.length<=c/\es.length<=maxLen:=by
 obtain⟨A',c',e,h1,h2,h3⟩:=h;exact⟨A',c',e,h1,h2⟩
theorem SlS.at_{α:Type}{size:Nat}{K:World->(Nat->Prop)->List Value->α->Prop}{w:World}{R:Nat->Prop}{A:Option Addr}{n c:Nat}{es:List α}(h:SlS size K w R (.slice A n c) es){k:Nat}(hk:k<es.length) :
  ∃b off cs,A=some ⟨b,off,none⟩/\R b/\cs.length=size/\(∀i c,cs[i]?=some c->w.cell? ⟨b,off+k*size+i,none⟩=some c)/\K w R cs es[k]:=by
 obtain⟨A',c',e,_,_,h3⟩:=h;obtain⟨b,off,e2,hb,hc⟩:=h3 (by omega);obtain⟨cs,g1,g2,g3⟩:=hc k es[k] (zG hk);injection e with e;exact⟨b,off,cs,e.trans e2,hb,g1,g2,g3⟩
def StrK(w:World)(R:Nat->Prop)(cs:List Value)(s:ByteArray):Prop:=cs=[.string s]/\s.size<=maxLen
structure Ac where
 vol:Int
 stripe:Int
 ver:Int
 side:Int
theorem strK:Steady StrK:=⟨fun _ h=>h,fun _ h=>h⟩
theorem four{cs:List Value}{a b c d:Value}{w:World}{p o:Nat}(h:∀i c,cs[i]?=some c->w.cell? ⟨p,o+i,none⟩=some c)(e:cs=[a,b,c,d]) :
  w.cell? ⟨p,o,none⟩=some a/\w.cell? ⟨p,o+1,none⟩=some b/\w.cell? ⟨p,o+2,none⟩=some c/\w.cell? ⟨p,o+3,none⟩=some d:=by
 subst e;exact⟨h 0 _ rfl,h 1 _ rfl,h 2 _ rfl,h 3 _ rfl⟩
theorem IntS.form7{w:World}{R:Nat->Prop}{v:Value}{xs:List Int}(h:IntS w R v xs):∃A c,v=.slice A xs.length c/\xs.length<=c/\xs.length<=maxLen:=by
 obtain⟨⟨A,c,h1,h2,h3,-⟩,-⟩:=h;exact⟨A,c,h1,h2,h3⟩
theorem IntS.at7{w:World}{R:Nat->Prop}{A:Option Addr}{n c:Nat}{xs:List Int}(h:IntS w R (.slice A n c) xs){k:Nat}(hk:k<xs.length):∃b off,A=some ⟨b,off,none⟩/\R b/\w.cell? ⟨b,off+k,none⟩=some (.int .i64 xs[k])/\I64 xs[k]:=by
 obtain⟨⟨A',c',e,_,_,h3⟩,h4⟩:=h;obtain⟨b,off,e2,hb,hc⟩:=h3 (by omega);injection e with e;exact⟨b,off,e.trans e2,hb,hc k _ (zG hk),h4 _ (List.getElem_mem hk)⟩
def OwnI(w:World)(base:Nat)(v:Value)(xs:List Int):Prop:=w.ownsRow base 3 1 v xs.length (xs.map (Value.int .i64))
theorem OwnI.nil(w:World)(base:Nat):OwnI w base (.slice none 0 0) []:=World.ownsRow_nil _ _ _ _
theorem OwnI.below{w w2:World}{base:Nat}{v:Value}{xs:List Int}(h:OwnI w base v xs)(hb:Below w.heap.size w w2):OwnI w2 base v xs:=own_below h hb
theorem OwnI.base{w:World}{B B':Nat}{v:Value}{xs:List Int}(h:OwnI w B v xs)(hB:B'<=B):OwnI w B' v xs:=own_base h hB
theorem OwnI.intS{w:World}{base:Nat}{v:Value}{xs:List Int}(h:OwnI w base v xs)(hx:∀x∈xs,I64 x):IntS w (Fr base w.heap.size) v xs :=
 IntS.own h (fun b hb=>h.lt b hb) hx
theorem OwnI.lt{w:World}{base:Nat}{v:Value}{xs:List Int}(h:OwnI w base v xs):∀b,v.ownBlock=some b->base<=b/\b<w.heap.size:=World.ownsRow.lt h
theorem OwnI.form{w:World}{base:Nat}{v:Value}{xs:List Int}(h:OwnI w base v xs):∃A c,v=.slice A xs.length c:=own_form h
theorem info_int2:(Tryz.prog.info? 3).map (fun i=>(i.zero,i.size,i.bytes))=some (some (.int .i64 0),1,8):=by kernel_rfl
theorem app_i{ops:Array Oper}{rest:List Oper}{o:Oper}{a:Act}{Q:Exit->Act->World->Prop}{w:World}(x0:Int)(s x:Operand)(hgd:o.guard=none)(ho:o.op=.call { callee:=.builtin .append,args:=#[s,x],argTypes:=#[22,22] })
  (base:Nat) (v:Value) (n:Nat) (xs:List Int) (hl:xs.length=n) (hs:a.eval s=v) (hown:w.ownsRow base 3 1 v n (xs.map (Value.int .i64)))
  (hx:a.eval x=.slice (some ⟨w.heap.size,0,none⟩) 1 1) (hn:n+1<=16777216) (hbase:base<=w.heap.size)
  (h:∀v' w',OwnI w' base v' (xs++[x0])->w.grownBy w' v.ownBlock->(v'.ownBlock=v.ownBlock\/v'.ownBlock=some (w.heap.size+1))->wpList Tryz.prog ops Q rest (a.put o.dst v') w') :
  wpList Tryz.prog ops Q (o :: rest) a (w.alloc (.cells #[.int .i64 x0] 3)):=by
 obtain⟨i0,hi0,hz0,hz1,hz2⟩:=info_parts info_int2;refine wpList_append1 hgd s x _ ho base i0 _ 1 8 Tryz.underlying22 hi0 hz0 hz1 hz2 rfl (by omega) (by omega) v n _ hs hown hx rfl (by simp;rfl) hn hbase (fun v' w' h1=>h v' w' ?_);unfold OwnI;rw[zP,hl,List.map_append];exact h1
open Go.ChangeMaps Go.MapKept Go.WideShapes
open Go.WideElems (Fit rd rg pl rd_key rd_val rg_of)
open Go.Maps (Keyed)
def kv(a b:Int):Value:=.agg #[.int .i64 a,.int .i64 b]
def rawR(v:Value):Option (DataW Value×List MemPlace):=some (.held v,[])
theorem rawR_inj{v:Value}{d:DataW Value}{ps:List MemPlace}(h:rawR v=some (d,ps)):d=.held v:=by
 unfold rawR at h;injection h with h;injection h with h1 h2;exact h1.symm
theorem held_inj{a b:Value}(h:(DataW.held a:DataW Value)=.held b):a=b:=by injection h
section
variable {w : World} {kt t e : TypeId} {b n : Nat} {f : Int -> Int -> Option Value} {x y : Int} {z : Value}
end
section
variable {w : World} {ops : Array Oper} {rest : List Oper} {o : Oper} {a : Act} {Q : Exit -> Act -> World -> Prop}
end
section
variable {w : World} {ops : Array Oper} {rest : List Oper} {o : Oper} {a : Act} {Q : Exit -> Act -> World -> Prop}
end
noncomputable def gotten (kt : TypeId) (D : DataW Value) (left : Lit -> Bool) (z : Value) : Int -> Int -> Option Value := fun x y =>
  match keyOf Tryz.prog kt (kv x y) with
  | some l => if Maps.has D l = true /\ left l = false then some z else none
  | none => none
def u32V(x:Nat):Value:=.int .u32 (x:Int)
def LS(w:World)(R:Nat->Prop)(v:Value)(l:List Nat):Prop :=
 ((v=.slice none 0 0/\l=[])\/∃b off c,v=.slice (some ⟨b,off,none⟩) l.length c/\l.length<=c/\c<=maxLen/\R b/\∀k x,l[k]?=some x->w.cell? ⟨b,off+k,none⟩=some (u32V x))/\(∀x∈l,x<4294967296)
theorem LS.keep{w w':World}{R:Nat->Prop}{v:Value}{l:List Nat}(h:LS w R v l)(hk:Kept R w w'):LS w' R v l:=by
 refine⟨?_,h.2⟩;rcases h.1 with h1 | ⟨b,off,c,h1,h2,h3,h4,h5⟩
 ·exact .inl h1
 ·exact .inr ⟨b,off,c,h1,h2,h3,h4,fun k x hx=>(hk.cell h4).trans (h5 k x hx)⟩
theorem LS.mono{w:World}{R R':Nat->Prop}{v:Value}{l:List Nat}(h:LS w R v l)(hr:∀b,R b->R' b):LS w R' v l:=by
 refine⟨?_,h.2⟩;rcases h.1 with h1 | ⟨b,off,c,h1,h2,h3,h4,h5⟩
 ·exact .inl h1
 ·exact .inr ⟨b,off,c,h1,h2,h3,hr b h4,h5⟩
theorem LS.below{w w':World}{v:Value}{l:List Nat}(h:LS w (Bl w.heap.size) v l)(hb:Below w.heap.size w w'):LS w' (Bl w'.heap.size) v l:=(h.keep (kept_below hb)).mono (Bl.mono hb.size)
theorem LS.form{w:World}{R:Nat->Prop}{v:Value}{l:List Nat}(h:LS w R v l):∃A c,v=.slice A l.length c/\l.length<=c/\l.length<=maxLen:=by
 rcases h.1 with ⟨rfl,rfl⟩ | ⟨b,off,c,h1,h2,h3,h4,h5⟩
 ·exact⟨none,0,rfl,zR _,by unfold maxLen;simp⟩
 ·exact⟨_,c,h1,h2,Nat.le_trans h2 h3⟩
theorem LS.at_{w:World}{R:Nat->Prop}{A:Option Addr}{n c:Nat}{l:List Nat}(h:LS w R (.slice A n c) l){k:Nat}(hk:k<l.length):∃b off,A=some ⟨b,off,none⟩/\R b/\w.cell? ⟨b,off+k,none⟩=some (.int .u32 (l[k]:Int))/\l[k]<4294967296:=by
 rcases h.1 with ⟨_,rfl⟩ | ⟨b,off,c',h1,h2,h3,h4,h5⟩
 ·cases hk
 ·injection h1 with h1;exact⟨b,off,h1,h4,h5 k _ (zG hk),h.2 _ (List.getElem_mem hk)⟩
theorem LS.nil(w:World)(R:Nat->Prop):LS w R (.slice none 0 0) []:=⟨.inl ⟨rfl,rfl⟩,fun x h=>by cases h⟩
def OwnL(w:World)(base:Nat)(v:Value)(l:List Nat):Prop:=w.ownsRow base 107 1 v l.length (l.map u32V)
theorem OwnL.nil(w:World)(base:Nat):OwnL w base (.slice none 0 0) []:=World.ownsRow_nil _ _ _ _
theorem OwnL.base{w:World}{B B':Nat}{v:Value}{l:List Nat}(h:OwnL w B v l)(hB:B'<=B):OwnL w B' v l:=own_base h hB
theorem OwnL.below{w w2:World}{base:Nat}{v:Value}{l:List Nat}(h:OwnL w base v l)(hb:Below w.heap.size w w2):OwnL w2 base v l:=own_below h hb
theorem OwnL.ls{w:World}{base:Nat}{v:Value}{l:List Nat}(h:OwnL w base v l)(hx:∀x∈l,x<4294967296):LS w (Fr base w.heap.size) v l:=by
 have h1:w.ownsRow base 107 1 v l.length (l.map u32V):=h
 have hc:=fun g=>h1.cells (g:=g)
 have hlt:=h1.lt;refine⟨?_,hx⟩;rcases h1.2 with ⟨rfl,h0⟩ | ⟨g,cap,cur,rfl,_,_,h2,h3,_⟩
 ·exact .inl ⟨rfl,List.eq_nil_of_length_eq_zero h0⟩
 ·refine .inr ⟨g,0,cap,rfl,h2,h3,hlt g rfl,fun k x hk=>?_⟩;have:=hc g rfl k (u32V x) (by simp[hk]);rw[<-this];unfold Addr.add;split <;> simp_all
theorem OwnL.lsBl{w:World}{base:Nat}{v:Value}{l:List Nat}(h:OwnL w base v l)(hx:∀x∈l,x<4294967296):LS w (Bl w.heap.size) v l:=(h.ls hx).mono (fun _ hb=>hb.2)
theorem info_u32:(Tryz.prog.info? 107).map (fun i=>(i.zero,i.size,i.bytes))=some (some (.int .u32 0),1,4):=by kernel_rfl
def trimL(l:List Nat):List Nat:=(l.reverse.dropWhile (·==0)).reverse
theorem dropWhile_zeros:∀(a b:List Nat),(∀x∈a,x=0)->(a++b).dropWhile (·==0)=b.dropWhile (·==0)
 | [],_,_=>rfl
 | x :: a,b,h=>by
  have hx:x=0:=h x (by simp);subst hx;simp only[List.cons_append,List.dropWhile_cons];exact dropWhile_zeros a b (fun y hy=>h y (List.mem_cons_of_mem _ hy))
theorem trim_at(l:List Nat)(j:Nat)(hj:j<=l.length)(hz:∀i (h:i<l.length),j<=i->l[i]=0)(hn:∀k (h:k<l.length),j=k+1->l[k]≠0):trimL l=l.take j:=by
 unfold trimL
 have e:l.reverse=(l.drop j).reverse++(l.take j).reverse:=by rw[<-List.reverse_append,List.take_append_drop]
 rw[e,dropWhile_zeros]
 ·cases j with
  | zero=>simp
  | succ k =>
   have hk:k<l.length:=by omega
   have h1:(l.take (k+1)).reverse=l[k] :: (l.take k).reverse:=by rw[List.take_succ_eq_append_getElem hk,List.reverse_append];rfl
   have h2:(l[k]==0)=false:=by simpa using hn k hk rfl
   rw[h1,List.dropWhile_cons,h2];simp only[Bool.false_eq_true,if_false];rw[<-h1,List.reverse_reverse]
 ·intro x hx;rw[List.mem_reverse] at hx;obtain⟨i,hi,rfl⟩:=List.getElem_of_mem hx;rw[List.getElem_drop];exact hz _ _ (by omega)
theorem trimL_length(l:List Nat):(trimL l).length<=l.length:=by
 unfold trimL;rw[List.length_reverse];exact Nat.le_trans (List.dropWhile_sublist _).length_le (by simp)
def natL(n:Nat):List Nat:=if n=0 then [] else [n]
theorem natL_zero:natL 0=[]:=rfl
theorem natL_pos{n:Nat}(h:0<n):natL n=[n]:=if_neg (by omega)
theorem trim_natL(n:Nat):trimL (natL n)=natL n:=by
 by_cases h:n=0
 ·subst h;rfl
 ·rw[natL_pos (by omega)];simp[trimL,h]
theorem trim_two(n:Nat):trimL [n,0]=natL n:=by
 by_cases h:n=0
 ·subst h;rfl
 ·rw[natL_pos (by omega)];simp[trimL,h]
theorem natL_mem{n:Nat}(h:n<4294967296):∀x∈natL n,x<4294967296:=by
 intro x hx;unfold natL at hx;split at hx
 ·cases hx
 ·simp at hx;omega
theorem natL_length(n:Nat):(natL n).length<=1:=by unfold natL;split <;> simp
theorem below_none{w w':World}(hg:w.grownBy w' (Value.slice none 0 0).ownBlock):Below w.heap.size w w':=⟨hg.os,hg.tape,hg.output,hg.size,fun k hk=>hg.block k hk (fun e=>by cases e)⟩
theorem trim_any(v:Value)(l:List Nat)(R:Nat->Prop)(w:World)(h:LS w R v l)(hR:∀b,R b->b<w.heap.size)(hl:l.length<=1048576) :
  Calls Tryz.prog 120 #[v] w fun e w'=>∃u,e=.returned u/\OwnL w' w.heap.size u (trimL l)/\Below w.heap.size w w':=by
 obtain⟨i0,hi0,hz0,hz1,hz2⟩:=info_parts info_u32;have HL:=zh h;rcases h.1 with ⟨rfl,rfl⟩ | ⟨b,off,c,rfl,hlc,hcm,hRb,hcs⟩
 ·clear h;go_enter Tryz.func120,Tryz.ntmps120;go_wp2_with fail;go_loopg [3] 0 (fun z v3 wr=>w=wr/\v3=.int .i64 0)
  case atStart=>exact⟨rfl,rfl⟩
  case round =>
   obtain⟨rfl,rfl⟩:=hrel;go_wp2_with (at_builtin;refine wpList_append_own_none rfl _ _ _ rfl w.heap.size 107 i0 1 Tryz.underlying24 hi0 (.slice none 0 0) 0 [] (by rfl) (World.ownsRow_nil _ _ _ _) (by rfl) ?_);go_ret;exact⟨_,rfl,OwnL.nil _ _,zB _ _⟩
 ·clear h;unfold maxLen at hcm;have hRl:=hR b hRb;have HCS:=zh hcs;clear hcs;go_enter Tryz.func120,Tryz.ntmps120;go_wp2_with fail;go_loopg [3] l.length (fun z v3 wr=>w=wr/\∃j:Nat,j<=l.length/\z=0+j/\v3=.int .i64 (j:Int)/\Hid (∀i (h:i<l.length),j<=i->l[i]=0))
  case atStart=>exact⟨rfl,l.length,zR _,(Nat.zero_add _).symm,rfl,fun i h h2=>by omega⟩
  case round =>
   obtain⟨rfl,j,hj,rfl,rfl,HZ⟩:=hrel;by_cases h0:j=0
   ·subst h0;have htl:trimL l=l.take 0:=trim_at l 0 hj HZ.out (fun k _ e=>by omega);have HT:=zh htl
    have hnews:∀j2 u,((l.take 0).map u32V)[j2]?=some u->w.cell? ((⟨b,off,none⟩:Addr).add j2)=some u:=by
     intro j2 u hu
     have e1:(⟨b,off,none⟩:Addr).add j2=⟨b,off+j2,none⟩:=by unfold Addr.add;split <;> simp_all
     rw[e1];rw[List.getElem?_map] at hu
     cases hx:(l.take 0)[j2]? with
     | none=>rw[hx] at hu;cases hu
     | some x =>
      rw[hx] at hu;injection hu with hu;rw[<-hu];refine HCS.out j2 x ?_;rw[List.getElem?_take] at hx;split at hx
      ·exact hx
      ·cases hx
    have hlt:((l.take 0).map u32V).length=0*1:=by simp <;> omega
    have HNW:=zh hnews;have HLT:=zh hlt;clear htl hnews hlt;go_wp2_with (at_builtin;refine wpList_append_own_at (P:=Tryz.prog) _ rfl _ _ _ rfl w.heap.size 107 i0 _ 1 4 Tryz.underlying24 hi0 hz0 hz1 hz2 rfl (by decide) (.slice none 0 0) 0 [] (by rfl) (World.ownsRow_nil _ _ _ _) ⟨b,off,none⟩ 0 c ((l.take 0).map u32V) (by rfl) HLT.out HNW.out (fun u hu=>by obtain⟨x,-,rfl⟩:=List.mem_map.1 hu;rfl) (by unfold maxLen;omega) (by omega) (zR _) ?_;intro v' w' hown' hg' _ hat');go_ret;refine⟨_,rfl,?_,below_none hg'⟩;have h2:=hown';rw[Nat.zero_add,List.nil_append] at h2;unfold OwnL;rw[HT.out,show(l.take 0).length=0 by simp];exact h2
   ·obtain⟨k,rfl⟩:∃k,j=k+1:=⟨j-1,by omega⟩
    have hkl:k<l.length:=by omega
    have hck:=HCS.out k l[k] (zG hkl);unfold u32V at hck
    have hpos:(0:Int)<((k+1:Nat):Int):=by omega
    have hsub:IntKind.i64.wrap (((k+1:Nat):Int)-1)=(k:Int):=by rw[show((k+1:Nat):Int)-1=(k:Int) by omega];exact zI _ (by omega)
    have hi0':(0:Int)<=(k:Int):=by omega
    have hi1':(k:Int)<(l.length:Int):=by omega
    have hz2':l[k]=0->∀i (h:i<l.length),k<=i->l[i]=0:=fun e i h1 h2=>by
     by_cases e2:i=k
     ·subst e2;exact e
     ·exact HZ.out i h1 (by omega)
    have hnz:l[k]≠0->trimL l=l.take (k+1):=fun e=>trim_at l (k+1) hj HZ.out (fun k2 h2 e2=>by
     have e3:k2=k:=by omega
     subst e3;exact e)
    have HZ2:=zh hz2';have HNZ:=zh hnz;obtain⟨x,hx⟩:=zx (l[k]);rw[<-hx] at hck HZ2 HNZ;obtain⟨K1,hK1⟩:=zx (k+1);rw[<-hK1] at hpos hsub HNZ hj ⊢;have HK1:=zh hK1;clear hz2' hnz hx HZ hK1;by_cases hx0:x=0
    ·have HZ3:=zh (HZ2.out hx0)
     have q1:((x:Int)==0)=true:=by simpa using hx0
     clear hx0;go_wp2_with fail;go_roundg k
     case measure=>omega
     case rel=>exact⟨rfl,k,by omega,(Nat.zero_add _).symm,rfl,HZ3⟩
    ·have q1:((x:Int)==0)=false:=by simpa using hx0
     have hnz2:=HNZ.out hx0;have htl:trimL l=l.take K1:=hnz2;have HT:=zh htl
     have hnews:∀j2 u,((l.take K1).map u32V)[j2]?=some u->w.cell? ((⟨b,off,none⟩:Addr).add j2)=some u:=by
      intro j2 u hu
      have e1:(⟨b,off,none⟩:Addr).add j2=⟨b,off+j2,none⟩:=by unfold Addr.add;split <;> simp_all
      rw[e1];rw[List.getElem?_map] at hu
      cases hx:(l.take K1)[j2]? with
      | none=>rw[hx] at hu;cases hu
      | some x =>
       rw[hx] at hu;injection hu with hu;rw[<-hu];refine HCS.out j2 x ?_;rw[List.getElem?_take] at hx;split at hx
       ·exact hx
       ·cases hx
     have hlt:((l.take K1).map u32V).length=K1*1:=by simp <;> omega
     have HNW:=zh hnews;have HLT:=zh hlt;clear htl hnews hlt hnz2;go_wp2_with (at_builtin;refine wpList_append_own_at (P:=Tryz.prog) _ rfl _ _ _ rfl w.heap.size 107 i0 _ 1 4 Tryz.underlying24 hi0 hz0 hz1 hz2 rfl (by decide) (.slice none 0 0) 0 [] (by rfl) (World.ownsRow_nil _ _ _ _) ⟨b,off,none⟩ K1 c ((l.take K1).map u32V) (by rfl) HLT.out HNW.out (fun u hu=>by obtain⟨x,-,rfl⟩:=List.mem_map.1 hu;rfl) (by unfold maxLen;omega) (by omega) (zR _) ?_;intro v' w' hown' hg' _ hat');go_ret;refine⟨_,rfl,?_,below_none hg'⟩;have h2:=hown';rw[Nat.zero_add,List.nil_append] at h2;unfold OwnL;rw[HT.out,show(l.take K1).length=K1 by simp;omega];exact h2
theorem LS.two(w:World)(a b:Nat)(ha:a<4294967296)(hb:b<4294967296):LS (w.alloc (.cells #[.int .u32 (a:Int),.int .u32 (b:Int)] 107)) (Bl (w.heap.size+1)) (.slice (some ⟨w.heap.size,0,none⟩) 2 2) [a,b]:=by
 refine⟨.inr ⟨w.heap.size,0,2,rfl,zR _,by unfold maxLen;decide,Nat.lt_succ_self _,fun k x hk=>?_⟩,fun x hx=>?_⟩
 ·rw[Nat.zero_add,cell_of_row _ _ _ _ _ _ (zN w _)]
  match k,hk with
  | 0,hk=>simp at hk;subst hk;rfl
  | 1,hk=>simp at hk;subst hk;rfl
 ·simp at hx;rcases hx with rfl | rfl
  ·exact ha
  ·exact hb
theorem rmake_any(v:Nat)(w:World)(hv:v<4294967296) :
  Calls Tryz.prog 68 #[.int .u64 (v:Int)] w fun e w'=>∃u,e=.returned u/\OwnL w' w.heap.size u (natL v)/\Below w.heap.size w w':=by
 have hv0:(0:Int)<=(v:Int):=by omega
 have hv1:(v:Int)<4294967296:=by omega
 go_enter Tryz.func68,Tryz.ntmps68;go_wp2_with fail
 have e0:((v:Int) / 4294967296)=((0:Nat):Int):=by omega
 rw[e0];refine(trim_any _ [v,0] _ _ (LS.two w v 0 hv (by omega)) (fun b hb=>by simpa[Bl] using hb) (by simp)).mono ?_;rintro e w2 ⟨u,rfl,hO,hb⟩;rw[trim_two] at hO;have HO:=zh (hO.base (B':=w.heap.size) (by simp));have hbz:=below_box hb;clear hO;go_wp2_with fail;go_ret;exact⟨_,rfl,HO.out,hbz⟩
theorem rlarge_any(v:Value)(l:List Nat)(R:Nat->Prop)(w:World)(h:LS w R v l)(hR:∀b,R b->b<w.heap.size)(hl:l.length<=512) :
  Calls Tryz.prog 157 #[v] w fun e w'=>e=.returned (.bool false)/\Below w.heap.size w w':=by
 have HT:=zh (trim_any v l R w h hR (by omega));have hlen:=trimL_length l;clear h;go_enter Tryz.func157,Tryz.ntmps157;go_wp2_with fail;refine HT.out.mono ?_;rintro e w2 ⟨u,rfl,hO,hb⟩;obtain⟨A,c,rfl⟩:=own_form hO
 have q:¬((512:Int)<((trimL l).length:Int)):=by omega
 generalize (trimL l).length=n at *;clear hO;go_wp2_with fail;go_ret;exact⟨ret_bool (decide_eq_false (by omega)),hb⟩
def cmpI(n m:Nat):Int:=if n<m then -1 else if m<n then 1 else 0
theorem natL_len{n:Nat}:((natL n).length=0↔n=0)/\((natL n).length=1↔0<n):=by
 unfold natL;split <;> simp <;> omega
theorem LS.one{w:World}{R:Nat->Prop}{A:Option Addr}{k c:Nat}{n:Nat}(h:LS w R (.slice A k c) (natL n))(h0:0<n):∃b off,A=some ⟨b,off,none⟩/\R b/\w.cell? ⟨b,off,none⟩=some (.int .u32 (n:Int)):=by
 have hl:0<(natL n).length:=by rw[natL_pos h0];simp
 obtain⟨b,off,e,hR,hc,-⟩:=h.at_ hl
 have e2:(natL n)[0]=n:=by simp[natL_pos h0]
 rw[e2,Nat.add_zero] at hc;exact⟨b,off,e,hR,hc⟩
theorem rcmp_any(va vb:Value)(n m:Nat)(R R':Nat->Prop)(w:World)(ha:LS w R va (natL n))(hb:LS w R' vb (natL m))(hR:∀b,R b->b<w.heap.size)(hR':∀b,R' b->b<w.heap.size) :
  Calls Tryz.prog 132 #[va,vb] w fun e w'=>e=.returned (.int .i64 (cmpI n m))/\Below w.heap.size w w':=by
 have HA:=zh (trim_any va _ R w ha hR (by have:=natL_length n;omega));have HB:=zh (fun w' h h2=>trim_any vb (natL m) R' w' h h2 (by have:=natL_length m;omega));have HLB:=zh hb;have hn32:∀x∈natL n,x<4294967296:=ha.2;have hm32:∀x∈natL m,x<4294967296:=hb.2;have HN:=zh hn32;have HM:=zh hm32;have HR':=zh hR';clear ha hb hR hR' hn32 hm32;go_enter Tryz.func132,Tryz.ntmps132;go_wp2_with fail;refine HA.out.mono ?_;rintro e w2 ⟨u,rfl,hO,hb1⟩;rw[trim_natL] at hO;have HB1:=zh hb1;have HO:=zh hO;clear hO hb1;go_wp2_with fail;refine(HB.out _ (HLB.out.keep (fun b hb=>HB1.out.block b (HR'.out b hb))) (fun b hb=>zM (HR'.out b hb) HB1.out.size)).mono ?_;rintro e w3 ⟨u2,rfl,hO2,hb2⟩;rw[trim_natL] at hO2;have hb3:=HB1.out.trans (hb2.mono HB1.out.size);have h1:=(HO.out.below hb2).lsBl HN.out;have h2:=hO2.lsBl HM.out;obtain⟨A,c,rfl,-,-⟩:=h1.form;obtain⟨B,d,rfl,-,-⟩:=h2.form;have hln:=natL_len (n:=n);have hlm:=natL_len (n:=m);obtain⟨N,hN⟩:=zx ((natL n).length);obtain⟨M,hM⟩:=zx ((natL m).length)
 have hN1:N<=1:=by rw[hN];exact natL_length n
 have hM1:M<=1:=by rw[hM];exact natL_length m
 rw[<-hN] at h1 hln ⊢;rw[<-hM] at h2 hlm ⊢;have H1:=zh h1;have H2:=zh h2;clear hO2 hb2 h1 h2 HO HB1 HA HB HLB HR' hN hM;by_cases hne:N=M
 ·subst hne
  have q0:((N:Int) != (N:Int))=false:=by simp
  have hsub:IntKind.i64.wrap ((N:Int)-1)=(N:Int)-1:=zI _ (by omega);go_wp2_with fail;go_loopg [5] N (fun z v5 wr=>wr.heap.size=w3.heap.size/\Hid (Below w3.heap.size w3 wr)/\((z=0/\v5=.int .i64 (-1)/\n=m)\/(z=1/\v5=.int .i64 0/\0<n/\0<m)))
  case atStart =>
   refine⟨rfl,zB _ _,?_⟩;rcases Nat.lt_or_ge 0 N with h | h
   ·have e1:N=1:=by omega
    subst e1;exact .inr ⟨rfl,rfl,hln.2.1 rfl,hlm.2.1 rfl⟩
   ·have e1:N=0:=by omega
    subst e1;exact .inl ⟨rfl,rfl,by have:=hln.1.1 rfl;have:=hlm.1.1 rfl;omega⟩
  case round =>
   obtain⟨hs,hbr,h⟩:=hrel;rcases h with ⟨rfl,rfl,he⟩ | ⟨rfl,rfl,h0,h0'⟩
   ·have HE:=zh he;have HBR:=zh hbr;clear he hbr;go_wp2_with fail;go_ret;exact⟨ret_int (by unfold cmpI;rw[HE.out];simp),hb3.trans (HBR.out.out.mono hb3.size)⟩
   ·have hbr:=hbr.out
    have e1:N=1:=by
     have h3:=hln.2.2 h0;omega
    subst e1;obtain⟨b1,o1,rfl,hR1,hc1⟩:=H1.out.one h0;obtain⟨b2,o2,rfl,hR2,hc2⟩:=H2.out.one h0';have k1:=(hbr.cell (p:=⟨b1,o1,none⟩) hR1).trans hc1;have k2:=(hbr.cell (p:=⟨b2,o2,none⟩) hR2).trans hc2;have HS:=zh hs;have HBZ:=zh (hb3.trans (hbr.mono hb3.size));have HBR:=zh hbr
    have n0:(0:Int)<(n:Int):=by omega
    clear hc1 hc2 hR1 hR2 hln hlm hsub hN1 hs h0 h0' hb3 hbr;by_cases hlt:n<m
    ·have q1:(n:Int)<(m:Int):=by omega
     have HE:=zh (show cmpI n m = -1 by unfold cmpI;rw[if_pos hlt]);clear hlt;go_wp2_with fail
     go_quiet (fail)
     go_wp2_with fail;go_ret;exact⟨ret_int HE.out.symm,Below.drewN' HBZ.out _⟩
    ·have q1:¬(n:Int)<(m:Int):=by omega
     by_cases hgt:m<n
     ·have q2:(m:Int)<(n:Int):=by omega
      have HE:=zh (show cmpI n m=1 by unfold cmpI;rw[if_neg hlt,if_pos hgt]);clear hlt hgt;go_wp2_with fail
      go_quiet (fail)
      go_wp2_with fail
      go_quiet (fail)
      go_wp2_with fail;go_ret;exact⟨ret_int HE.out.symm,Below.drewN' (Below.drewN' HBZ.out _) _⟩
     ·have q2:¬(m:Int)<(n:Int):=by omega
      have he:n=m:=by omega
      have HE:=zh he;clear hlt hgt he;go_wp2_with fail
      go_quiet (fail)
      go_wp2_with fail
      go_quiet (fail)
      go_wp2_with fail;go_roundg 0
      case measure=>omega
      case rel=>exact⟨HS.out,Below.drewN' HBR.out _,.inl ⟨rfl,rfl,HE.out⟩⟩
 ·have q0:((N:Int) != (M:Int))=true:=by simp;omega
  by_cases hlt:N<M
  ·have e1:N=0:=by omega
   have e2:M=1:=by omega
   have HE:=zh (show cmpI n m = -1 by
    have h3:=hln.1.1 e1;have h4:=hlm.2.1 e2
    unfold cmpI;rw[if_pos (by omega)])
   have q1:(N:Int)<(M:Int):=by omega
   clear hne hlt e1 e2;go_wp2_with fail;go_ret;exact⟨ret_int HE.out.symm,hb3⟩
  ·have e1:M=0:=by omega
   have e2:N=1:=by omega
   have HE:=zh (show cmpI n m=1 by
    have h3:=hlm.1.1 e1;have h4:=hln.2.1 e2
    unfold cmpI;rw[if_neg (by omega),if_pos (by omega)])
   have q1:¬(N:Int)<(M:Int):=by omega
   clear hne hlt e1 e2;go_wp2_with fail;go_ret;exact⟨ret_int HE.out.symm,hb3⟩
theorem mk_u32s1:∀w:World,(Instr.makeSlice 24 (.int .i64 1) (.int .i64 1)).run Tryz.prog w=.ok (.slice (some ⟨w.heap.size,0,none⟩) 1 1) (w.alloc (.cells #[.int .u32 0] 107)):=by
 intro w;obtain⟨i0,hi0,hz0,hz1,hz2⟩:=info_parts info_u32;have h:=run_make (P:=Tryz.prog) w 24 107 i0 _ Tryz.underlying24 hi0 hz0 .i64 .i64 (1:Int) (1:Int) (by omega) (by omega) (by rw[hz2];decide) (by omega);rw[hz1] at h
 simpa[madeCells_one,Value.cells] using h
theorem LS.lt32{w:World}{R:Nat->Prop}{v:Value}{n:Nat}(h:LS w R v (natL n)):n<4294967296:=by
 by_cases h0:n=0
 ·omega
 ·exact h.2 n (by rw[natL_pos (by omega)];simp)
theorem LS.cell1(w:World)(g n:Nat)(hn:n<4294967296)(hg:w.heap[g]?=some (.cells #[.int .u32 (n:Int)] 107 (0,0)))(R:Nat->Prop)(hR:R g):LS w R (.slice (some ⟨g,0,none⟩) 1 1) [n]:=by
 refine⟨.inr ⟨g,0,1,rfl,zR _,by unfold maxLen;decide,hR,fun k x hk=>?_⟩,fun x hx=>by simp at hx;omega⟩;rw[Nat.zero_add,cell_of_row _ _ _ _ _ _ hg]
 match k,hk with
 | 0,hk=>simp at hk;subst hk;rfl
theorem trim_one'(n:Nat):trimL [n]=natL n:=by
 by_cases h:n=0
 ·subst h;rfl
 ·rw[natL_pos (by omega)];simp[trimL,h]
theorem or_zero(n:Nat)(hn:n<4294967296):bits .or .u64 0 (n:Int)=(n:Int):=by
 show IntKind.u64.wrap ((BitVec.ofInt 64 0 ||| BitVec.ofInt 64 (n:Int)).toNat:Int)=_
 have e1:BitVec.ofInt 64 0=0#64:=rfl
 have e2:BitVec.ofInt 64 (n:Int)=BitVec.ofNat 64 n:=by simp
 rw[e1,e2,BitVec.zero_or,BitVec.toNat_ofNat,Nat.mod_eq_of_lt (by omega)];exact IntWalk.u64_in _ (by omega)
theorem quo_nat(n m:Nat)(hn:n<4294967296):IntKind.u64.wrap ((n:Int).tdiv (m:Int)) % 4294967296=((n / m:Nat):Int):=by
 have h1:(n:Int).tdiv (m:Int)=((n / m:Nat):Int):=by rw[Int.tdiv_eq_ediv_of_nonneg (by omega)];simp
 have h2:n / m<=n:=Nat.div_le_self n m;rw[h1]
 have aux:∀q:Nat,q<=n->IntKind.u64.wrap (q:Int) % 4294967296=(q:Int):=fun q hq=>by
  have h3:IntKind.u64.wrap (q:Int)=(q:Int):=IntWalk.u64_in _ (by omega);rw[h3];omega
 exact aux _ h2
theorem rem_nat(n m:Nat):(n:Int).tmod (m:Int)=((n % m:Nat):Int):=by
 rw[Int.tmod_eq_emod_of_nonneg (by omega)];simp
theorem rdivide_any(va vb:Value)(n m:Nat)(R R':Nat->Prop)(w:World)(ha:LS w R va (natL n))(hb:LS w R' vb (natL m))(hR:∀b,R b->b<w.heap.size)(hR':∀b,R' b->b<w.heap.size)(hm:0<m) :
  Calls Tryz.prog 158 #[va,vb] w fun e w'=>∃q r,e=.returned (.tuple #[q,r])/\OwnL w' w.heap.size q (natL (n / m))/\OwnL w' w.heap.size r (natL (n % m))/\Below w.heap.size w w':=by
 have HC:=zh (rcmp_any va vb n m R R' w ha hb hR hR');have HA:=zh ha;have HB:=zh hb;have HT:=zh (fun w' h h2=>trim_any va (natL n) R w' h h2 (by have:=natL_length n;omega));have hn32:=ha.lt32;have hm32:=hb.lt32;have HR:=zh hR;have HR':=zh hR';clear ha hb hR hR';go_enter Tryz.func158,Tryz.ntmps158;go_wp2_with fail;refine HC.out.mono ?_;rintro e w2 ⟨rfl,hb1⟩;have HB1:=zh hb1;by_cases hlt:n<m
 ·have q1:cmpI n m = -1:=if_pos hlt;rw[q1];have HD:=zh (show n / m=0/\n % m=n from⟨Nat.div_eq_of_lt hlt,Nat.mod_eq_of_lt hlt⟩);clear hb1 hlt q1;go_wp2_with fail;refine(HT.out _ (HA.out.keep (fun b hb=>HB1.out.block b (HR.out b hb))) (fun b hb=>zM (HR.out b hb) HB1.out.size)).mono ?_;rintro e w3 ⟨u,rfl,hO,hb2⟩;rw[trim_natL] at hO;have HO:=zh (hO.base HB1.out.size);have hbz:=HB1.out.trans (hb2.mono HB1.out.size);clear hO hb2;go_wp2_with fail;go_ret2;exact⟨_,_,rfl,by rw[HD.out.1];exact OwnL.nil _ _,by rw[HD.out.2];exact HO.out,hbz⟩
 ·have hn:0<n:=by omega
  have hca:=(HA.out.keep (w':=w2) (fun b hb=>hb1.block b (HR.out b hb)));have hcb:=(HB.out.keep (w':=w2) (fun b hb=>hb1.block b (HR'.out b hb)));obtain⟨A,c,rfl,-,-⟩:=hca.form;obtain⟨B,d,rfl,-,-⟩:=hcb.form
  have l1:(natL n).length=1:=by rw[natL_pos hn];rfl
  have l2:(natL m).length=1:=by rw[natL_pos hm];rfl
  rw[l1] at hca ⊢;rw[l2] at hcb ⊢;obtain⟨b1,o1,rfl,hR1,hc1⟩:=hca.one hn;obtain⟨b2,o2,rfl,hR2,hc2⟩:=hcb.one hm;have hb1l:b1<w2.heap.size:=zM (HR.out _ hR1) hb1.size;have hb2l:b2<w2.heap.size:=zM (HR'.out _ hR2) hb1.size;have hmk:=mk_u32s1;obtain⟨W3,hW3⟩:=zx (w2.alloc (.cells #[.int .u32 0] 107));obtain⟨g,hg⟩:=zx w2.heap.size
  have k1:W3.cell? ⟨b1,o1,none⟩=some (.int .u32 (n:Int)):=by rw[hW3];exact(((zB _ _).alloc (zR _) _).cell (p:=⟨b1,o1,none⟩) hb1l).trans hc1
  have k2:W3.cell? ⟨b2,o2,none⟩=some (.int .u32 (m:Int)):=by rw[hW3];exact(((zB _ _).alloc (zR _) _).cell (p:=⟨b2,o2,none⟩) hb2l).trans hc2
  have hg3:W3.heap[g]?=some (.cells #[.int .u32 0] 107 (0,0)):=by rw[hW3,hg];exact zN _ _
  have kg:W3.cell? ⟨g,0,none⟩=some (.int .u32 0):=by rw[cell_of_row _ _ _ _ _ _ hg3];rfl
  have kf:W3.frozen? ⟨g,0,none⟩=false:=frozen_of_row _ _ _ _ _ hg3
  have hb3:Below w.heap.size w W3:=by rw[hW3];exact hb1.alloc hb1.size _
  have e1:b1≠g:=by omega
  have e2:b2≠g:=by omega
  have e3:g≠b2:=by omega
  have HG3:=zh hg3;have HW3:=zh hW3;have HG:=zh hg;have HB3:=zh hb3
  have q1:¬cmpI n m<0:=by unfold cmpI;rw[if_neg hlt];split <;> omega
  obtain⟨C,hC⟩:=zx (cmpI n m);rw[<-hC] at q1 ⊢;have HNM:=zh hlt
  have n0:(0:Int)<=(n:Int):=by omega
  have n1:(n:Int)<=4294967295:=by omega
  have m0:(0:Int)<(m:Int):=by omega
  have m1:(m:Int)<=4294967295:=by omega
  clear hca hcb l1 l2 hc1 hc2 hW3 hg hg3 hb3 hb1 hC hlt hR1 hR2;go_upto_region 5 with fail;rw[<-HW3.out,<-HG.out];clear hmk;go_wp2_with fail;go_loopg [7,8] 1 (fun z v7 v8 wr=>(z=1/\v7=.int .u64 0/\v8=.int .i64 0/\W3=wr)\/(z=0/\v7=.int .u64 ((n % m:Nat):Int)/\v8=.int .i64 (-1)/\Hid (wr.heap[g]?=some (.cells #[.int .u32 ((n / m:Nat):Int)] 107 (0,0)))/\Hid (Below w.heap.size w wr)))
  case atStart=>exact .inl ⟨rfl,rfl,rfl,rfl⟩
  case round =>
   rcases hrel with ⟨rfl,rfl,rfl,rfl⟩ | ⟨rfl,rfl,rfl,hgc,hbr⟩
   ·have hor:=or_zero n hn32;have hqu:=quo_nat n m hn32;have hre:=rem_nat n m;go_wp2_with fail;go_roundg 0
    case measure=>omega
    case rel=>exact .inr ⟨rfl,rfl,rfl,heap_setCell_same W3 g 0 _ _ _ HG3.out,HB3.out.setCell (by show w.heap.size<=g;rw[HG.out];exact HB1.out.size) _⟩
   ·clear k1 k2 kg kf;have hsz:W3.heap.size=W3.heap.size:=rfl;have HGC:=zh hgc;have HBR:=zh hbr;have hgl:g<wr.heap.size:=(zA.1 hgc.out).1;clear hgc hbr;go_wp2_with fail;refine(trim_any _ [n / m] (Bl wr.heap.size) _ (LS.cell1 wr g (n / m) (Nat.lt_of_le_of_lt (Nat.div_le_self n m) hn32) HGC.out.out _ hgl) (fun b hb=>hb) (by simp)).mono ?_;rintro e w4 ⟨u,rfl,hO,hb4⟩;rw[trim_one'] at hO;have HO:=zh hO;have HB4:=zh hb4;clear hO hb4;go_wp2_with fail;refine(rmake_any (n % m) _ (Nat.lt_trans (Nat.mod_lt _ hm) hm32)).mono ?_;rintro e w5 ⟨u5,rfl,hO5,hb5⟩;have HO5:=zh hO5;have hbr:=HBR.out.out;have hO4:=(HO.out.below hb5).base (B':=w.heap.size) hbr.size;have hb45:=HB4.out.trans (hb5.mono HB4.out.size);have hbz:=hbr.trans (hb45.mono hbr.size);have HO4:=zh hO4;have HBZ:=zh hbz;have hs4:w.heap.size<=w4.heap.size:=Nat.le_trans hbr.size HB4.out.size;clear hO5 hO4 hbz hb5 hb45 hbr;go_wp2_with fail;go_ret2;exact⟨_,_,rfl,HO4.out,HO5.out.base hs4,HBZ.out⟩
theorem rdiv_any(va vb:Value)(n m:Nat)(w:World)(ha:LS w (Bl w.heap.size) va (natL n))(hb:LS w (Bl w.heap.size) vb (natL m))(hm:0<m) :
  Calls Tryz.prog 122 #[va,vb] w fun e w'=>∃q r,e=.returned (.tuple #[q,r,.int .i64 0])/\OwnL w' w.heap.size q (natL (n / m))/\OwnL w' w.heap.size r (natL (n % m))/\Below w.heap.size w w':=by
 have hn1:=natL_length n;have hm1:=natL_length m;have hn32:=ha.2;have hm32:=hb.2;have HA:=zh ha;have HB:=zh hb;have H1:=zh hn1;have H2:=zh hm1;have H3:=zh hn32;have H4:=zh hm32
 have hml:¬(natL m).length=0:=by rw[natL_pos hm];simp
 have HML:=zh hml;clear ha hb hn1 hm1 hn32 hm32 hml;go_enter Tryz.func122,Tryz.ntmps122;go_wp2_with fail;refine(rlarge_any va _ _ _ HA.out (fun b h=>h) (Nat.le_trans H1.out (by omega))).mono ?_;rintro e w1 ⟨rfl,hb1⟩;have HA1:=zh (HA.out.below hb1);have HB1:=zh (HB.out.below hb1);have HC1:=zh hb1;clear hb1;go_wp2_with fail;refine(rlarge_any vb _ _ _ HB1.out (fun b h=>h) (Nat.le_trans H2.out (by omega))).mono ?_;rintro e w2 ⟨rfl,hb2⟩;have HA2:=zh (HA1.out.below hb2);have HB2:=zh (HB1.out.below hb2);have HC2:=zh (HC1.out.trans (hb2.mono HC1.out.size));clear hb2;go_wp2_with fail;refine(trim_any vb _ _ _ HB2.out (fun b h=>h) (Nat.le_trans H2.out (by omega))).mono ?_;rintro e w3 ⟨u3,rfl,hO3,hb3⟩;rw[trim_natL] at hO3;obtain⟨A3,c3,rfl⟩:=own_form hO3;have HA3:=zh (HA2.out.below hb3);have HB3:=zh (HB2.out.below hb3);have HC3:=zh (HC2.out.trans (hb3.mono HC2.out.size));obtain⟨M,hM⟩:=zx ((natL m).length)
 have hM0:((M:Int)==0)=false:=by rw[beq_eq_false_iff_ne];have:=HML.out;omega
 rw[<-hM];clear hb3 hO3 hM;go_wp2_with fail;refine(trim_any va _ _ _ HA3.out (fun b h=>h) (Nat.le_trans H1.out (by omega))).mono ?_;rintro e w4 ⟨u4,rfl,hO4,hb4⟩;rw[trim_natL] at hO4;have HO4:=zh hO4;have HB4:=zh (HB3.out.below hb4);have HC4:=zh (HC3.out.trans (hb4.mono HC3.out.size));clear hb4 hO4;go_wp2_with fail;refine(trim_any vb _ _ _ HB4.out (fun b h=>h) (Nat.le_trans H2.out (by omega))).mono ?_;rintro e w5 ⟨u5,rfl,hO5,hb5⟩;rw[trim_natL] at hO5;have HO5:=zh hO5;have HO45:=zh (HO4.out.below hb5);have HC5:=zh (HC4.out.trans (hb5.mono HC4.out.size));clear hb5 hO5;go_wp2_with fail;refine(rdivide_any u4 u5 n m _ _ _ (HO45.out.lsBl H3.out) (HO5.out.lsBl H4.out) (fun b h=>h) (fun b h=>h) hm).mono ?_;rintro e w6 ⟨q,r,rfl,hq,hr,hb6⟩;have HQ:=zh (hq.base HC5.out.size);have HR:=zh (hr.base HC5.out.size);have HC6:=zh (HC5.out.trans (hb6.mono HC5.out.size));clear hq hr hb6;go_wp2_with fail;go_ret3;exact⟨q,r,rfl,HQ.out,HR.out,HC6.out⟩
theorem rgcd_any(va vb:Value)(n m:Nat)(w:World)(ha:LS w (Bl w.heap.size) va (natL n))(hb:LS w (Bl w.heap.size) vb (natL m)) :
  Calls Tryz.prog 121 #[va,vb] w fun e w'=>∃g,e=.returned (.tuple #[g,.int .i64 0])/\OwnL w' w.heap.size g (natL (Nat.gcd n m))/\Below w.heap.size w w':=by
 have hn1:=natL_length n;have hm1:=natL_length m;have hn32:=ha.lt32;have hm32:=hb.lt32;have HA:=zh ha;have HB:=zh hb;have H1:=zh hn1;have H2:=zh hm1;have H3:=zh hn32;have H4:=zh hm32;clear ha hb hn1 hm1 hn32 hm32;go_enter Tryz.func121,Tryz.ntmps121;go_wp2_with fail;refine(rlarge_any va _ _ _ HA.out (fun b h=>h) (Nat.le_trans H1.out (by omega))).mono ?_;rintro e w1 ⟨rfl,hb1⟩;have HA1:=zh (HA.out.below hb1);have HB1:=zh (HB.out.below hb1);have HC1:=zh hb1;clear hb1;go_wp2_with fail;refine(rlarge_any vb _ _ _ HB1.out (fun b h=>h) (Nat.le_trans H2.out (by omega))).mono ?_;rintro e w2 ⟨rfl,hb2⟩;have HA2:=zh (HA1.out.below hb2);have HB2:=zh (HB1.out.below hb2);have HC2:=zh (HC1.out.trans (hb2.mono HC1.out.size));clear hb2;go_wp2_with fail;refine(trim_any va _ _ _ HA2.out (fun b h=>h) (Nat.le_trans H1.out (by omega))).mono ?_;rintro e w4 ⟨u4,rfl,hO4,hb4⟩;rw[trim_natL] at hO4;have HO4:=zh hO4;have HB4:=zh (HB2.out.below hb4);have HC4:=zh (HC2.out.trans (hb4.mono HC2.out.size));clear hb4 hO4;go_wp2_with fail;refine(trim_any vb _ _ _ HB4.out (fun b h=>h) (Nat.le_trans H2.out (by omega))).mono ?_;rintro e w5 ⟨u5,rfl,hO5,hb5⟩;rw[trim_natL] at hO5;have hO45:=(HO4.out.below hb5).base (B':=w.heap.size) HC2.out.size;have hO55:=hO5.base (B':=w.heap.size) HC4.out.size;have HO45:=zh hO45;have HO5:=zh hO55;have HC5:=zh (HC4.out.trans (hb5.mono HC4.out.size));clear hb5 hO5 hO45 hO55;go_wp2_with fail;go_loopg [6,7] m (fun z v6 v7 wr=>Hid (∃x,Nat.gcd x z=Nat.gcd n m/\x<4294967296/\z<4294967296/\OwnL wr w.heap.size v6 (natL x)/\OwnL wr w.heap.size v7 (natL z))/\Hid (Below w.heap.size w wr))
 case atStart=>exact⟨⟨n,rfl,H3.out,H4.out,HO45.out,HO5.out⟩,HC5.out⟩
 case round =>
  obtain⟨hx,hbr⟩:=hrel;obtain⟨x,hgx,hx32,hz32,hox,hoz⟩:=hx.out;have HX:=zh hox;have HZ:=zh hoz;have HGX:=zh hgx;obtain⟨A6,c6,rfl⟩:=own_form hox;obtain⟨A7,c7,rfl⟩:=own_form hoz;have HBR:=zh hbr.out;have hlz:=natL_len (n:=gk);have hsz:=hbr.out.size;have LX:=zh (hox.lsBl (natL_mem hx32));have LZ:=zh (hoz.lsBl (natL_mem hz32));by_cases h0:gk=0
  ·have hl0:(natL gk).length=0:=hlz.1.2 h0;have HE:=zh (show x=Nat.gcd n m by rw[<-hgx,h0];simp);rw[hl0];clear hx hox hoz hgx hlz hl0 h0 hbr;go_wp2_with fail;go_ret2;exact⟨_,rfl,by rw[<-HE.out];exact HX.out,HBR.out⟩
  ·have hl1:(natL gk).length=1:=hlz.2.2 (by omega);have HM:=zh (Nat.mod_lt x (show 0<gk by omega));have HG:=zh (show Nat.gcd gk (x % gk)=Nat.gcd n m by rw[<-hgx,Nat.gcd_comm x gk,Nat.gcd_rec gk x,Nat.gcd_comm gk (x % gk)]);have HZ0:=zh (show 0<gk by omega);rw[hl1] at LZ HZ ⊢;clear hx hox hoz hgx hlz hl1 h0 hbr;go_wp2_with fail;refine(rdivide_any _ _ x gk _ _ _ LX.out LZ.out (fun b h=>h) (fun b h=>h) HZ0.out).mono ?_;rintro e w6 ⟨q,r,rfl,hq,hr,hb6⟩;have HQ:=zh (hr.base hsz);have HZ6:=zh (HZ.out.below hb6);have HC6:=zh (HBR.out.trans (hb6.mono HBR.out.size));clear hq hr hb6;go_wp2_with fail;go_roundg (x % gk)
   case measure=>exact HM.out
   case rel=>exact⟨⟨gk,HG.out,hz32,Nat.lt_trans HM.out hz32,HZ6.out,HQ.out⟩,HC6.out⟩
structure Frc where
 neg:Bool
 num:Nat
 den:Nat
def FrcS(w:World)(R:Nat->Prop)(v:Value)(x:Frc):Prop:=∃vn vd,v=.agg #[.bool x.neg,vn,vd]/\LS w R vn (natL x.num)/\LS w R vd (natL x.den)
def lowF(neg:Bool)(n m:Nat):Frc:=if n=0 then⟨false,0,1⟩ else⟨neg,n / Nat.gcd n m,m / Nat.gcd n m⟩
theorem cells3{W:World}{g:Nat}{a b c:Value}{t:TypeId}(h:W.heap[g]?=some (.cells #[a,b,c] t (0,0))):W.cell? ⟨g,0,none⟩=some a/\W.cell? ⟨g,1,none⟩=some b/\W.cell? ⟨g,2,none⟩=some c/\W.frozen? ⟨g,0,none⟩=false/\W.frozen? ⟨g,1,none⟩=false/\W.frozen? ⟨g,2,none⟩=false :=
 ⟨by rw[cell_of_row _ _ _ _ _ _ h];rfl,by rw[cell_of_row _ _ _ _ _ _ h];rfl,by rw[cell_of_row _ _ _ _ _ _ h];rfl,frozen_of_row _ _ _ _ _ h,frozen_of_row _ _ _ _ _ h,frozen_of_row _ _ _ _ _ h⟩
theorem store3{w:World}{g:Nat}{a b c x y z:Value}{t:TypeId}(h:w.heap[g]?=some (.cells #[a,b,c] t (0,0))):(((w.setCell ⟨g,0,none⟩ x).setCell ⟨g,1,none⟩ y).setCell ⟨g,2,none⟩ z).heap[g]?=some (.cells #[x,y,z] t (0,0)) :=
 heap_setCell_same _ g 2 _ _ z (heap_setCell_same _ g 1 _ _ y (heap_setCell_same _ g 0 _ _ x h))
theorem below_set3{B:Nat}{a w:World}(h:Below B a w){g:Nat}(hg:B<=g)(x y z:Value):Below B a (((w.setCell ⟨g,0,none⟩ x).setCell ⟨g,1,none⟩ y).setCell ⟨g,2,none⟩ z) :=
 ((h.setCell (p:=⟨g,0,none⟩) hg x).setCell (p:=⟨g,1,none⟩) hg y).setCell (p:=⟨g,2,none⟩) hg z
theorem kept_set3(w:World)(g:Nat)(x y z:Value)(R:Nat->Prop)(hR:∀b,R b->b≠g):Kept R w (((w.setCell ⟨g,0,none⟩ x).setCell ⟨g,1,none⟩ y).setCell ⟨g,2,none⟩ z):=fun b hb =>
 ((Below.heap_setCell _ ⟨g,2,none⟩ z b (hR b hb)).trans (Below.heap_setCell _ ⟨g,1,none⟩ y b (hR b hb))).trans (Below.heap_setCell _ ⟨g,0,none⟩ x b (hR b hb))
theorem rlowest_any(neg:Bool)(va vb:Value)(n m:Nat)(w:World)(ha:LS w (Bl w.heap.size) va (natL n))(hb:LS w (Bl w.heap.size) vb (natL m))(hm:0<m) :
  Calls Tryz.prog 67 #[.bool neg,va,vb] w fun e w'=>∃v,e=.returned v/\FrcS w' (Fr w.heap.size w'.heap.size) v (lowF neg n m)/\Below w.heap.size w w':=by
 have hn1:=natL_length n;have hm1:=natL_length m;have hn32:=ha.lt32;have hm32:=hb.lt32;obtain⟨W0,hW0⟩:=zx (w.alloc (.cells #[.bool false,.slice none 0 0,.slice none 0 0] 26));obtain⟨g,hg⟩:=zx w.heap.size
 have hbk:W0.heap[g]?=some (.cells #[.bool false,.slice none 0 0,.slice none 0 0] 26 (0,0)):=by rw[hW0,hg];exact zN _ _
 have hb0:Below w.heap.size w W0:=by rw[hW0];exact(zB _ _).alloc (zR _) _
 have hgl:g<W0.heap.size:=by rw[hW0,hg];simp
 have HA:=zh (ha.below hb0);have HB:=zh (hb.below hb0);have H1:=zh hn1;have H2:=zh hm1;have H3:=zh hn32;have H4:=zh hm32;have HW0:=zh hW0;have HG:=zh hg;have HBK:=zh hbk;have HB0:=zh hb0;clear ha hb hn1 hm1 hn32 hm32 hW0 hg hbk hb0;go_enter Tryz.func67,Tryz.ntmps67;go_wp2_with fail;rw[<-HW0.out,<-HG.out];refine(trim_any va _ _ _ HA.out (fun b h=>h) (Nat.le_trans H1.out (by omega))).mono ?_;rintro e w1 ⟨u1,rfl,hO1,hb1⟩;rw[trim_natL] at hO1;have HO1:=zh hO1;have HB1:=zh (HB.out.below hb1);have HC1:=zh hb1;clear hO1 hb1;go_wp2_with fail;refine(trim_any vb _ _ _ HB1.out (fun b h=>h) (Nat.le_trans H2.out (by omega))).mono ?_;rintro e w2 ⟨u2,rfl,hO2,hb2⟩;rw[trim_natL] at hO2;have hO1b:=(HO1.out.below hb2);have hc2:=HC1.out.trans (hb2.mono HC1.out.size);have HO1:=zh hO1b;have HO2:=zh (hO2.base (B':=W0.heap.size) HC1.out.size)
 obtain⟨Au,Lu,cu,rfl⟩:∃A l c,u2=.slice A l c:=by obtain⟨A,c,e⟩:=own_form HO2.out;exact⟨A,_,c,e⟩
 have HC2:=zh hc2;have hln:=natL_len (n:=n);obtain⟨A1,c1,rfl⟩:=own_form hO1b;by_cases h0:n=0
 ·have hl0:(natL n).length=0:=hln.1.2 h0;rw[hl0];have hk:=(hc2.block g hgl).trans HBK.out;obtain⟨k0,k1,k2,f0,f1,f2⟩:=cells3 hk;have hgl2:g<w2.heap.size:=zM hgl hc2.size
  have hgn:g≠w2.heap.size:=by omega
  have hgn':w2.heap.size≠g:=by omega
  clear hO1b hO2 hb2 hc2 hln hl0;go_wp2_with fail;have hlo:lowF neg n m=⟨false,0,1⟩:=if_pos h0;rw[hlo];have h1:=HB0.out.trans (HC2.out.mono HB0.out.size);have h2:=h1.size
  have hgw:w.heap.size<=g:=by rw[HG.out];exact zR _
  have hbf:=(below_set3 h1 hgw (.bool false) (.slice none 0 0) (.slice (some ⟨w2.heap.size,0,none⟩) 1 1)).alloc (by simpa using h2) (.cells #[.int .u32 1] 107);have hfin:=(zH _ (.cells #[.int .u32 1] 107) g (by simpa using hgl2)).trans (store3 (x:=.bool false) (y:=.slice none 0 0) (z:=.slice (some ⟨w2.heap.size,0,none⟩) 1 1) hk);have hnew:=heap_alloc_at (((w2.setCell ⟨g,0,none⟩ (.bool false)).setCell ⟨g,1,none⟩ (.slice none 0 0)).setCell ⟨g,2,none⟩ (.slice (some ⟨w2.heap.size,0,none⟩) 1 1)) (.cells #[.int .u32 1] 107) w2.heap.size (by simp)
  have hsz:w2.heap.size<((((w2.setCell ⟨g,0,none⟩ (.bool false)).setCell ⟨g,1,none⟩ (.slice none 0 0)).setCell ⟨g,2,none⟩ (.slice (some ⟨w2.heap.size,0,none⟩) 1 1)).alloc (.cells #[.int .u32 1] 107)).heap.size:=by simp
  obtain⟨Wf,hWf⟩:=zx ((((w2.setCell ⟨g,0,none⟩ (.bool false)).setCell ⟨g,1,none⟩ (.slice none 0 0)).setCell ⟨g,2,none⟩ (.slice (some ⟨w2.heap.size,0,none⟩) 1 1)).alloc (.cells #[.int .u32 1] 107));rw[<-hWf] at hbf hfin hnew hsz ⊢;obtain⟨x0,x1,x2,-,-,-⟩:=cells3 hfin;clear k0 k1 k2 f0 f1 f2;exact bodyPost_ret (v:=.agg #[.bool false,.slice none 0 0,.slice (some ⟨w2.heap.size,0,none⟩) 1 1]) (by simp[results,Tryz.results67,go_sem,x0,x1,x2]) rfl ⟨_,rfl,⟨_,_,rfl,LS.nil _ _,LS.cell1 _ w2.heap.size 1 (by omega) hnew _ ⟨h2,hsz⟩⟩,hbf⟩
 ·have hl1:(natL n).length=1:=hln.2.2 (by omega);have LX:=zh (hO1b.lsBl (natL_mem H3.out));have LY:=zh (HO2.out.lsBl (natL_mem H4.out));have HL1:=zh hl1;rw[hl1] at LX HO1 ⊢;have hG0:0<Nat.gcd n m:=Nat.gcd_pos_of_pos_right n hm;have hG1:Nat.gcd n m<=m:=Nat.gcd_le_right n hm;have HC2:=zh hc2;have hne:=zh h0;clear hO1b hO2 hb2 hc2 hln hl1 h0;go_wp2_with fail;refine(rgcd_any _ (.slice Au Lu cu) n m _ LX.out LY.out).mono ?_;rintro e w3 ⟨vg,rfl,hog,hb3⟩;have hc3:=HC2.out.trans (hb3.mono HC2.out.size);have hlg:=natL_len (n:=Nat.gcd n m);have hg32:Nat.gcd n m<4294967296:=Nat.lt_of_le_of_lt hG1 H4.out;obtain⟨G,hGd⟩:=zx (Nat.gcd n m);rw[<-hGd] at hog hlg hg32 hG0 hG1;have hGl:(natL G).length=1:=hlg.2.2 hG0;have LGv:=hog.lsBl (natL_mem hg32);obtain⟨Ag,cg,rfl⟩:=own_form hog;rw[hGl] at LGv ⊢;obtain⟨bg,og,rfl,hRg,hcg⟩:=LGv.one hG0;have LG:=zh LGv;have HO13:=zh (HO1.out.below hb3);have HO23:=zh (HO2.out.below hb3);have HC3:=zh hc3;have HGD:=zh hGd
  have hg0:(0:Int)<(G:Int):=by omega
  clear hog hlg hGl LGv hb3 hGd;by_cases h1:1<G
  ·have q1:(1:Int)<(G:Int):=by omega
   have HDV:=zh (show n / G<=n/\m / G<=m from⟨Nat.div_le_self _ _,Nat.div_le_self _ _⟩);have HG0:=zh hG0;clear hc3 h1;go_wp2_with fail;refine(rdiv_any _ _ n G _ (HO13.out.lsBl (natL_mem H3.out)) LG.out HG0.out).mono ?_;rintro e w4 ⟨vn,r4,rfl,hn4,-,hb4⟩
   obtain⟨An,Ln,cn,rfl⟩:∃A l c,vn=.slice A l c:=by obtain⟨A,c,e⟩:=own_form hn4;exact⟨A,_,c,e⟩
   have hc4:=HC3.out.trans (hb4.mono HC3.out.size);have HN4:=zh hn4;have HO24:=zh (HO23.out.below hb4);have LG4:=zh (LG.out.below hb4);have HC4:=zh hc4;clear hn4 hb4 hc4 hcg;go_wp2_with fail;refine(rdiv_any _ _ m G _ (HO24.out.lsBl (natL_mem H4.out)) LG4.out HG0.out).mono ?_;rintro e wf ⟨vd,r5,rfl,hd5,-,hb5⟩
   obtain⟨Ad,Ld,cd,rfl⟩:∃A l c,vd=.slice A l c:=by obtain⟨A,c,e⟩:=own_form hd5;exact⟨A,_,c,e⟩
   have hcf:=HC4.out.trans (hb5.mono HC4.out.size);have hk:=(hcf.block g hgl).trans HBK.out;obtain⟨k0,k1,k2,f0,f1,f2⟩:=cells3 hk;have HCF:=zh (HB0.out.trans (hcf.mono HB0.out.size));have HLN:=zh (((HN4.out.below hb5).base (B':=W0.heap.size) HC3.out.size).ls (natL_mem (Nat.lt_of_le_of_lt HDV.out.1 H3.out)));have HLD:=zh ((hd5.base (B':=W0.heap.size) HC4.out.size).ls (natL_mem (Nat.lt_of_le_of_lt HDV.out.2 H4.out)));have HLO:=zh (show lowF neg n m=⟨neg,n / G,m / G⟩ by unfold lowF;rw[if_neg hne.out,HGD.out]);clear hd5 hb5 hcf
   have hgw:w.heap.size<=g:=by rw[HG.out];exact zR _
   go_wp2_with fail;have hbf:=below_set3 HCF.out hgw (.bool neg) (.slice An Ln cn) (.slice Ad Ld cd);have hfin:=store3 (x:=.bool neg) (y:=(.slice An Ln cn)) (z:=(.slice Ad Ld cd)) hk;have hln:=(HLN.out.keep (kept_set3 wf g (.bool neg) (.slice An Ln cn) (.slice Ad Ld cd) (Fr W0.heap.size wf.heap.size) (fun b hb e=>by have:=hb.1;omega))).mono (R':=Fr w.heap.size wf.heap.size) (fun b hb=>⟨Nat.le_trans HB0.out.size hb.1,hb.2⟩);have hld:=(HLD.out.keep (kept_set3 wf g (.bool neg) (.slice An Ln cn) (.slice Ad Ld cd) (Fr W0.heap.size wf.heap.size) (fun b hb e=>by have:=hb.1;omega))).mono (R':=Fr w.heap.size wf.heap.size) (fun b hb=>⟨Nat.le_trans HB0.out.size hb.1,hb.2⟩)
   have hsz:wf.heap.size=(((wf.setCell ⟨g,0,none⟩ (.bool neg)).setCell ⟨g,1,none⟩ (.slice An Ln cn)).setCell ⟨g,2,none⟩ (.slice Ad Ld cd)).heap.size:=by simp
   rw[hsz] at hln hld;obtain⟨Wf,hWf⟩:=zx (((wf.setCell ⟨g,0,none⟩ (.bool neg)).setCell ⟨g,1,none⟩ (.slice An Ln cn)).setCell ⟨g,2,none⟩ (.slice Ad Ld cd));rw[<-hWf] at hbf hfin hln hld ⊢;obtain⟨x0,x1,x2,-,-,-⟩:=cells3 hfin;clear k0 k1 k2 f0 f1 f2;exact bodyPost_ret (v:=.agg #[.bool neg,(.slice An Ln cn),(.slice Ad Ld cd)]) (by simp[results,Tryz.results67,go_sem,x0,x1,x2]) rfl ⟨_,rfl,by rw[HLO.out];exact⟨_,_,rfl,hln,hld⟩,hbf⟩
  ·have q1:¬(1:Int)<(G:Int):=by omega
   have hG:G=1:=by omega
   have hk:=(hc3.block g hgl).trans HBK.out;obtain⟨k0,k1,k2,f0,f1,f2⟩:=cells3 hk;obtain⟨wf,hwf⟩:=zx w3;have HCF:=zh (show Below w.heap.size w wf by rw[hwf];exact HB0.out.trans (hc3.mono HB0.out.size));have HLN:=zh (show LS wf (Fr W0.heap.size wf.heap.size) (.slice A1 1 c1) (natL n) by rw[hwf];exact HO13.out.ls (natL_mem H3.out));have HLD:=zh (show LS wf (Fr W0.heap.size wf.heap.size) (.slice Au Lu cu) (natL m) by rw[hwf];exact HO23.out.ls (natL_mem H4.out));have HLO:=zh (show lowF neg n m=⟨neg,n,m⟩ by unfold lowF;rw[if_neg hne.out,<-HGD.out,hG,Nat.div_one,Nat.div_one]);rw[<-hwf] at hk k0 k1 k2 f0 f1 f2 hcg ⊢;clear hc3 h1 hG hwf
   have hgw:w.heap.size<=g:=by rw[HG.out];exact zR _
   go_wp2_with fail;have hbf:=below_set3 HCF.out hgw (.bool neg) (.slice A1 1 c1) (.slice Au Lu cu);have hfin:=store3 (x:=.bool neg) (y:=(.slice A1 1 c1)) (z:=(.slice Au Lu cu)) hk;have hln:=(HLN.out.keep (kept_set3 wf g (.bool neg) (.slice A1 1 c1) (.slice Au Lu cu) (Fr W0.heap.size wf.heap.size) (fun b hb e=>by have:=hb.1;omega))).mono (R':=Fr w.heap.size wf.heap.size) (fun b hb=>⟨Nat.le_trans HB0.out.size hb.1,hb.2⟩);have hld:=(HLD.out.keep (kept_set3 wf g (.bool neg) (.slice A1 1 c1) (.slice Au Lu cu) (Fr W0.heap.size wf.heap.size) (fun b hb e=>by have:=hb.1;omega))).mono (R':=Fr w.heap.size wf.heap.size) (fun b hb=>⟨Nat.le_trans HB0.out.size hb.1,hb.2⟩)
   have hsz:wf.heap.size=(((wf.setCell ⟨g,0,none⟩ (.bool neg)).setCell ⟨g,1,none⟩ (.slice A1 1 c1)).setCell ⟨g,2,none⟩ (.slice Au Lu cu)).heap.size:=by simp
   rw[hsz] at hln hld;obtain⟨Wf,hWf⟩:=zx (((wf.setCell ⟨g,0,none⟩ (.bool neg)).setCell ⟨g,1,none⟩ (.slice A1 1 c1)).setCell ⟨g,2,none⟩ (.slice Au Lu cu));rw[<-hWf] at hbf hfin hln hld ⊢;obtain⟨x0,x1,x2,-,-,-⟩:=cells3 hfin;clear k0 k1 k2 f0 f1 f2;exact bodyPost_ret (v:=.agg #[.bool neg,(.slice A1 1 c1),(.slice Au Lu cu)]) (by simp[results,Tryz.results67,go_sem,x0,x1,x2]) rfl ⟨_,rfl,by rw[HLO.out];exact⟨_,_,rfl,hln,hld⟩,hbf⟩
end Go.Proofs.YtgfaieppacabjaaGreat
