/- Rows of numbers written in place; arcs in memory; drydockref13.distances, walked. -/
import Derived.Test.YtgfaieppacabjaaGreatMy24
set_option linter.unusedSectionVars false
set_option maxRecDepth 100000
set_option maxHeartbeats 12800000
namespace Go.Proofs.YtgfaieppacabjaaGreat
open Go.RowKit
set_option linter.unusedVariables false
set_option linter.unusedSimpArgs false
def RowI(w:World)(g:Nat)(xs:List Int):Prop:=∃cs:Array Value,w.heap[g]?=some (.cells cs 3 (0,0))/\cs.toList=xs.map (Value.int .i64)
theorem RowI.lt{w:World}{g:Nat}{xs:List Int}(h:RowI w g xs):g<w.heap.size:=by
 obtain⟨cs,h1,-⟩:=h;exact(zA.1 h1).1
theorem RowI.cell{w:World}{g:Nat}{xs:List Int}(h:RowI w g xs){k:Nat}(hk:k<xs.length):w.cell? ⟨g,k,none⟩=some (.int .i64 (gt xs k)):=by
 obtain⟨cs,h1,h2⟩:=h;rw[cell_of_row _ _ _ _ _ _ h1,<-Array.getElem?_toList,h2,List.getElem?_map,get_gt hk];rfl
theorem RowI.fz{w:World}{g:Nat}{xs:List Int}(h:RowI w g xs)(k:Nat):w.frozen? ⟨g,k,none⟩=false:=by
 obtain⟨cs,h1,h2⟩:=h;exact frozen_of_row _ _ _ _ _ h1
theorem RowI.of{w w':World}{g:Nat}{xs:List Int}(h:RowI w g xs)(e:w'.heap[g]?=w.heap[g]?):RowI w' g xs:=by
 obtain⟨cs,h1,h2⟩:=h;exact⟨cs,e.trans h1,h2⟩
theorem RowI.below{w w':World}{g:Nat}{xs:List Int}(h:RowI w g xs)(hb:Below w.heap.size w w'):RowI w' g xs:=h.of (hb.block g h.lt)
theorem RowI.set{w:World}{g:Nat}{xs:List Int}(h:RowI w g xs)(k:Nat)(y:Int):RowI (w.setCell ⟨g,k,none⟩ (.int .i64 y)) g (xs.set k y):=by
 obtain⟨cs,h1,h2⟩:=h;refine⟨cs.setIfInBounds k (.int .i64 y),heap_setCell_same w g k cs _ _ h1,?_⟩;rw[Array.toList_setIfInBounds,h2,List.map_set]
theorem RowI.other{w:World}{g:Nat}{xs:List Int}(h:RowI w g xs){a:Nat}(ha:g≠a)(k:Nat)(y:Value):RowI (w.setCell ⟨a,k,none⟩ y) g xs:=h.of (Below.heap_setCell w ⟨a,k,none⟩ y g ha)
theorem RowI.new(w:World)(n:Nat)(x:Int):RowI (w.alloc (.cells (Array.replicate n (.int .i64 x)) 3)) w.heap.size (List.replicate n x) :=
 ⟨_,zN _ _,by rw[Array.toList_replicate,List.map_replicate]⟩
theorem RowI.intS{w:World}{g:Nat}{xs:List Int}(h:RowI w g xs){R:Nat->Prop}(hR:R g)(hx:∀x∈xs,I64 x)(hl:xs.length<=maxLen):IntS w R (.slice (some ⟨g,0,none⟩) xs.length xs.length) xs :=
 ⟨⟨_,_,rfl,zR _,hl,fun _=>⟨g,0,rfl,hR,fun k x hk=>by
  have hk':=(zL.1 hk).1;have:=h.cell hk';rw[gt_get hk] at this
  simpa using this⟩⟩,hx⟩
theorem info_intM:(Tryz.prog.info? 3).map (fun i=>(i.zero,i.size,i.bytes))=some (some (.int .i64 0),1,8):=by kernel_rfl
theorem mk_ints(n:Nat)(hn:n<=1048576):∀w:World,(Instr.makeSlice 22 (.int .i64 (n:Int)) (.int .i64 (n:Int))).run Tryz.prog w=.ok (.slice (some ⟨w.heap.size,0,none⟩) n n) (w.alloc (.cells (Array.replicate n (.int .i64 0)) 3)):=by
 intro w;obtain⟨i0,hi0,hz0,hz1,hz2⟩:=info_parts info_intM;have h:=run_make (P:=Tryz.prog) w 22 3 i0 _ Tryz.underlying22 hi0 hz0 .i64 .i64 (n:Int) (n:Int) (by omega) (by omega) (by rw[hz2];omega) (by omega);rw[hz1] at h
 simpa[madeCells_one,Value.cells] using h
def ArcK(w:World)(R:Nat->Prop)(cs:List Value)(a:ArcM):Prop:=cs=[.int .i64 (a.f:Int),.int .i64 (a.t:Int),.int .i64 a.cap,.int .i64 a.cost]
theorem arcK:Steady ArcK:=⟨fun _ h=>h,fun _ h=>h⟩
theorem arcs_src{w:World}{R:Nat->Prop}{A:Option Addr}{n c:Nat}{rs:List ArcM}(h:SlS 4 ArcK w R (.slice A n c) rs)(h0:0<rs.length):∃b off,A=some ⟨b,off,none⟩/\R b/\∀(i:Nat),i<rs.length->∀w':World,w'.heap[b]?=w.heap[b]? ->
  w'.cell? ⟨b,off+i*4,none⟩=some (.int .i64 ((rs.getD i ⟨0,0,0,0⟩).f:Int))/\w'.cell? ⟨b,off+i*4+1,none⟩=some (.int .i64 ((rs.getD i ⟨0,0,0,0⟩).t:Int))/\w'.cell? ⟨b,off+i*4+2,none⟩=some (.int .i64 (rs.getD i ⟨0,0,0,0⟩).cap)/\w'.cell? ⟨b,off+i*4+3,none⟩=some (.int .i64 (rs.getD i ⟨0,0,0,0⟩).cost):=by
 obtain⟨b,off,cs,hA,hR,-,-,-⟩:=h.at_ (k:=0) h0;refine⟨b,off,hA,hR,fun i hi w' hw=>?_⟩;obtain⟨b2,off2,cs2,hA2,-,-,hc,hk⟩:=h.at_ (k:=i) hi;rw[hA] at hA2;injection hA2 with hA2;injection hA2 with e1 e2;subst e1 e2
 have e:rs.getD i ⟨0,0,0,0⟩=rs[i]:=by rw[List.getD_eq_getElem?_getD,zG hi];rfl
 rw[e];unfold ArcK at hk;subst hk
 have q:∀o v,w.cell? ⟨b,o,none⟩=some v->w'.cell? ⟨b,o,none⟩=some v:=fun o v hv=>(World.cell?_of_block (w:=w) (a:=⟨b,o,none⟩) hw).trans hv
 exact⟨q _ _ (hc 0 _ rfl),q _ _ (hc 1 _ rfl),q _ _ (hc 2 _ rfl),q _ _ (hc 3 _ rfl)⟩
theorem ints_at{w:World}{R:Nat->Prop}{A:Option Addr}{n c:Nat}{l:List Int}(h:IntS w R (.slice A n c) l)(h0:0<l.length):∃b off,A=some ⟨b,off,none⟩/\R b/\∀(i:Nat),i<l.length->∀w':World,w'.heap[b]?=w.heap[b]?->w'.cell? ⟨b,off+i,none⟩=some (.int .i64 (gt l i)):=by
 obtain⟨b,off,hA,hR,-,-⟩:=h.at7 (k:=0) h0;refine⟨b,off,hA,hR,fun i hi w' hw=>?_⟩;obtain⟨b2,off2,hA2,-,hc,-⟩:=h.at7 (k:=i) hi;rw[hA] at hA2;injection hA2 with hA2;injection hA2 with e1 e2;subst e1 e2;rw[(World.cell?_of_block (w:=w) (a:=⟨b,off+i,none⟩) hw),hc,gt_get (zG hi)]
theorem rep_of{L:List Int}{n:Nat}{x:Int}(hl:L.length=n)(h:∀i,i<n->gt L i=x):L=List.replicate n x:=by
 apply List.ext_getElem?;intro i;rw[List.getElem?_replicate];by_cases hi:i<n
 ·rw[if_pos hi,get_gt (by omega),h i hi]
 ·rw[if_neg hi];exact List.getElem?_eq_none (by omega)
theorem RowI.drew{w:World}{g:Nat}{xs:List Int}(h:RowI w g xs):RowI w.drew g xs:=h
theorem RowI.at_{w:World}{g:Nat}{xs:List Int}(h:RowI w g xs){k:Nat}(hk:k<xs.length):w.cell? ⟨g,k,none⟩=some (.int .i64 (gt xs k))/\w.frozen? ⟨g,k,none⟩=false:=⟨h.cell hk,h.fz k⟩
theorem cell_other{w:World}{g k a o:Nat}{u v:Value}(h:w.cell? ⟨g,k,none⟩=some u)(ha:g≠a):(w.setCell ⟨a,o,none⟩ v).cell? ⟨g,k,none⟩=some u :=
 (World.cell?_of_block (w:=w) (a:=⟨g,k,none⟩) (Below.heap_setCell w ⟨a,o,none⟩ v g ha)).trans h
theorem two_rows(W:World)(n:Nat)(x:Int):Below W.heap.size W ((W.alloc (.cells (Array.replicate n (.int .i64 x)) 3)).alloc (.cells (Array.replicate n (.int .i64 x)) 3)).drew/\RowI ((W.alloc (.cells (Array.replicate n (.int .i64 x)) 3)).alloc (.cells (Array.replicate n (.int .i64 x)) 3)).drew W.heap.size (List.replicate n x)/\RowI ((W.alloc (.cells (Array.replicate n (.int .i64 x)) 3)).alloc (.cells (Array.replicate n (.int .i64 x)) 3)).drew (W.heap.size+1) (List.replicate n x):=by
 refine⟨(((zB _ _).alloc (zR _) _).alloc (by simp) _).drew,(RowI.new W n x).below ((zB _ _).alloc (zR _) _).drew,⟨_,heap_alloc_at _ _ _ (by simp),by rw[Array.toList_replicate,List.map_replicate]⟩⟩
def ArcE(N:NetM)(fl D:List Int)(i:Nat):Prop:=∀e,(e=i\/e=i+N.arcs.length)->N.Ed fl e->gt D (N.tl e)<far->gt D (N.hd e)<=gt D (N.tl e)+N.co e
structure PassI (N:NetM) (fl:List Int) (p:Nat->Int) (D:List Int) (i:Nat) (ag:Bool) (D1 B1:List Int):Prop where
 di:DistI N fl p D1 B1
 yes:ag=true->suml D1<suml D
 no:ag=false->D1=D/\∀j,j<i->ArcE N fl D j
structure PassH (N:NetM) (fl:List Int) (p:Nat->Int) (D:List Int) (i:Nat) (ag:Bool) (D1 B1:List Int):Prop extends PassI N fl p D i ag D1 B1 where
 fw:ag=false->N.Ed fl i->gt D (N.tl i)<far->gt D (N.hd i)<=gt D (N.tl i)+N.co i
section
variable {N : NetM} {fl : List Int} {p : Nat -> Int} {D D1 B1 : List Int} {i : Nat} {ag : Bool}
theorem ends_fwd(hi:i<N.arcs.length):N.tl i=(N.arc i).f/\N.hd i=(N.arc i).t/\N.co i=(N.arc i).cost/\N.re fl i=(N.arc i).cap-gt fl i:=by
 unfold NetM.tl NetM.hd NetM.co NetM.re;rw[if_pos hi,if_pos hi,if_pos hi,if_pos hi];exact⟨rfl,rfl,rfl,rfl⟩
theorem ends_bwd:N.tl (i+N.arcs.length)=(N.arc i).t/\N.hd (i+N.arcs.length)=(N.arc i).f/\N.co (i+N.arcs.length) = - (N.arc i).cost/\N.re fl (i+N.arcs.length)=gt fl i:=by
 have h:¬i+N.arcs.length<N.arcs.length:=by omega
 unfold NetM.tl NetM.hd NetM.co NetM.re;rw[if_neg h,if_neg h,if_neg h,if_neg h,Nat.add_sub_cancel];exact⟨rfl,rfl,rfl,rfl⟩
theorem PassI.start(h:DistI N fl p D B1):PassI N fl p D 0 false D B1:=⟨h,fun h=>(by cases h),fun _=>⟨rfl,fun j hj=>by omega⟩⟩
theorem PassI.fwdN(h:PassI N fl p D i ag D1 B1)(hi:i<N.arcs.length)(hb:¬(gt fl i<(N.arc i).cap/\gt D1 (N.arc i).f<far/\gt D1 (N.arc i).f+(N.arc i).cost<gt D1 (N.arc i).t)):PassH N fl p D i ag D1 B1 :=
 ⟨h,fun ha he hf=>by
  obtain⟨e1,e2,e3,e4⟩:=ends_fwd (fl:=fl) hi;have e:=(h.no ha).1;subst e;have h2:=he.2;rw[e4] at h2;rw[e1] at hf ⊢;rw[e2,e3]
  have:¬(gt D1 (N.arc i).f+(N.arc i).cost<gt D1 (N.arc i).t):=fun q=>hb ⟨by omega,hf,q⟩
  omega⟩
theorem PassI.fwdY(hv:NetV N)(hf:N.Feas fl p)(h0:p N.src=0)(h:PassI N fl p D i ag D1 B1)(hi:i<N.arcs.length)(hb:gt fl i<(N.arc i).cap/\gt D1 (N.arc i).f<far/\gt D1 (N.arc i).f+(N.arc i).cost<gt D1 (N.arc i).t) :
  PassH N fl p D i true (D1.set (N.arc i).t (gt D1 (N.arc i).f+(N.arc i).cost)) (B1.set (N.arc i).t (i:Int))/\(N.arc i).f≠(N.arc i).t:=by
 obtain⟨e1,e2,e3,e4⟩:=ends_fwd (fl:=fl) hi;have he:N.Ed fl i:=⟨by omega,by rw[e4];omega⟩;obtain⟨r1,r2,r3,r4⟩:=DistI.relax hv h.di hf h0 he (by rw[e1];exact hb.2.1) (by rw[e1,e2,e3];exact hb.2.2);rw[e1,e2,e3] at r1 r2;rw[e1,e2] at r4;refine⟨⟨⟨r1,fun _=>?_,fun h=>(by cases h)⟩,fun h=>(by cases h)⟩,fun q=>r4 q.symm⟩
 cases ag with
 | true=>have:=h.yes rfl;omega
 | false=>have:=(h.no rfl).1;subst this;exact r2
theorem PassH.bwdN(h:PassH N fl p D i ag D1 B1)(hi:i<N.arcs.length)(hb:¬(0<gt fl i/\gt D1 (N.arc i).t<far/\gt D1 (N.arc i).t-(N.arc i).cost<gt D1 (N.arc i).f)):PassI N fl p D (i+1) ag D1 B1 :=
 ⟨h.di,h.yes,fun ha=>⟨(h.no ha).1,fun j hj=>by
  rcases Nat.lt_succ_iff_lt_or_eq.1 hj with hj | rfl
  ·exact(h.no ha).2 j hj
  ·intro e hee he hf;rcases hee with rfl | rfl
   ·exact h.fw ha he hf
   ·obtain⟨e1,e2,e3,e4⟩:=ends_bwd (N:=N) (fl:=fl) (i:=j);have e:=(h.no ha).1;subst e;have h2:=he.2;rw[e4] at h2;rw[e1] at hf ⊢;rw[e2,e3]
    have:¬(gt D1 (N.arc j).t-(N.arc j).cost<gt D1 (N.arc j).f):=fun q=>hb ⟨h2,hf,q⟩
    omega⟩⟩
theorem PassH.bwdY(hv:NetV N)(hf:N.Feas fl p)(h0:p N.src=0)(h:PassH N fl p D i ag D1 B1)(hi:i<N.arcs.length)(hb:0<gt fl i/\gt D1 (N.arc i).t<far/\gt D1 (N.arc i).t-(N.arc i).cost<gt D1 (N.arc i).f) :
  PassI N fl p D (i+1) true (D1.set (N.arc i).f (gt D1 (N.arc i).t-(N.arc i).cost)) (B1.set (N.arc i).f ((N.arcs.length:Int)+(i:Int)))/\(N.arc i).t≠(N.arc i).f:=by
 obtain⟨e1,e2,e3,e4⟩:=ends_bwd (N:=N) (fl:=fl) (i:=i);have he:N.Ed fl (i+N.arcs.length):=⟨by omega,by rw[e4];exact hb.1⟩;obtain⟨r1,r2,r3,r4⟩:=DistI.relax hv h.di hf h0 he (by rw[e1];exact hb.2.1) (by rw[e1,e2,e3];omega);rw[e1,e2,e3] at r1 r2;rw[e1,e2] at r4
 have q1:gt D1 (N.arc i).t + -(N.arc i).cost=gt D1 (N.arc i).t-(N.arc i).cost:=by omega
 have q2:((i+N.arcs.length:Nat):Int)=(N.arcs.length:Int)+(i:Int):=by omega
 rw[q1] at r1 r2;rw[q2] at r1;refine⟨⟨r1,fun _=>?_,fun h=>by cases h⟩,fun q=>r4 q.symm⟩
 cases ag with
 | true=>have:=h.yes rfl;omega
 | false=>have:=(h.no rfl).1;subst this;exact r2
theorem PassI.done(h:PassI N fl p D N.arcs.length false D1 B1):DistE N fl p D1 B1 :=
 ⟨h.di,fun e he hf=>by
  have e0:=(h.no rfl).1;subst e0;by_cases hl:e<N.arcs.length
  ·exact(h.no rfl).2 e hl e (.inl rfl) he hf
  ·have:=he.1
   exact(h.no rfl).2 (e-N.arcs.length) (by omega) e (.inr (by omega)) he hf⟩
end
theorem gt_i64{N:NetM}{fl:List Int}{p:Nat->Int}{D B:List Int}(h:DistI N fl p D B)(h0:∀v,v<N.nodes->0<=p v){v:Nat}(hv:v<N.nodes):0<=gt D v/\gt D v<=far:=⟨h.nonneg h0 hv,h.hi v hv⟩
theorem distances_any{N:NetM}(hv:NetV N)(h1:0<N.arcs.length){fl:List Int}{p:Nat->Int}{k:Nat}(hF:FlowI N fl p k)(vA vF:Value)(w:World)(hA:SlS 4 ArcK w (Bl w.heap.size) vA N.arcs)(hfl:IntS w (Bl w.heap.size) vF fl) :
  Calls Tryz.prog 112 #[.agg #[.int .i64 (N.nodes:Int),.int .i64 (N.src:Int),.int .i64 (N.snk:Int),vA],vF] w fun e w'=>∃gD gB dist by_,e=.returned (.tuple #[.slice (some ⟨gD,0,none⟩) N.nodes N.nodes,.slice (some ⟨gB,0,none⟩) N.nodes N.nodes])/\w.heap.size<=gD/\w.heap.size<=gB/\RowI w' gD dist/\RowI w' gB by_/\DistE N fl p dist by_/\Below w.heap.size w w':=by
 have hlen:=hF.caps.1;have HFI:=zh hF;clear hF;obtain⟨A,cA,rfl,-,hmA⟩:=hA.form;obtain⟨ab,aoff,rfl,hab,hac⟩:=arcs_src hA h1;obtain⟨AF,cF,rfl,-⟩:=hfl.1;have hfl1:fl.length=N.arcs.length:=hlen;obtain⟨fb,foff,rfl,hfb,hfc⟩:=ints_at hfl (by omega);obtain⟨NN,hNN⟩:=zx N.nodes;obtain⟨SR,hSR⟩:=zx N.src;obtain⟨SK,hSK⟩:=zx N.snk;obtain⟨M,hM⟩:=zx N.arcs.length;have hn7:=hv.n7;have hn2:=hv.n2;have hsr:=hv.src;have hsk:=hv.snk;have ha25:=hv.a25;rw[<-hNN] at hn7 hn2 hsr hsk;rw[<-hSR] at hsr;rw[<-hSK] at hsk;rw[<-hM] at ha25 h1;rw[hfl1];rw[hfl1,<-hM] at hfc;rw[<-hM] at hac;obtain⟨gN,hgN⟩:=zx w.heap.size;obtain⟨Wb,hWb⟩:=zx (w.alloc (.cells #[.int .i64 (NN:Int),.int .i64 (SR:Int),.int .i64 (SK:Int),.slice (some ⟨ab,aoff,none⟩) M cA] 119))
 have hkb:Wb.heap[gN]?=some (.cells #[.int .i64 (NN:Int),.int .i64 (SR:Int),.int .i64 (SK:Int),.slice (some ⟨ab,aoff,none⟩) M cA] 119 (0,0)):=by rw[hWb,hgN];exact zN _ _
 have hbb:Below w.heap.size w Wb:=by rw[hWb];exact(zB _ _).alloc (zR _) _
 have hgl:gN<Wb.heap.size:=(zA.1 hkb).1;have HAW:=zh (show ∀w',Below w.heap.size w w'->∀i,i<M->w'.cell? ⟨ab,aoff+i*4,none⟩=some (.int .i64 ((N.arc i).f:Int))/\w'.cell? ⟨ab,aoff+i*4+1,none⟩=some (.int .i64 ((N.arc i).t:Int))/\w'.cell? ⟨ab,aoff+i*4+2,none⟩=some (.int .i64 (N.arc i).cap)/\w'.cell? ⟨ab,aoff+i*4+3,none⟩=some (.int .i64 (N.arc i).cost) from fun w' hb i hi=>hac i hi w' (hb.block ab hab));have HFW:=zh (show ∀w',Below w.heap.size w w'->∀i,i<M->w'.cell? ⟨fb,foff+i,none⟩=some (.int .i64 (gt fl i)) from fun w' hb i hi=>hfc i hi w' (hb.block fb hfb));have HNW:=zh (show ∀w',Below Wb.heap.size Wb w'->Below w.heap.size w w'/\w'.heap[gN]?=some (.cells #[.int .i64 (NN:Int),.int .i64 (SR:Int),.int .i64 (SK:Int),.slice (some ⟨ab,aoff,none⟩) M cA] 119 (0,0)) from fun w' hb=>⟨hbb.trans (hb.mono hbb.size),(hb.block gN hgl).trans hkb⟩);have HWB:=zh (And.intro hWb hgN);have HGS:=zh (show gN<Wb.heap.size/\w.heap.size<=Wb.heap.size from⟨hgl,hbb.size⟩);have HV:=zh hv;have HEQ:=zh (show NN=N.nodes/\SR=N.src/\SK=N.snk/\M=N.arcs.length/\fl.length=N.arcs.length from⟨hNN,hSR,hSK,hM,hfl1⟩);have HNB:=zh (show NN<=700/\2<=NN/\SR<NN/\SK<NN/\M<=2500/\0<M from⟨hn7,hn2,hsr,hsk,ha25,h1⟩);have HAR:=zh (show ∀i,i<M->(N.arc i).f<NN/\(N.arc i).t<NN/\0<=(N.arc i).cap/\(N.arc i).cap<=1000000/\0<=(N.arc i).cost/\(N.arc i).cost<=1000 from fun i hi=>by rw[hNN];exact hv.arc i (by omega));rw[<-hNN,<-hSR,<-hSK,<-hM];clear hA hfl h1 hfl1 hlen hNN hSR hSK hM hab hac hfb hfc hmA hgN hWb hkb hbb hgl hv hn7 hn2 hsr hsk ha25;have hmk:=mk_ints NN (by have:=HNB.out;omega);go_enter Tryz.func112,Tryz.ntmps112;go_upto_region 1 with fail;rw[<-HWB.out.1,<-HWB.out.2];obtain⟨c0,c1,c2,c3⟩:=cells4 (HNW.out Wb (zB _ _)).2;go_cut [6,7] from 12 to 17 (fun v6 v7 wc=>∃gD gB,v6=.slice (some ⟨gD,0,none⟩) NN NN/\v7=.slice (some ⟨gB,0,none⟩) NN NN/\Hid (Below Wb.heap.size Wb wc)/\Hid (Wb.heap.size<=gD/\Wb.heap.size<=gB/\gD≠gB/\RowI wc gD (List.replicate NN 0)/\RowI wc gB (List.replicate NN 0)))
 case first =>
  have HSN:=zh (show ∀w',Below Wb.heap.size Wb w'->(fun w'=>w'.cell? ⟨gN,0,none⟩=some (.int .i64 (NN:Int))) w' from fun w' hb=>(cells4 (HNW.out w' hb).2).1);refine region_tail (S:=(fun w'=>w'.cell? ⟨gN,0,none⟩=some (.int .i64 (NN:Int)))) [] (by kernel_rfl) (HSN.out _ (zB _ _).drew) (fun hHeld=>?_);refine tk 0 12 ?_;refine tk 1 13 ?_;refine tk 3 15 ?_;refine tk 4 16 ?_;refine readyT (rs:=[2,5]) (by kernel_rfl) (by simp) ?_;refine zC rfl (fun K hK=>?_) ?_
  ·go_simp;refine hK.out _ _ ?_ (fun hHeld=>?_)
   ·exact HSN.out _ (by first | exact(zB _ _).drew.alloc (zR _) _ | exact((zB _ _).drew.alloc (zR _) _).alloc (by simp) _)
   clear hK K;(try simp only[Act.put,z1,z2,z3]);refine tk 6 6 ?_;refine readyT (rs:=[5]) (by kernel_rfl) (by simp) ?_;refine zC rfl (fun K hK=>?_) ?_
   ·go_simp;refine hK.out _ _ ?_ (fun hHeld=>?_)
    ·exact HSN.out _ (by first | exact(zB _ _).drew.alloc (zR _) _ | exact((zB _ _).drew.alloc (zR _) _).alloc (by simp) _)
    clear hK K;(try simp only[Act.put,z1,z2,z3]);refine tk 7 7 ?_;refine doneT (by kernel_rfl) ?_ _;clear hHeld;go_wp2_with fail;go_meet;have hh:=two_rows Wb NN 0;exact⟨_,_,rfl,rfl,zh hh.1,zh ⟨by omega,by omega,by omega,by first | exact hh.2.1 | exact hh.2.2,by first | exact hh.2.1 | exact hh.2.2⟩⟩
   exact zE
  refine zC rfl (fun K hK=>?_) ?_
  ·go_simp;refine hK.out _ _ ?_ (fun hHeld=>?_)
   ·exact HSN.out _ (by first | exact(zB _ _).drew.alloc (zR _) _ | exact((zB _ _).drew.alloc (zR _) _).alloc (by simp) _)
   clear hK K;(try simp only[Act.put,z1,z2,z3]);refine readyT (rs:=[2]) (by kernel_rfl) (by simp) ?_;refine zC rfl (fun K hK=>?_) ?_
   ·go_simp;refine hK.out _ _ ?_ (fun hHeld=>?_)
    ·exact HSN.out _ (by first | exact(zB _ _).drew.alloc (zR _) _ | exact((zB _ _).drew.alloc (zR _) _).alloc (by simp) _)
    clear hK K;(try simp only[Act.put,z1,z2,z3]);refine tk 6 6 ?_;refine tk 7 7 ?_;refine doneT (by kernel_rfl) ?_ _;clear hHeld;go_wp2_with fail;go_meet;have hh:=two_rows Wb NN 0;exact⟨_,_,rfl,rfl,zh hh.1,zh ⟨by omega,by omega,by omega,by first | exact hh.2.1 | exact hh.2.2,by first | exact hh.2.1 | exact hh.2.2⟩⟩
   exact zE
  exact zE
 case rest =>
  obtain⟨gD,gB,rfl,rfl,HB0,HG0⟩:=hcut;clear hmk c0 c1 c2 c3;have HGG:=zh (show Wb.heap.size<=gD/\Wb.heap.size<=gB/\gD≠gB from⟨HG0.out.1,HG0.out.2.1,HG0.out.2.2.1⟩);go_wp2_with fail;go_loopg [8] NN (fun z v8 wr=>∃(j:Nat) (L:List Int),j<=NN/\z=NN-j/\v8=.int .i64 (j:Int)/\Hid (Below Wb.heap.size Wb wr)/\Hid (RowI wr gD L/\RowI wr gB (List.replicate NN 0)/\L.length=NN/\∀i,i<j->gt L i=far))
  case atStart=>exact⟨0,_,by omega,rfl,rfl,HB0,zh ⟨HG0.out.2.2.2.1,HG0.out.2.2.2.2,by simp,fun i hi=>by omega⟩⟩
  case round =>
   obtain⟨j,L,hj,rfl,rfl,HB,HL⟩:=hrel;obtain⟨W1,hW1⟩:=zx wr;rw[<-hW1] at HB HL ⊢;clear hW1;obtain⟨c0,c1,c2,c3⟩:=cells4 (HNW.out W1 HB.out).2;by_cases hlt:j<NN
   ·have i1:(j:Int)<(NN:Int):=by omega
    have i7:(NN:Int)<=700:=by have:=HNB.out;omega
    obtain⟨x1,z1⟩:=HL.out.1.at_ (k:=j) (by rw[HL.out.2.2.1];exact hlt)
    have HL2:=zh (show RowI (W1.setCell ⟨gD,j,none⟩ (.int .i64 1099511627776)) gD (L.set j far)/\RowI (W1.setCell ⟨gD,j,none⟩ (.int .i64 1099511627776)) gB (List.replicate NN 0)/\(L.set j far).length=NN/\∀i,i<j+1->gt (L.set j far) i=far from⟨HL.out.1.set j far,HL.out.2.1.other (fun e=>HGG.out.2.2 e.symm) j _,by rw[List.length_set];exact HL.out.2.2.1,fun i hi=>by
     rw[gt_set _ _ (by rw[HL.out.2.2.1];exact hlt)];by_cases e:i=j
     ·rw[if_pos e]
     ·rw[if_neg e];exact HL.out.2.2.2 i (by omega)⟩)
    have HB2:=zh (HB.out.setCell (p:=⟨gD,j,none⟩) HGG.out.1 (.int .i64 1099511627776));go_wp2_with fail;go_roundg (NN-(j+1))
    case measure=>omega
    case rel=>exact⟨j+1,_,by omega,rfl,by go_num,HB2,HL2⟩
   ·have hL:L=List.replicate NN far:=rep_of HL.out.2.2.1 (fun i hi=>HL.out.2.2.2 i (by omega));have HR1:=zh (hL▸HL.out.1);have HR2:=zh HL.out.2.1;clear hL HL
    have i1:(SR:Int)<(NN:Int):=by have:=HNB.out;omega
    have i7:(NN:Int)<=700:=by have:=HNB.out;omega
    obtain⟨x1,z1⟩:=HR1.out.at_ (k:=SR) (by simp;have:=HNB.out;omega);have hdi:DistI N fl p ((List.replicate N.nodes far).set N.src 0) (List.replicate N.nodes 0):=DistI.start HV.out (by rw[HFI.out.p0];omega);rw[<-HEQ.out.1,<-HEQ.out.2.1] at hdi;have HD0:=zh (show RowI (W1.setCell ⟨gD,SR,none⟩ (.int .i64 0)) gD ((List.replicate NN far).set SR 0)/\RowI (W1.setCell ⟨gD,SR,none⟩ (.int .i64 0)) gB (List.replicate NN 0)/\DistI N fl p ((List.replicate NN far).set SR 0) (List.replicate NN 0) from⟨HR1.out.set SR 0,HR2.out.other (fun e=>HGG.out.2.2 e.symm) SR _,hdi⟩);have HB2:=zh (HB.out.setCell (p:=⟨gD,SR,none⟩) HGG.out.1 (.int .i64 0));obtain⟨D0,hD0⟩:=zx ((List.replicate NN far).set SR 0);rw[<-hD0] at HD0;clear hD0 hdi;go_wp2_with fail;go_loopg [9] ((suml D0).toNat+1) (fun z v9 wr=>∃(ag:Bool) (D1 B1:List Int),v9=.bool ag/\z=(cond ag ((suml D1).toNat+1) 0)/\Hid (Below Wb.heap.size Wb wr)/\Hid (RowI wr gD D1/\RowI wr gB B1/\DistI N fl p D1 B1/\(ag=false->DistE N fl p D1 B1)))
    case atStart=>exact⟨true,D0,_,rfl,rfl,HB2,zh ⟨HD0.out.1,HD0.out.2.1,HD0.out.2.2,fun h=>by cases h⟩⟩
    case round =>
     obtain⟨ag,D1,B1,rfl,rfl,HBo,HDo⟩:=hrel;obtain⟨W2,hW2⟩:=zx wr;rw[<-hW2] at HBo HDo ⊢;clear hW2
     cases ag with
     | false =>
      go_wp2_with fail;go_ret2;have hbw:=(HNW.out _ HBo.out).1;exact⟨gD,gB,rfl,by have:=HGG.out;have:=HGS.out;omega,by have:=HGG.out;have:=HGS.out;omega,D1,HDo.out.1,B1,HDo.out.2.1,HDo.out.2.2.2 (by first | rfl | trivial),hbw⟩
     | true =>
      clear c0 c1 c2 c3 x1 z1;go_wp2_with fail;go_loopg [9,10] M (fun z v9 v10 wr=>∃(i:Nat) (ag:Bool) (D2 B2:List Int),i<=M/\z=M-i/\v9=.bool ag/\v10=.int .i64 (i:Int)/\Hid (Below Wb.heap.size Wb wr)/\Hid (RowI wr gD D2/\RowI wr gB B2/\PassI N fl p D1 i ag D2 B2))
      case atStart=>exact⟨0,false,D1,B1,by omega,rfl,rfl,rfl,HBo,zh ⟨HDo.out.1,HDo.out.2.1,PassI.start HDo.out.2.2.1⟩⟩
      case round =>
       obtain⟨i,ag,D2,B2,hi,rfl,rfl,rfl,HB,HP⟩:=hrel;obtain⟨W3,hW3⟩:=zx wr;rw[<-hW3] at HB HP ⊢;clear hW3;obtain⟨c0,c1,c2,c3⟩:=cells4 (HNW.out W3 HB.out).2;by_cases hlt:i<M
       ·have i1:(i:Int)<(M:Int):=by omega
        have i25:(M:Int)<=2500:=by have:=HNB.out;omega
        have i7:(NN:Int)<=700:=by have:=HNB.out;omega
        obtain⟨a0,a1,a2,a3⟩:=HAW.out W3 (HNW.out W3 HB.out).1 i hlt;have hfx:=HFW.out W3 (HNW.out W3 HB.out).1 i hlt;obtain⟨q1,q2,q3,q4,q5,q6⟩:=HAR.out i hlt;obtain⟨AF,hAF⟩:=zx ((N.arc i).f);obtain⟨AT,hAT⟩:=zx ((N.arc i).t);obtain⟨AP,hAP⟩:=zx ((N.arc i).cap);obtain⟨AC,hAC⟩:=zx ((N.arc i).cost);obtain⟨FX,hFX⟩:=zx (gt fl i);rw[<-hAF] at a0 q1;rw[<-hAT] at a1 q2;rw[<-hAP] at a2 q3 q4;rw[<-hAC] at a3 q5 q6;rw[<-hFX] at hfx;have HE:=zh (show AF=(N.arc i).f/\AT=(N.arc i).t/\AP=(N.arc i).cap/\AC=(N.arc i).cost/\FX=gt fl i from⟨hAF,hAT,hAP,hAC,hFX⟩);have HQ:=zh (show AF<NN/\AT<NN/\0<=AC/\AC<=1000 from⟨q1,q2,q5,q6⟩);clear hAF hAT hAP hAC hFX q1 q2 q3 q4 q5 q6;go_upto_region 14 with fail;obtain⟨W4,hW4⟩:=zx (W3.alloc (.cells #[.int .i64 (AF:Int),.int .i64 (AT:Int),.int .i64 AP,.int .i64 AC] 172));obtain⟨g11,hg11⟩:=zx W3.heap.size;rw[<-hW4,<-hg11]
        have hk4:W4.heap[g11]?=some (.cells #[.int .i64 (AF:Int),.int .i64 (AT:Int),.int .i64 AP,.int .i64 AC] 172 (0,0)):=by rw[hW4,hg11];exact zN _ _
        have hb34:Below W3.heap.size W3 W4:=by rw[hW4];exact(zB _ _).alloc (zR _) _
        have HB4:=zh (HB.out.trans (hb34.mono HB.out.size));have HP4:=zh (show RowI W4 gD D2/\RowI W4 gB B2/\PassI N fl p D1 i ag D2 B2 from⟨HP.out.1.below hb34,HP.out.2.1.below hb34,HP.out.2.2⟩);have HK4:=zh (show ∀w',Below W4.heap.size W4 w'->w'.heap[g11]?=some (.cells #[.int .i64 (AF:Int),.int .i64 (AT:Int),.int .i64 AP,.int .i64 AC] 172 (0,0)) from fun w' hb=>(hb.block g11 (zA.1 hk4).1).trans hk4);have HG4:=zh (show g11≠gD/\g11≠gB/\g11≠gN from⟨fun e=>by have:=HP.out.1.lt;omega,fun e=>by have:=HP.out.2.1.lt;omega,fun e=>by have:=HGS.out;have:=HB.out.size;omega⟩);clear hW4 hg11 hb34 hk4 c0 c1 c2 c3 a0 a1 a2 a3 hfx HP
        have hdn:=fun v hv=>gt_i64 HP4.out.2.2.di HFI.out.lo (v:=v) (by rw[<-HEQ.out.1];exact hv)
        have hlD:D2.length=NN:=by rw[HEQ.out.1];exact HP4.out.2.2.di.ld
        have hlB:B2.length=NN:=by rw[HEQ.out.1];exact HP4.out.2.2.di.lb
        have hff:far=1099511627776:=rfl;obtain⟨dF,-⟩:=HP4.out.1.at_ (k:=AF) (by rw[hlD];exact HQ.out.1);obtain⟨dT,-⟩:=HP4.out.1.at_ (k:=AT) (by rw[hlD];exact HQ.out.2.1);have hd1:=hdn AF HQ.out.1;have hd2:=hdn AT HQ.out.2.1;obtain⟨DF,hDF⟩:=zx (gt D2 AF);obtain⟨DT,hDT⟩:=zx (gt D2 AT);rw[<-hDF] at dF hd1;rw[<-hDT] at dT hd2;rw[hff] at hd1 hd2;have HDD:=zh (show DF=gt D2 AF/\DT=gt D2 AT from⟨hDF,hDT⟩);have HD1:=zh (show 0<=DF/\DF<=1099511627776/\0<=DT/\DT<=1099511627776 from⟨hd1.1,hd1.2,hd2.1,hd2.2⟩);have HLN:=zh (And.intro hlD hlB);clear hdn hlD hlB hff hd1 hd2 hDF hDT;obtain⟨nb,hnb⟩:=zx (decide (FX<AP/\DF<1099511627776/\DF+AC<DT));have HNB1:=zh hnb;clear hnb
        have i1:(AF:Int)<(NN:Int):=by have:=HQ.out.1;omega
        have i2:(AT:Int)<(NN:Int):=by have:=HQ.out.2.1;omega
        have w1:IntKind.i64.wrap (DF+AC)=DF+AC:=zI _ (by have:=HD1.out;have:=HQ.out;omega);have hfx:=HFW.out W4 (HNW.out W4 HB4.out).1 i hlt;rw[<-HE.out.2.2.2.2] at hfx;obtain⟨k0,k1,k2,k3⟩:=cells4 (HK4.out W4 (zB _ _));go_cut [74] from 32 to 141 (fun v74 wc=>v74=.bool nb/\Hid (Below W4.heap.size W4 wc))
        case first =>
         by_cases t1:FX<AP
         ·have u1:decide (FX<AP)=true:=decide_eq_true t1;by_cases t2:DF<1099511627776
          ·have u2:decide (DF<1099511627776)=true:=decide_eq_true t2;by_cases t3:DF+AC<DT
           ·have u3:decide (DF+AC<DT)=true:=decide_eq_true t3;have HR:=zh (show nb=true by rw[HNB1.out];exact decide_eq_true ⟨t1,t2,t3⟩)
            go_quiet (fail)
            go_wp2_with fail;go_meet;exact⟨by rw[HR.out],zh (Below.drewN' (zB _ _) nq)⟩
           ·have u3:decide (DF+AC<DT)=false:=decide_eq_false t3;have HR:=zh (show nb=false by rw[HNB1.out];exact decide_eq_false (fun h=>t3 h.2.2))
            go_quiet (fail)
            go_wp2_with fail;go_meet;exact⟨by rw[HR.out],zh (Below.drewN' (zB _ _) nq)⟩
          ·have u2:decide (DF<1099511627776)=false:=decide_eq_false t2;have HR:=zh (show nb=false by rw[HNB1.out];exact decide_eq_false (fun h=>t2 h.2.1))
           go_quiet (fail)
           go_wp2_with fail;go_meet;exact⟨by rw[HR.out],zh (Below.drewN' (zB _ _) nq)⟩
         ·have u1:decide (FX<AP)=false:=decide_eq_false t1;have HR:=zh (show nb=false by rw[HNB1.out];exact decide_eq_false (fun h=>t1 h.1))
          go_quiet (fail)
          go_wp2_with fail;go_meet;exact⟨by rw[HR.out],zh (Below.drewN' (zB _ _) nq)⟩
        case rest =>
         obtain⟨rfl,HB5⟩:=hcut;obtain⟨W5,hW5⟩:=zx wc;rw[<-hW5] at HB5 ⊢;clear hW5 k0 k1 k2 k3 dF dT hfx;have HP5:=zh (show RowI W5 gD D2/\RowI W5 gB B2 from⟨HP4.out.1.below HB5.out,HP4.out.2.1.below HB5.out⟩);have HK5:=zh (HK4.out W5 HB5.out);have HB5W:=zh (HB4.out.trans (HB5.out.mono HB4.out.size));go_step;go_cut [9] from 32 to 141 (fun v9 wc=>∃(ag:Bool) (D3 B3:List Int),v9=.bool ag/\Hid (Below Wb.heap.size Wb wc)/\Hid (wc.heap[g11]?=some (.cells #[.int .i64 (AF:Int),.int .i64 (AT:Int),.int .i64 AP,.int .i64 AC] 172 (0,0)))/\Hid (RowI wc gD D3/\RowI wc gB B3/\PassH N fl p D1 i ag D3 B3))
         case first =>
          cases nb with
          | false =>
           go_wp2_with fail;go_meet
           exact⟨ag,D2,B2,rfl,HB5W,HK5,zh ⟨HP5.out.1,HP5.out.2,HP4.out.2.2.fwdN (by have:=HEQ.out;omega) (fun h=>by
            have h1:=of_decide_eq_false HNB1.out.symm;rw[<-HE.out.1,<-HE.out.2.1,<-HE.out.2.2.1,<-HE.out.2.2.2.1,<-HE.out.2.2.2.2,<-HDD.out.1,<-HDD.out.2] at h
            exact h1 h)⟩⟩
          | true =>
           have hyes0:=HP4.out.2.2.fwdY HV.out HFI.out.feas HFI.out.p0 (by have:=HEQ.out;omega) (by
            have h1:=of_decide_eq_true HNB1.out.symm;rw[<-HE.out.1,<-HE.out.2.1,<-HE.out.2.2.1,<-HE.out.2.2.2.1,<-HE.out.2.2.2.2,<-HDD.out.1,<-HDD.out.2]
            exact h1)
           rw[<-HE.out.1,<-HE.out.2.1,<-HE.out.2.2.2.1,<-HDD.out.1] at hyes0;obtain⟨HY1,hne⟩:PassH N fl p D1 i true (D2.set AT (DF+AC)) (B2.set AT (i:Int))/\AF≠AT:=hyes0;have HY:=zh HY1;have HNE:=zh hne;clear HY1 hne;obtain⟨k0,k1,k2,k3⟩:=cells4 HK5.out;have dF:=(HP5.out.1.at_ (k:=AF) (by rw[HLN.out.1];exact HQ.out.1)).1;rw[<-HDD.out.1] at dF;have HX1:=zh (show W5.cell? ⟨gD,AT,none⟩=some (.int .i64 (gt D2 AT))/\W5.frozen? ⟨gD,AT,none⟩=false from HP5.out.1.at_ (by rw[HLN.out.1];exact HQ.out.2.1));have hr1:=HP5.out.1.set AT (DF+AC);have hr2:=HP5.out.2.other (fun e=>HGG.out.2.2 e.symm) AT (.int .i64 (DF+AC)) (a:=gD);have HX2:=zh (show(W5.setCell ⟨gD,AT,none⟩ (.int .i64 (DF+AC))).cell? ⟨gB,AT,none⟩=some (.int .i64 (gt B2 AT))/\W5.frozen? ⟨gB,AT,none⟩=false from⟨hr2.cell (by rw[HLN.out.2];exact HQ.out.2.1),HP5.out.2.fz AT⟩);have HSA:=zh (show(fun w'=>w'.cell? ⟨g11,0,none⟩=some (.int .i64 (AF:Int))/\w'.cell? ⟨g11,1,none⟩=some (.int .i64 (AT:Int))/\w'.cell? ⟨g11,3,none⟩=some (.int .i64 AC)/\w'.cell? ⟨gD,AF,none⟩=some (.int .i64 DF)) W5.drew from⟨k0,k1,k3,dF⟩)
           have hdf1:(W5.setCell ⟨gD,AT,none⟩ (.int .i64 (DF+AC))).cell? ⟨gD,AF,none⟩=some (.int .i64 DF):=by
            rw[hr1.cell (by rw[List.length_set,HLN.out.1];exact HQ.out.1),gt_set _ _ (by rw[HLN.out.1];exact HQ.out.2.1),if_neg HNE.out,HDD.out.1]
           have HSB:=zh (show(fun w'=>w'.cell? ⟨g11,0,none⟩=some (.int .i64 (AF:Int))/\w'.cell? ⟨g11,1,none⟩=some (.int .i64 (AT:Int))/\w'.cell? ⟨g11,3,none⟩=some (.int .i64 AC)/\w'.cell? ⟨gD,AF,none⟩=some (.int .i64 DF)) (W5.setCell ⟨gD,AT,none⟩ (.int .i64 (DF+AC))).drew from⟨cell_other k0 HG4.out.1,cell_other k1 HG4.out.1,cell_other k3 HG4.out.1,hdf1⟩);have HSC:=zh (show(fun w'=>w'.cell? ⟨g11,0,none⟩=some (.int .i64 (AF:Int))/\w'.cell? ⟨g11,1,none⟩=some (.int .i64 (AT:Int))/\w'.cell? ⟨g11,3,none⟩=some (.int .i64 AC)/\w'.cell? ⟨gD,AF,none⟩=some (.int .i64 DF)) ((W5.setCell ⟨gD,AT,none⟩ (.int .i64 (DF+AC))).setCell ⟨gB,AT,none⟩ (.int .i64 (i:Int))).drew from⟨cell_other HSB.out.1 HG4.out.2.1,cell_other HSB.out.2.1 HG4.out.2.1,cell_other HSB.out.2.2.1 HG4.out.2.1,cell_other HSB.out.2.2.2 HGG.out.2.2⟩);have HR7:=zh (show RowI ((W5.setCell ⟨gD,AT,none⟩ (.int .i64 (DF+AC))).setCell ⟨gB,AT,none⟩ (.int .i64 (i:Int))).drew gD (D2.set AT (DF+AC))/\RowI ((W5.setCell ⟨gD,AT,none⟩ (.int .i64 (DF+AC))).setCell ⟨gB,AT,none⟩ (.int .i64 (i:Int))).drew gB (B2.set AT (i:Int))/\Below Wb.heap.size Wb ((W5.setCell ⟨gD,AT,none⟩ (.int .i64 (DF+AC))).setCell ⟨gB,AT,none⟩ (.int .i64 (i:Int))).drew/\((W5.setCell ⟨gD,AT,none⟩ (.int .i64 (DF+AC))).setCell ⟨gB,AT,none⟩ (.int .i64 (i:Int))).drew.heap[g11]?=some (.cells #[.int .i64 (AF:Int),.int .i64 (AT:Int),.int .i64 AP,.int .i64 AC] 172 (0,0)) from⟨hr1.other HGG.out.2.2 AT _,hr2.set AT _,((HB5W.out.setCell (p:=⟨gD,AT,none⟩) HGG.out.1 _).setCell (p:=⟨gB,AT,none⟩) HGG.out.2.1 _).drew,(Below.heap_setCell _ ⟨gB,AT,none⟩ _ g11 HG4.out.2.1).trans ((Below.heap_setCell _ ⟨gD,AT,none⟩ _ g11 HG4.out.1).trans HK5.out)⟩);clear k0 k1 k2 k3 dF hr1 hr2 hdf1;go_upto_region 15 with fail;refine region_tail (S:=(fun w'=>w'.cell? ⟨g11,0,none⟩=some (.int .i64 (AF:Int))/\w'.cell? ⟨g11,1,none⟩=some (.int .i64 (AT:Int))/\w'.cell? ⟨g11,3,none⟩=some (.int .i64 AC)/\w'.cell? ⟨gD,AF,none⟩=some (.int .i64 DF))) [] (by kernel_rfl) HSA.out (fun hHeld=>?_);refine tk 0 75 ?_;refine tk 1 76 ?_;refine tk 2 77 ?_;refine tk 3 78 ?_;refine tk 4 79 ?_;refine tk 5 80 ?_;refine tk 6 81 ?_;refine tk 7 82 ?_;refine tk 8 83 ?_;refine tk 9 84 ?_;refine tk 10 85 ?_;refine tk 11 86 ?_;refine tk 12 87 ?_;refine tk 13 88 ?_;refine tk 14 89 ?_;refine tk 15 90 ?_;refine readyT (rs:=[16]) (by kernel_rfl) (by simp) ?_;refine zC rfl (fun K hK=>?_) ?_
           ·(obtain⟨x1,z1⟩:=HX1.out)
            go_simp;refine hK.out _ _ ?_ (fun hHeld=>?_)
            ·exact HSB.out
            clear hK K;(try simp only[Act.put,z1,z2,z3]);refine tk 17 91 ?_;refine readyT (rs:=[18]) (by kernel_rfl) (by simp) ?_;refine zC rfl (fun K hK=>?_) ?_
            ·(obtain⟨x1,z1⟩:=HX2.out)
             go_simp;refine hK.out _ _ ?_ (fun hHeld=>?_)
             ·exact HSC.out
             clear hK K;(try simp only[Act.put,z1,z2,z3]);refine tk 19 9 ?_;refine doneT (by kernel_rfl) ?_ _;clear hHeld;obtain⟨W9,hW9⟩:=zx (((W5.setCell ⟨gD,AT,none⟩ (.int .i64 (DF+AC))).setCell ⟨gB,AT,none⟩ (.int .i64 (i:Int))).drew);rw[<-hW9] at HR7 ⊢;clear hW9;go_wp2_with fail;go_meet;exact⟨true,_,_,rfl,zh HR7.out.2.2.1,zh HR7.out.2.2.2,zh ⟨HR7.out.1,HR7.out.2.1,HY.out⟩⟩
            exact zE
           exact zE
         case rest =>
          obtain⟨ag3,D3,B3,rfl,HB6,HK6,HP6⟩:=hcut;obtain⟨W6,hW6⟩:=zx wc;rw[<-hW6] at HB6 HK6 HP6 ⊢;clear hW6 HP5 HB5 HK5 HB5W HNB1 HD1 HDD HLN HP4 w1
          have hdn:=fun v hv=>gt_i64 HP6.out.2.2.di HFI.out.lo (v:=v) (by rw[<-HEQ.out.1];exact hv)
          have hlD:D3.length=NN:=by rw[HEQ.out.1];exact HP6.out.2.2.di.ld
          have hlB:B3.length=NN:=by rw[HEQ.out.1];exact HP6.out.2.2.di.lb
          have hff:far=1099511627776:=rfl;obtain⟨dF,-⟩:=HP6.out.1.at_ (k:=AF) (by rw[hlD];exact HQ.out.1);obtain⟨dT,-⟩:=HP6.out.1.at_ (k:=AT) (by rw[hlD];exact HQ.out.2.1);have hd1:=hdn AF HQ.out.1;have hd2:=hdn AT HQ.out.2.1;obtain⟨EF,hDF⟩:=zx (gt D3 AF);obtain⟨ET,hDT⟩:=zx (gt D3 AT);rw[<-hDF] at dF hd1;rw[<-hDT] at dT hd2;rw[hff] at hd1 hd2;have HDD:=zh (show EF=gt D3 AF/\ET=gt D3 AT from⟨hDF,hDT⟩);have HD1:=zh (show 0<=EF/\EF<=1099511627776/\0<=ET/\ET<=1099511627776 from⟨hd1.1,hd1.2,hd2.1,hd2.2⟩);have HLN:=zh (And.intro hlD hlB);clear hdn hlD hlB hff hd1 hd2 hDF hDT;obtain⟨nb2,hnb⟩:=zx (decide (0<FX/\ET<1099511627776/\ET-AC<EF));have HNB1:=zh hnb;clear hnb;have w1:IntKind.i64.wrap (ET-AC)=ET-AC:=zI _ (by have:=HD1.out;have:=HQ.out;omega);have hfx:=HFW.out W6 (HNW.out W6 HB6.out).1 i hlt;rw[<-HE.out.2.2.2.2] at hfx;obtain⟨k0,k1,k2,k3⟩:=cells4 HK6.out;go_upto_region 16 with fail;go_cut [120] from 32 to 141 (fun v120 wc=>v120=.bool nb2/\Hid (Below W6.heap.size W6 wc))
          case first =>
           by_cases t1:0<FX
           ·have u1:decide (0<FX)=true:=decide_eq_true t1;by_cases t2:ET<1099511627776
            ·have u2:decide (ET<1099511627776)=true:=decide_eq_true t2;by_cases t3:ET-AC<EF
             ·have u3:decide (ET-AC<EF)=true:=decide_eq_true t3;have HR:=zh (show nb2=true by rw[HNB1.out];exact decide_eq_true ⟨t1,t2,t3⟩)
              go_quiet (fail)
              go_wp2_with fail;go_meet;exact⟨by rw[HR.out],zh (Below.drewN' (zB _ _) nq)⟩
             ·have u3:decide (ET-AC<EF)=false:=decide_eq_false t3;have HR:=zh (show nb2=false by rw[HNB1.out];exact decide_eq_false (fun h=>t3 h.2.2))
              go_quiet (fail)
              go_wp2_with fail;go_meet;exact⟨by rw[HR.out],zh (Below.drewN' (zB _ _) nq)⟩
            ·have u2:decide (ET<1099511627776)=false:=decide_eq_false t2;have HR:=zh (show nb2=false by rw[HNB1.out];exact decide_eq_false (fun h=>t2 h.2.1))
             go_quiet (fail)
             go_wp2_with fail;go_meet;exact⟨by rw[HR.out],zh (Below.drewN' (zB _ _) nq)⟩
           ·have u1:decide (0<FX)=false:=decide_eq_false t1;have HR:=zh (show nb2=false by rw[HNB1.out];exact decide_eq_false (fun h=>t1 h.1))
            go_quiet (fail)
            go_wp2_with fail;go_meet;exact⟨by rw[HR.out],zh (Below.drewN' (zB _ _) nq)⟩
          case rest =>
           obtain⟨rfl,HB7⟩:=hcut;obtain⟨W7,hW7⟩:=zx wc;rw[<-hW7] at HB7 ⊢;clear hW7 k0 k1 k2 k3 dF dT hfx;have HP7:=zh (show RowI W7 gD D3/\RowI W7 gB B3 from⟨HP6.out.1.below HB7.out,HP6.out.2.1.below HB7.out⟩);have HK7:=zh ((HB7.out.block g11 (zA.1 HK6.out).1).trans HK6.out);have HB7W:=zh (HB6.out.trans (HB7.out.mono HB6.out.size))
           cases nb2 with
           | false =>
            go_wp2_with fail;go_roundg (M-(i+1))
            case measure=>omega
            case rel=>exact⟨i+1,ag3,D3,B3,by omega,rfl,rfl,by go_num,HB7W,zh ⟨HP7.out.1,HP7.out.2,HP6.out.2.2.bwdN (by have:=HEQ.out;omega) (fun h=>by
             have h1:=of_decide_eq_false HNB1.out.symm;rw[<-HE.out.1,<-HE.out.2.1,<-HE.out.2.2.2.1,<-HE.out.2.2.2.2,<-HDD.out.1,<-HDD.out.2] at h
             exact h1 h)⟩⟩
           | true =>
            have hyes0:=HP6.out.2.2.bwdY HV.out HFI.out.feas HFI.out.p0 (by have:=HEQ.out;omega) (by
             have h1:=of_decide_eq_true HNB1.out.symm;rw[<-HE.out.1,<-HE.out.2.1,<-HE.out.2.2.2.1,<-HE.out.2.2.2.2,<-HDD.out.1,<-HDD.out.2]
             exact h1)
            rw[<-HE.out.1,<-HE.out.2.1,<-HE.out.2.2.2.1,<-HDD.out.2,<-HEQ.out.2.2.2.1] at hyes0;obtain⟨HY1,hne⟩:PassI N fl p D1 (i+1) true (D3.set AF (ET-AC)) (B3.set AF ((M:Int)+(i:Int)))/\AT≠AF:=hyes0;have HY:=zh HY1;have HNE:=zh hne;clear HY1 hne;obtain⟨k0,k1,k2,k3⟩:=cells4 HK7.out;obtain⟨c0,c1,c2,c3⟩:=cells4 (HNW.out W7 HB7W.out).2;have HGN:=zh (show gN≠gD/\gN≠gB from by have:=HGS.out;have:=HGG.out;omega);have w2:IntKind.i64.wrap ((M:Int)+(i:Int))=(M:Int)+(i:Int):=zI _ (by omega);have dF:=(HP7.out.1.at_ (k:=AT) (by rw[HLN.out.1];exact HQ.out.2.1)).1;rw[<-HDD.out.2] at dF;have HX1:=zh (show W7.cell? ⟨gD,AF,none⟩=some (.int .i64 (gt D3 AF))/\W7.frozen? ⟨gD,AF,none⟩=false from HP7.out.1.at_ (by rw[HLN.out.1];exact HQ.out.1));have hr1:=HP7.out.1.set AF (ET-AC);have hr2:=HP7.out.2.other (fun e=>HGG.out.2.2 e.symm) AF (.int .i64 (ET-AC)) (a:=gD);have HX2:=zh (show(W7.setCell ⟨gD,AF,none⟩ (.int .i64 (ET-AC))).cell? ⟨gB,AF,none⟩=some (.int .i64 (gt B3 AF))/\W7.frozen? ⟨gB,AF,none⟩=false from⟨hr2.cell (by rw[HLN.out.2];exact HQ.out.1),HP7.out.2.fz AF⟩);have HSA:=zh (show(fun w'=>w'.cell? ⟨g11,0,none⟩=some (.int .i64 (AF:Int))/\w'.cell? ⟨g11,1,none⟩=some (.int .i64 (AT:Int))/\w'.cell? ⟨g11,3,none⟩=some (.int .i64 AC)/\w'.cell? ⟨gD,AT,none⟩=some (.int .i64 ET)/\w'.cell? ⟨gN,3,none⟩=some (.slice (some ⟨ab,aoff,none⟩) M cA)) W7.drew from⟨k0,k1,k3,dF,c3⟩)
            have hdf1:(W7.setCell ⟨gD,AF,none⟩ (.int .i64 (ET-AC))).cell? ⟨gD,AT,none⟩=some (.int .i64 ET):=by
             rw[hr1.cell (by rw[List.length_set,HLN.out.1];exact HQ.out.2.1),gt_set _ _ (by rw[HLN.out.1];exact HQ.out.1),if_neg HNE.out,HDD.out.2]
            have HSB:=zh (show(fun w'=>w'.cell? ⟨g11,0,none⟩=some (.int .i64 (AF:Int))/\w'.cell? ⟨g11,1,none⟩=some (.int .i64 (AT:Int))/\w'.cell? ⟨g11,3,none⟩=some (.int .i64 AC)/\w'.cell? ⟨gD,AT,none⟩=some (.int .i64 ET)/\w'.cell? ⟨gN,3,none⟩=some (.slice (some ⟨ab,aoff,none⟩) M cA)) (W7.setCell ⟨gD,AF,none⟩ (.int .i64 (ET-AC))).drew from⟨cell_other k0 HG4.out.1,cell_other k1 HG4.out.1,cell_other k3 HG4.out.1,hdf1,cell_other c3 HGN.out.1⟩);have HSC:=zh (show(fun w'=>w'.cell? ⟨g11,0,none⟩=some (.int .i64 (AF:Int))/\w'.cell? ⟨g11,1,none⟩=some (.int .i64 (AT:Int))/\w'.cell? ⟨g11,3,none⟩=some (.int .i64 AC)/\w'.cell? ⟨gD,AT,none⟩=some (.int .i64 ET)/\w'.cell? ⟨gN,3,none⟩=some (.slice (some ⟨ab,aoff,none⟩) M cA)) ((W7.setCell ⟨gD,AF,none⟩ (.int .i64 (ET-AC))).setCell ⟨gB,AF,none⟩ (.int .i64 ((M:Int)+(i:Int)))).drew from⟨cell_other HSB.out.1 HG4.out.2.1,cell_other HSB.out.2.1 HG4.out.2.1,cell_other HSB.out.2.2.1 HG4.out.2.1,cell_other HSB.out.2.2.2.1 HGG.out.2.2,cell_other HSB.out.2.2.2.2 HGN.out.2⟩);have HR7:=zh (show RowI ((W7.setCell ⟨gD,AF,none⟩ (.int .i64 (ET-AC))).setCell ⟨gB,AF,none⟩ (.int .i64 ((M:Int)+(i:Int)))).drew gD (D3.set AF (ET-AC))/\RowI ((W7.setCell ⟨gD,AF,none⟩ (.int .i64 (ET-AC))).setCell ⟨gB,AF,none⟩ (.int .i64 ((M:Int)+(i:Int)))).drew gB (B3.set AF ((M:Int)+(i:Int)))/\Below Wb.heap.size Wb ((W7.setCell ⟨gD,AF,none⟩ (.int .i64 (ET-AC))).setCell ⟨gB,AF,none⟩ (.int .i64 ((M:Int)+(i:Int)))).drew/\((W7.setCell ⟨gD,AF,none⟩ (.int .i64 (ET-AC))).setCell ⟨gB,AF,none⟩ (.int .i64 ((M:Int)+(i:Int)))).drew.heap[g11]?=some (.cells #[.int .i64 (AF:Int),.int .i64 (AT:Int),.int .i64 AP,.int .i64 AC] 172 (0,0)) from⟨hr1.other HGG.out.2.2 AF _,hr2.set AF _,((HB7W.out.setCell (p:=⟨gD,AF,none⟩) HGG.out.1 _).setCell (p:=⟨gB,AF,none⟩) HGG.out.2.1 _).drew,(Below.heap_setCell _ ⟨gB,AF,none⟩ _ g11 HG4.out.2.1).trans ((Below.heap_setCell _ ⟨gD,AF,none⟩ _ g11 HG4.out.1).trans HK7.out)⟩);clear k0 k1 k2 k3 dF hr1 hr2 hdf1 c0 c1 c2 c3;go_upto_region 17 with fail;refine region_tail (S:=(fun w'=>w'.cell? ⟨g11,0,none⟩=some (.int .i64 (AF:Int))/\w'.cell? ⟨g11,1,none⟩=some (.int .i64 (AT:Int))/\w'.cell? ⟨g11,3,none⟩=some (.int .i64 AC)/\w'.cell? ⟨gD,AT,none⟩=some (.int .i64 ET)/\w'.cell? ⟨gN,3,none⟩=some (.slice (some ⟨ab,aoff,none⟩) M cA))) [] (by kernel_rfl) HSA.out (fun hHeld=>?_);refine tk 0 121 ?_;refine tk 1 122 ?_;refine tk 2 123 ?_;refine tk 3 124 ?_;refine tk 4 125 ?_;refine tk 5 126 ?_;refine tk 6 127 ?_;refine tk 7 128 ?_;refine tk 8 129 ?_;refine tk 9 130 ?_;refine tk 10 131 ?_;refine tk 11 132 ?_;refine tk 12 133 ?_;refine tk 13 134 ?_;refine tk 14 135 ?_;refine tk 15 136 ?_;refine tk 16 137 ?_;refine tk 17 138 ?_;refine tk 18 139 ?_;refine tk 19 140 ?_;refine readyT (rs:=[20]) (by kernel_rfl) (by simp) ?_;refine zC rfl (fun K hK=>?_) ?_
            ·(obtain⟨x1,z1⟩:=HX1.out)
             go_simp;refine hK.out _ _ ?_ (fun hHeld=>?_)
             ·exact HSB.out
             clear hK K;(try simp only[Act.put,z1,z2,z3]);refine tk 21 141 ?_;refine readyT (rs:=[22]) (by kernel_rfl) (by simp) ?_;refine zC rfl (fun K hK=>?_) ?_
             ·(obtain⟨x1,z1⟩:=HX2.out)
              go_simp;refine hK.out _ _ ?_ (fun hHeld=>?_)
              ·exact HSC.out
              clear hK K;(try simp only[Act.put,z1,z2,z3]);refine tk 23 9 ?_;refine doneT (by kernel_rfl) ?_ _;clear hHeld;obtain⟨W9,hW9⟩:=zx (((W7.setCell ⟨gD,AF,none⟩ (.int .i64 (ET-AC))).setCell ⟨gB,AF,none⟩ (.int .i64 ((M:Int)+(i:Int)))).drew);rw[<-hW9] at HR7 ⊢;clear hW9;go_wp2_with fail;go_roundg (M-(i+1))
              case measure=>omega
              case rel=>exact⟨i+1,true,_,_,by omega,rfl,rfl,by go_num,zh HR7.out.2.2.1,zh ⟨HR7.out.1,HR7.out.2.1,HY.out⟩⟩
             exact zE
            exact zE
       ·have HJE:=zh (show i=M by omega);go_wp2_with fail;go_roundg (cond ag ((suml D2).toNat+1) 0)
        case measure =>
         have hs:=HP.out.2.2.yes
         cases ag with
         | true =>
          have:=hs rfl;have h0:=suml_nonneg D2 (fun v hv=>HP.out.2.2.di.nonneg HFI.out.lo (by rw[<-HP.out.2.2.di.ld];exact hv));simp only[cond_true];omega
         | false=>simp only[cond_false,cond_true];omega
        case rel=>exact⟨ag,D2,B2,rfl,rfl,HB,zh ⟨HP.out.1,HP.out.2.1,HP.out.2.2.di,fun e=>by
         subst e;have h:=HP.out.2.2;rw[HJE.out,HEQ.out.2.2.2.1] at h
         exact h.done⟩⟩
end Go.Proofs.YtgfaieppacabjaaGreat
