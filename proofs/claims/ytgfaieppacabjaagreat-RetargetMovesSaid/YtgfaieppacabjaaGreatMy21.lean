/- retarget.Raise, walked. -/
import Derived.Test.YtgfaieppacabjaaGreatMy18
import Derived.Test.YtgfaieppacabjaaGreatMy20
set_option linter.unusedSectionVars false
set_option maxRecDepth 100000
set_option maxHeartbeats 12800000
namespace Go.Proofs.YtgfaieppacabjaaGreat
open Go.RowKit
set_option linter.unusedVariables false
set_option linter.unusedSimpArgs false
theorem code_no(k m:Int)(w:World)(h1:1<=k)(h2:k<=6)(h3:0<=m)(h4:4<m) :
  Calls Tryz.prog 32 #[.int .i64 k,.int .i64 m] w fun e w'=>e=.returned (.bool false)/\w=w':=by
 have q1:decide (1<=k)=true:=decide_eq_true h1;have q2:decide (k<=6)=true:=decide_eq_true h2;have q3:decide (0<=m)=true:=decide_eq_true h3;have q4:decide (m<=4)=false:=decide_eq_false (by omega);clear h1 h2 h3 h4;go_enter Tryz.func32,Tryz.ntmps32;go_wp2_with fail;go_ret;exact⟨rfl,rfl⟩
theorem new3{w W:World}{a b c:Value}{t:TypeId}(h:W=w.alloc (.cells #[a,b,c] t)):W.heap[w.heap.size]?=some (.cells #[a,b,c] t (0,0))/\Below w.heap.size w W:=by
 subst h;exact⟨zN _ _,(zB _ _).alloc (zR _) _⟩
theorem ls_one{w:World}{R:Nat->Prop}{v:Value}{n:Nat}(h:LS w R v (natL n))(h0:0<n):∃A c,v=.slice A 1 c:=by
 obtain⟨A,c,e,-⟩:=h.form;rw[natL_pos h0] at e;exact⟨A,c,e⟩
theorem rangeAt_setCell{w:World}{a m g o:Nat}{xs:List Value}{u:Value}(h:w.rangeAt a m xs)(ha:a≠g):(w.setCell ⟨g,o,none⟩ u).rangeAt a m xs:=World.rangeAt_setCells_apart h g o [u] (.inl ha)
theorem rangeAt_drew{w:World}{a m:Nat}{xs:List Value}(h:w.rangeAt a m xs):w.drew.rangeAt a m xs:=h
theorem there_drew{w:World}{a m n:Nat}(h:w.there a m n):w.drew.there a m n:=h
theorem there_setCell{w:World}{a m n g o:Nat}{u:Value}(h:w.there a m n):(w.setCell ⟨g,o,none⟩ u).there a m n:=World.there_setCells h g o [u]
theorem info_fracG:(Tryz.prog.info? 26).map (fun i=>(i.zero,i.size,i.bytes))=some (some (.agg #[.bool false,.slice none 0 0,.slice none 0 0]),3,56):=by kernel_rfl
theorem own_new{α:Type}{size:Nat}{K:World->(Nat->Prop)->List Value->α->Prop}{w:World}{base:Nat}{e:TypeId}{v:Value}{n:Nat}{xs:List Value}(h:w.ownsRow base e size v n xs)(h0:0<n):∃q c,v=.slice (some ⟨q,0,none⟩) n c/\base<=q:=by
 rcases h.2 with ⟨-,h3⟩ | ⟨g,cap,cur,e1,e2,-⟩
 ·omega
 ·exact⟨g,cap,e1,e2⟩
theorem app_rep(w:World)(ty:TypeId)(B L q n c gn:Nat)(l:List Frc)(x:Frc)(un ud:Value)(h:OwnK 3 FrcK w B 26 (.slice (some ⟨q,0,none⟩) n c) l (Fz B w.heap.size (.slice (some ⟨q,0,none⟩) n c)))(hn:l.length=n)(hB:B<=L)(hL:L<=w.heap.size)(hcase:L<=q\/c=n)
  (hc:w.rangeAt gn 0 [.bool x.neg,un,ud]) (h1:LS w (Fz B w.heap.size (.slice (some ⟨q,0,none⟩) n c)) un (natL x.num)) (h2:LS w (Fz B w.heap.size (.slice (some ⟨q,0,none⟩) n c)) ud (natL x.den)) (h3:n<=1000) :
  ∃q' c' w',(Builtin.append_ #[53,53] ty #[.slice (some ⟨q,0,none⟩) n c,.slice (some ⟨gn,0,none⟩) 1 1]).run Tryz.prog w=.ok (.slice (some ⟨q',0,none⟩) (n+1) c') w'/\L<=q'/\OwnK 3 FrcK w' B 26 (.slice (some ⟨q',0,none⟩) (n+1) c') (l++[x]) (Fz B w'.heap.size (.slice (some ⟨q',0,none⟩) (n+1) c'))/\Below L w w':=by
 obtain⟨i0,hi0,hz0,hz1,hz2⟩:=info_parts info_fracG;have hq:=OwnK.lt h q rfl
 have hone:∀u∈[Value.bool x.neg,un,ud],u.oneCell'=true:=by
  obtain⟨An,Nn,cn,rfl⟩:=h1.frm;obtain⟨Ad,Nd,cd,rfl⟩:=h2.frm;intro u hu;simp at hu;rcases hu with rfl | rfl | rfl <;> rfl
 obtain⟨cs,o1,o2⟩:=h;rw[hn] at o1
 have hnews:∀j u,[Value.bool x.neg,un,ud][j]?=some u->w.cell? ((⟨gn,0,none⟩:Addr).add j)=some u:=fun j u hu=>by
  rw[Addr.add_mid];exact hc j u hu
 have hlen:cs.length=l.length*3:=by rw[hn];exact o1.1
 by_cases hroom:n+1<=c
 ·have hqL:L<=q:=by omega
  obtain⟨v',w',hr,ho',hg',-,hat⟩:=run_append_own_at (P:=Tryz.prog) w B 53 ty _ i0 _ 3 56 Tryz.underlying53 hi0 hz0 hz1 hz2 rfl (by omega) (.slice (some ⟨q,0,none⟩) n c) n cs o1 ⟨gn,0,none⟩ 1 1 [.bool x.neg,un,ud] (by simp) hnews hone (by unfold maxLen;omega) (by omega) (Nat.le_trans hB hL);obtain⟨q',c',rfl,hq'⟩:=own_new (K:=FrcK) (size:=3) ho' (by omega)
  have hq2:q'=q\/q'=w.heap.size:=by
   rcases hat with h | h
   ·left;simpa[Value.ownBlock] using h
   ·right;simpa[Value.ownBlock] using h
  refine⟨q',c',w',hr,by omega,?_,(zB _ _).grown hg' hL (fun k hk=>by simp[Value.ownBlock] at hk;omega)⟩;refine OwnK.pushF frcK o2 hlen (fun b hb=>by simp[Value.ownBlock] at hb;omega) (by rw[hn];exact ho') rfl ⟨un,ud,rfl,h1,h2⟩ (hot:=[some q]) (HotBy.grown hg' (.inl (by simp[Value.ownBlock]))) (fun b hb _ _=>by simp at hb;simp[Value.ownBlock,hb]) ?_;rcases hq2 with h | h
  ·left;simp[Value.ownBlock,h]
  ·right;exact⟨q',rfl,by omega⟩
 ·obtain⟨v',w',hr,ho',hg'⟩:=run_append_arg_grows (P:=Tryz.prog) w 53 ty _ i0 _ 3 56 Tryz.underlying53 hi0 hz0 hz1 hz2 rfl (by omega) ⟨q,0,none⟩ n c cs o1.1 (o1.cells (g:=q) rfl) ⟨gn,0,none⟩ 1 1 [.bool x.neg,un,ud] (by simp) hnews (by omega) (by unfold maxLen;omega) (by omega);obtain⟨q',c',rfl,hq'⟩:=own_new (K:=FrcK) (size:=3) ho' (by omega);refine⟨q',c',w',hr,by omega,?_,(zB _ _).grown hg' hL (by simp)⟩;refine OwnK.pushF frcK o2 hlen (fun b hb=>by simp[Value.ownBlock] at hb;omega) (by rw[hn];exact own_base ho' (Nat.le_trans hB hL)) rfl ⟨un,ud,rfl,h1,h2⟩ (hot:=[]) (HotBy.grown hg' (.inr rfl)) (fun b hb _ _=>by simp at hb) (.inr ⟨q',rfl,hq'⟩)
theorem wp_appF{o:Oper}{a:Act}{w:World}{K:Act->World->Prop}{Q:Exit->Act->World->Prop}(s x:Operand)(ho:o.op=.call { callee:=.builtin .append,args:=#[s,x],argTypes:=#[53,53] })(sv xv v':Value)(w':World)(hs:a.eval s=sv)(hx:a.eval x=xv)
  (hr:(Builtin.append_ #[53,53] o.type #[sv,xv]).run Tryz.prog w=.ok v' w') (h:K (a.put o.dst v') w'):o.wp Tryz.prog a w K Q:=by
 unfold Oper.wp execOp;simp only[ho,resolve,invoke,builtin,Sem.run_bind,Sem.run_pure,Result.andThen_ok,List.map_toArray,List.map_cons,List.map_nil,hs,hx,hr];exact h
def PolN(w:World)(R:Nat->Prop)(cs:List Value)(x:PolM):Prop:=∃vm vr tn td hn hd,cs=[.string x.name,.int .i64 x.k,.int .i64 x.m,.int .i64 x.q,.int .i64 0,.int .i64 0,.int .i64 0,.int .i64 x.s3,.int .i64 x.s4,vm,vr,.bool x.target.neg,tn,td,.bool x.horizon.neg,hn,hd] /\
 IntS w R vm x.models/\LS w R tn (natL x.target.num)/\LS w R td (natL x.target.den)/\LS w R hn (natL x.horizon.num)/\LS w R hd (natL x.horizon.den)
def PolK2(w:World)(R:Nat->Prop)(cs:List Value)(p:PolM×Bool):Prop:=(p.2=true/\PolK w R cs p.1)\/(p.2=false/\PolN w R cs p.1)
theorem polK2:Steady PolK2:=⟨fun hk h=>by
  rcases h with ⟨h1,h2⟩ | ⟨h1,a,b,c,d,f,g,e,i1,i2,i3,i4,i5⟩
  ·exact .inl ⟨h1,polK.keep hk h2⟩
  ·exact .inr ⟨h1,a,b,c,d,f,g,e,i1.keep hk,i2.keep hk,i3.keep hk,i4.keep hk,i5.keep hk⟩,
 fun hr h=>by
  rcases h with ⟨h1,h2⟩ | ⟨h1,a,b,c,d,f,g,e,i1,i2,i3,i4,i5⟩
  ·exact .inl ⟨h1,polK.mono hr h2⟩
  ·exact .inr ⟨h1,a,b,c,d,f,g,e,i1.mono hr,i2.mono hr,i3.mono hr,i4.mono hr,i5.mono hr⟩⟩
theorem RowA.imp{α β:Type}{size:Nat}{K:World->(Nat->Prop)->List Value->α->Prop}{K':World->(Nat->Prop)->List Value->β->Prop}{w:World}{T:TypeId}{g n:Nat}{es:List α}{es':List β}{R R':Nat->Prop}(h:RowA size K w T g n es R)(hg:¬R' g)(hl:es'.length=es.length)
  (hn:∀k y a,es'[k]?=some a->es[k]?=some y->∀c,c.length=size->w.rangeAt g (k*size) c->K w R c y->K' w R' c a):RowA size K' w T g n es' R':=by
 obtain⟨cs,h1,h2,h3⟩:=h.row;refine⟨hg,by rw[hl];exact h.room,h.most,cs,h1,h2,fun k a ha=>?_⟩;have hk:=(zL.1 ha).1;obtain⟨y,hy⟩:∃y,es[k]?=some y:=⟨_,zG (by omega)⟩;obtain⟨c,e1,e2,e3⟩:=h3 k y hy;exact⟨c,e1,e2,hn k y a ha hy c e1 (fun j v hv=>by rw[cell_of_row _ _ _ _ _ _ h1];exact e2 j v hv) e3⟩
theorem RowA.putS{α:Type}{size:Nat}{K:World->(Nat->Prop)->List Value->α->Prop}{w:World}{T:TypeId}{g n:Nat}{es:List α}{R:Nat->Prop}(hK:Steady K){k o:Nat}{y:α}(h:RowA size K w T g n (es.set k y) R)(hk:k<es.length)(vs:List Value)(ho:o+vs.length<=size){R':Nat->Prop}(hr:∀b,R b->R' b)(hg:¬R' g)(y':α)
  (hn:∀c,K w R c y->K w R' (seg c o vs) y'):RowA size K (w.setCells g (k*size+o) vs) T g n (es.set k y') R' :=
 h.put hK vs (k:=k) (x:=y) (a:=y') (by rw[List.getElem?_set_self hk]) ho hr hg (by simp) (by rw[List.getElem?_set_self hk]) (fun i hi=>by rw[List.getElem?_set_ne (Ne.symm hi),List.getElem?_set_ne (Ne.symm hi)]) (fun c _ _ h=>hn c h)
theorem set_here{α:Type}{es:List α}{k:Nat}{y:α}(h:es[k]?=some y):es.set k y=es:=by
 apply List.ext_getElem?;intro i;by_cases hi:k=i
 ·subst hi;rw[List.getElem?_set_self (zL.1 h).1,h]
 ·rw[List.getElem?_set_ne hi]

theorem cells9{W:World}{g:Nat}{a b c d e f h i j:Value}{t:TypeId}(q:W.heap[g]?=some (.cells #[a,b,c,d,e,f,h,i,j] t (0,0))):W.cell? ⟨g,0,none⟩=some a/\W.cell? ⟨g,1,none⟩=some b/\W.cell? ⟨g,2,none⟩=some c/\W.cell? ⟨g,3,none⟩=some d/\W.cell? ⟨g,4,none⟩=some e/\W.cell? ⟨g,5,none⟩=some f/\W.cell? ⟨g,6,none⟩=some h/\W.cell? ⟨g,7,none⟩=some i/\W.cell? ⟨g,8,none⟩=some j:=by
 refine⟨?_,?_,?_,?_,?_,?_,?_,?_,?_⟩ <;> (rw[cell_of_row _ _ _ _ _ _ q];rfl)
theorem new7{w W:World}{a b c d e f g:Value}{t:TypeId}(h:W=w.alloc (.cells #[a,b,c,d,e,f,g] t)):W.heap[w.heap.size]?=some (.cells #[a,b,c,d,e,f,g] t (0,0))/\Below w.heap.size w W:=by
 subst h;exact⟨zN _ _,(zB _ _).alloc (zR _) _⟩
theorem size_vioL:(Tryz.prog.info? 166).map (·.size)=some 3:=by kernel_rfl
theorem size_fltL:(Tryz.prog.info? 35).map (·.size)=some 7:=by kernel_rfl
theorem boxed7{w W:World}{a b c d e f g:Value}{t:TypeId}(h:W=w.alloc (.cells #[a,b,c,d,e,f,g] t)):W.heap[w.heap.size]?=some (.cells #[a,b,c,d,e,f,g] t (0,0))/\Below w.heap.size w W:=by
 subst h;exact⟨zN _ _,(zB _ _).alloc (zR _) _⟩
theorem tvalid_any(N:Nat)(hN:N<=12)(vl vm vd vv vp vo:Value)(F:FltM)(w:World)(hf:FleetS w (Bl w.heap.size) vl vm vd vv vp vo F)(hok:FleetOk N F) :
  Calls Tryz.prog 105 #[.agg #[.int .i64 F.ext,vl,vm,vd,vv,vp,vo]] w fun e w'=>e=.returned (.bool true)/\Below w.heap.size w w':=by
 have HV:=zh (fun(w':World) (hb:Below w.heap.size w w')=>fvalidate_any N hN _ _ _ _ _ _ F w' (hf.below hb) hok);obtain⟨Al,nl,cl,rfl⟩:=hf.1.form3;obtain⟨Am,nm,cm,rfl⟩:=hf.2.1.form3;obtain⟨Ad,nd,cd,rfl⟩:=hf.2.2.1.form3;obtain⟨Av,nv,cv,rfl⟩:=hf.2.2.2.1.form3;obtain⟨Ap,np,cp,rfl⟩:=hf.2.2.2.2.1.form3;obtain⟨Ao,no,co,rfl⟩:=hf.2.2.2.2.2.form3;obtain⟨EX,hEX⟩:=zx F.ext;rw[<-hEX] at HV ⊢;clear hf hok hEX;obtain⟨W1,hW1⟩:=zx (w.alloc (.cells #[.int .i64 EX,.slice Al nl cl,.slice Am nm cm,.slice Ad nd cd,.slice Av nv cv,.slice Ap np cp,.slice Ao no co] 35));obtain⟨g0,hg0⟩:=zx w.heap.size;have hk:=(boxed7 hW1).1;have hb1:=(boxed7 hW1).2;rw[<-hg0] at hk;have HB1:=zh hb1;have HK:=zh hk;have HW:=zh (And.intro hW1 hg0);clear hk hb1 hW1 hg0;go_enter Tryz.func105,Tryz.ntmps105;go_upto_region 1 with fail;rw[<-HW.out.1,<-HW.out.2];obtain⟨c0,c1,c2,c3,c4,c5,c6⟩:=cells7 HK.out;go_wp2_with fail;refine(HV.out W1 HB1.out).mono ?_;rintro e w2 ⟨rfl,hb2⟩;have HB2:=zh (HB1.out.trans (hb2.mono HB1.out.size));clear hb2 c0 c1 c2 c3 c4 c5 c6;go_wp2_with fail;go_ret;exact⟨rfl,HB2.out⟩
theorem shape_any(N:Nat)(hN:N<=12)(vl vm vd vv vp vo vL:Value)(F:FltM)(L:List (List Int))(v:Nat)(w:World)(hf:FleetS w (Bl w.heap.size) vl vm vd vv vp vo F)(hok:FleetOk N F)(hl:SlS 1 RowIK w (Bl w.heap.size) vL L)(hlo:LayOk F F.vols.length L)(hv:v<F.vols.length) :
  Calls Tryz.prog 106 #[.agg #[.int .i64 F.ext,vl,vm,vd,vv,vp,vo],vL,.int .i64 (v:Int)] w fun e w'=>e=.returned (.tuple #[.agg #[.int .i64 0,.int .i64 0,.int .i64 0],.bool false])/\Below w.heap.size w w':=by
 have HFG:=zh (fun(w':World) (hb:Below w.heap.size w w')=>gfragments_any N hN _ _ _ _ _ _ F v w' (hf.below hb) hok hv);obtain⟨Al,nl,cl,rfl⟩:=hf.1.form3;obtain⟨Am,nm,cm,rfl⟩:=hf.2.1.form3;obtain⟨Ad,nd,cd,rfl⟩:=hf.2.2.1.form3;obtain⟨Av,cv,hvv,-,hmv⟩:=hf.2.2.2.1.form;subst hvv;obtain⟨Ap,np,cp,rfl⟩:=hf.2.2.2.2.1.form3;obtain⟨Ao,no,co,rfl⟩:=hf.2.2.2.2.2.form3;obtain⟨AL,cL,hvL,-,hmL⟩:=hl.form;subst hvL
 have hvl:v<L.length:=by rw[hlo.1];exact hv
 obtain⟨b,off,cs,hAe,hR,-,hc,hcs⟩:=hl.at_ (k:=v) hvl;obtain⟨l,hll⟩:∃l,L[v]?=some l:=⟨_,zG hvl⟩;rw[(zL.1 hll).2] at hcs;obtain⟨vr,rfl,hr⟩:=hcs;subst hAe;obtain⟨hlen,hrng⟩:=hlo.2 v l hll;obtain⟨A1,c1,hv1,-,hm1⟩:=hr.form7;subst hv1;have hsz:=szN_range hok hv;obtain⟨EX,hEX⟩:=zx F.ext;obtain⟨NV,hNV⟩:=zx F.dves.length;obtain⟨LN,hLN⟩:=zx l.length;obtain⟨NO,hNO⟩:=zx L.length;rw[<-hlen,<-hEX,<-hLN,<-hNV] at HFG;rw[<-hLN] at hc;rw[<-hNV] at hrng hmv;rw[<-hNO] at hmL hvl;unfold maxLen at hmv hm1 hmL
 have f0:w.cell? ⟨b,off+v,none⟩=some (.slice A1 LN c1):=by have:=hc 0 _ rfl;simpa using this
 obtain⟨W1,hW1⟩:=zx ((w.alloc (.cells #[.int .i64 EX,.slice Al nl cl,.slice Am nm cm,.slice Ad nd cd,.slice Av NV cv,.slice Ap np cp,.slice Ao no co] 35)).alloc (.cells #[.int .i64 0,.int .i64 0,.int .i64 0] 166));obtain⟨g0,hg0⟩:=zx w.heap.size;obtain⟨g1,hg1⟩:=zx (w.heap.size+1)
 have hb1:Below w.heap.size w W1:=by rw[hW1];exact((zB _ _).alloc (zR _) _).alloc (by simp) _
 have i0:W1.heap[g0]?=some (.cells #[.int .i64 EX,.slice Al nl cl,.slice Am nm cm,.slice Ad nd cd,.slice Av NV cv,.slice Ap np cp,.slice Ao no co] 35 (0,0)):=by rw[hW1,hg0];exact(zH _ _ _ (by simp)).trans (zN _ _)
 have i1:W1.heap[g1]?=some (.cells #[.int .i64 0,.int .i64 0,.int .i64 0] 166 (0,0)):=by rw[hW1,hg1];exact heap_alloc_at _ _ _ (by simp)
 have l0:=(zA.1 i0).1;have l1:=(zA.1 i1).1;have HBW:=zh (show ∀w',Below W1.heap.size W1 w'->Below w.heap.size w w' from fun w' hb=>hb1.trans (hb.mono hb1.size))
 have hrg:W1.rangeAt g0 0 [.int .i64 EX,.slice Al nl cl,.slice Am nm cm,.slice Ad nd cd,.slice Av NV cv,.slice Ap np cp,.slice Ao no co]:=fun j x hx=>by rw[cell_of_row _ _ _ _ _ _ i0,Nat.zero_add,<-Array.getElem?_toList];exact hx
 have HSR:=zh (show ∀w',Below W1.heap.size W1 w'->(w'.cell? ⟨b,off+v,none⟩=some (.slice A1 LN c1)/\w'.rangeAt g0 0 [.int .i64 EX,.slice Al nl cl,.slice Am nm cm,.slice Ad nd cd,.slice Av NV cv,.slice Ap np cp,.slice Ao no co]) from fun w' hb=>⟨((hb1.trans (hb.mono hb1.size)).cell (p:=⟨b,off+v,none⟩) hR).trans f0,range_same hrg (hb.block g0 l0)⟩);have HV3:=zh (show ∀w',Below W1.heap.size W1 w'->w'.heap[g1]?=some (.cells #[.int .i64 0,.int .i64 0,.int .i64 0] 166 (0,0)) from fun w' hb=>(hb.block g1 l1).trans i1);have HRR:=zh hr;have HNG:=zh hrng;have HW:=zh (And.intro hW1 (And.intro hg0 hg1));have HG1:=zh (show w.heap.size<=g1 by omega);have HLN:=zh (show LN=l.length/\LN<=6 from⟨hLN,by omega⟩)
 have hne:((LN:Int) != (LN:Int))=false:=by simp
 have jv:(v:Int)<(NO:Int):=by omega
 rw[<-hEX,<-hNV,<-hNO];clear hf hok hl hlo hv hvl hR hc hll hlen hrng hr hsz hEX hNV hLN hNO f0 hb1 i0 i1 l0 l1 hrg hW1 hg0 hg1;go_enter Tryz.func106,Tryz.ntmps106;go_upto_region 1 with fail;rw[<-HW.out.1,<-HW.out.2.1,show g0+1=g1 by (have:=HW.out;omega)];refine region_tail (S:=(fun w'=>w'.cell? ⟨b,off+v,none⟩=some (.slice A1 LN c1)/\w'.rangeAt g0 0 [.int .i64 EX,.slice Al nl cl,.slice Am nm cm,.slice Ad nd cd,.slice Av NV cv,.slice Ap np cp,.slice Ao no co])) [] (by kernel_rfl) (HSR.out _ (zB _ _).drew) (fun hHeld=>?_);refine tk 0 10 ?_;refine tk 1 11 ?_;refine tk 2 12 ?_;refine tk 3 13 ?_;refine tk 4 14 ?_;refine takeT (i:=5) (d:=15) (v:=(.agg #[.int .i64 EX,.slice Al nl cl,.slice Am nm cm,.slice Ad nd cd,.slice Av NV cv,.slice Ap np cp,.slice Ao no co])) rfl rfl (by kernel_rfl) (by kernel_rfl) (by kernel_rfl) (by kernel_rfl) (fun _ _ _ h=>h) (yieldsIf_load_mid (by rfl) 35 (.tmp 3) rfl g0 0 (by rfl) [.int .i64 EX,.slice Al nl cl,.slice Am nm cm,.slice Ad nd cd,.slice Av NV cv,.slice Ap np cp,.slice Ao no co] _ (fun w hw=>hw.2) Tryz.underlying35 rfl size_fltL) (by assumption) ?_;(try simp only[Act.put,z1,z2,z3]);refine tk 6 16 ?_;refine readyT (rs:=[7]) (by kernel_rfl) (by simp) ?_;refine zC rfl (fun K hK=>?_) ?_
 ·go_simp;(go_at_call 150;refine(HFG.out _ (HBW.out _ (zB _ _).drew)).mono ?_;rintro e w9 ⟨rfl,hb9⟩;have HB9:=zh (show Below W1.heap.size W1 w9 from((zB _ _).drew:Below W1.heap.size W1 W1.drew).trans hb9);clear hb9);go_wp2_with fail;refine hK.out _ _ ?_ (fun hHeld=>?_)
  ·exact HSR.out _ HB9.out
  clear hK K;(try simp only[Act.put,z1,z2,z3]);refine tk 8 18 ?_;refine doneT (by kernel_rfl) ?_ _;clear hHeld;have q0:=(HSR.out w9 HB9.out).1;go_upto_region 3 with fail;go_wp2_with fail;clear q0 hne;go_loopg [31] LN (fun z v31 wr=>∃j:Nat,j<=LN/\z=LN-j/\v31=.int .i64 (j:Int)/\Hid (Below W1.heap.size W1 wr))
  case atStart=>exact⟨0,by omega,rfl,rfl,HB9⟩
  case round =>
   obtain⟨j,hj,rfl,rfl,HB⟩:=hrel;obtain⟨W4,hW4⟩:=zx wr;rw[<-hW4] at HB ⊢;clear hW4;by_cases hlt:j<LN
   ·have hjl:j<l.length:=by rw[<-HLN.out.1];exact hlt
    obtain⟨b2,off2,hA1,hR2,hc2,hx2⟩:=HRR.out.at7 (k:=j) hjl;subst hA1;obtain⟨x,hx⟩:=zx (l[j]);rw[<-hx] at hc2 hx2;have hxr:=HNG.out x (by rw[hx];exact List.getElem_mem _);have e0:W4.cell? ⟨b2,off2+j,none⟩=some (.int .i64 x):=((HBW.out W4 HB.out).cell (p:=⟨b2,off2+j,none⟩) hR2).trans hc2;have e4:W4.cell? ⟨g0,4,none⟩=some (.slice Av NV cv):=(HSR.out W4 HB.out).2 4 _ rfl;have k1:decide (x < -1)=false:=decide_eq_false (by omega);have k2:decide ((NV:Int)<=x)=false:=decide_eq_false (by omega)
    have lj:(j:Int)<(LN:Int):=by omega
    have lq:(LN:Int)<=6:=by have:=HLN.out.2;omega
    clear hjl hx hxr hR2 hc2 hx2;go_wp2_with fail;clear e0 e4 k1 k2;go_roundg (LN-(j+1))
    case measure=>omega
    case rel=>exact⟨j+1,by omega,rfl,by go_num,HB⟩
   ·have hth:W4.there g1 0 3:=there_new (HV3.out W4 HB.out) (zR 3);have HTH:=zh hth;clear hth;go_upto_region 9 with fail;refine wp_region_lit ?_;refine wpList_plain rfl (fun K hK=>?_);go_simp;refine hK _ _ ?_;clear hK;(try simp only[Act.put,z1,z2,z3]);refine wpList_store_mid rfl 166 (.tmp 6) (.tmp 49) rfl g1 0 #[.int .i64 0,.int .i64 0,.int .i64 0] (by rfl) (by rfl) HTH.out size_vioL (by simp[Value.oneCell']) ?_;(try simp only[Act.put,z1,z2,z3]);have hgr:=World.rangeAt_setCells_same _ _ _ [.int .i64 0,.int .i64 0,.int .i64 0] HTH.out;have hbw:Below w.heap.size w (World.setCells W4 g1 0 [.int .i64 0,.int .i64 0,.int .i64 0]):=below_setCellsV HG1.out _ _ _ (HBW.out W4 HB.out);obtain⟨W15,hW15⟩:=zx (World.setCells W4 g1 0 [.int .i64 0,.int .i64 0,.int .i64 0]);rw[<-hW15] at hgr hbw ⊢;clear hW15;have HGR:=zh hgr;have HBZ:=zh hbw;clear hgr hbw;go_wp2_with fail;have hld:=run_loadVar_mid (P:=Tryz.prog) W15 g1 0 166 _ _ HGR.out Tryz.underlying166 rfl size_vioL;exact bodyPost_ret (v:=.tuple #[.agg #[.int .i64 0,.int .i64 0,.int .i64 0],.bool false]) (by simp[results,Tryz.results106,asAddr,hld]) rfl ⟨rfl,HBZ.out⟩
 exact zE
theorem tshaped_any(N:Nat)(hN:N<=12)(vl vm vd vv vp vo vL:Value)(F:FltM)(L:List (List Int))(w:World)(hf:FleetS w (Bl w.heap.size) vl vm vd vv vp vo F)(hok:FleetOk N F)(hl:SlS 1 RowIK w (Bl w.heap.size) vL L)(hlo:LayOk F F.vols.length L) :
  Calls Tryz.prog 48 #[.agg #[.int .i64 F.ext,vl,vm,vd,vv,vp,vo],vL] w fun e w'=>e=.returned (.bool true)/\Below w.heap.size w w':=by
 have HV:=zh (fun(w':World) (hb:Below w.heap.size w w')=>tvalid_any N hN _ _ _ _ _ _ F w' (hf.below hb) hok);have HSH:=zh (fun(v:Nat) (w':World) (hb:Below w.heap.size w w') (hv:v<F.vols.length)=>shape_any N hN _ _ _ _ _ _ vL F L v w' (hf.below hb) hok (SlS.below rowIK hl hb) hlo hv);obtain⟨Al,nl,cl,rfl⟩:=hf.1.form3;obtain⟨Am,nm,cm,rfl⟩:=hf.2.1.form3;obtain⟨Ad,nd,cd,rfl⟩:=hf.2.2.1.form3;obtain⟨Av,NV,cv,rfl⟩:=hf.2.2.2.1.form3;obtain⟨Ap,np,cp,rfl⟩:=hf.2.2.2.2.1.form3;obtain⟨Ao,co,hvo,-⟩:=hf.2.2.2.2.2.form;subst hvo;obtain⟨AL,cL,hvL,-,hmL⟩:=hl.form;subst hvL;unfold maxLen at hmL;rw[hlo.1] at HSH hmL ⊢;obtain⟨EX,hEX⟩:=zx F.ext;obtain⟨no,hNO⟩:=zx F.vols.length;rw[<-hEX,<-hNO] at HV HSH ⊢;rw[<-hNO] at hmL
 have hne:((no:Int) != (no:Int))=false:=by simp
 obtain⟨W1,hW1⟩:=zx (w.alloc (.cells #[.int .i64 EX,.slice Al nl cl,.slice Am nm cm,.slice Ad nd cd,.slice Av NV cv,.slice Ap np cp,.slice Ao no co] 35));obtain⟨g0,hg0⟩:=zx w.heap.size;have hk:=(boxed7 hW1).1;have hb1:=(boxed7 hW1).2;rw[<-hg0] at hk;have l0:=(zA.1 hk).1;have HK:=zh (show ∀w',Below W1.heap.size W1 w'->(w'.heap[g0]?=some (.cells #[.int .i64 EX,.slice Al nl cl,.slice Am nm cm,.slice Ad nd cd,.slice Av NV cv,.slice Ap np cp,.slice Ao no co] 35 (0,0))/\Below w.heap.size w w') from fun w' hb=>⟨(hb.block g0 l0).trans hk,hb1.trans (hb.mono hb1.size)⟩);have HW:=zh (And.intro hW1 hg0);have HM:=zh hmL;clear hf hok hl hlo hEX hNO hk hb1 hW1 hg0 l0;go_enter Tryz.func48,Tryz.ntmps48;go_upto_region 1 with fail;rw[<-HW.out.1,<-HW.out.2];obtain⟨c0,c1,c2,c3,c4,c5,c6⟩:=cells7 (HK.out W1 (zB _ _)).1;go_wp2_with fail;refine(HV.out W1 (HK.out W1 (zB _ _)).2).mono ?_;rintro e w2 ⟨rfl,hb2⟩;have HB2:=zh hb2;clear hb2 c0 c1 c2 c3 c4 c5 c6;obtain⟨c0,c1,c2,c3,c4,c5,c6⟩:=cells7 (HK.out w2 HB2.out).1;go_wp2_with fail;clear c0 c1 c2 c3 c4 c5 c6 hne;go_loopg [21] no (fun z v21 wr=>∃j:Nat,j<=no/\z=no-j/\v21=.int .i64 (j:Int)/\Hid (Below W1.heap.size W1 wr))
 case atStart=>exact⟨0,by omega,rfl,rfl,HB2⟩
 case round =>
  obtain⟨j,hj,rfl,rfl,HB⟩:=hrel;obtain⟨W4,hW4⟩:=zx wr;rw[<-hW4] at HB ⊢;clear hW4;by_cases hlt:j<no
  ·obtain⟨c0,c1,c2,c3,c4,c5,c6⟩:=cells7 (HK.out W4 HB.out).1;have HS:=zh (HSH.out j W4 (HK.out W4 HB.out).2 hlt)
   have lj:(j:Int)<(no:Int):=by omega
   go_wp2_with fail;refine HS.out.mono ?_;rintro e w5 ⟨rfl,hb5⟩;have HB5:=zh (HB.out.trans (hb5.mono HB.out.size));have HBX:=zh hb5;clear hb5 c0 c1 c2 c3 c4 c5 c6 HS;go_upto_region 7 with fail;obtain⟨W6,hW6⟩:=zx (w5.alloc (.cells #[.int .i64 0,.int .i64 0,.int .i64 0] 166))
   have hb6:Below w5.heap.size w5 W6:=by rw[hW6];exact(zB _ _).alloc (zR _) _
   rw[<-hW6];have HB6:=zh (HB5.out.trans (hb6.mono HB5.out.size));clear hW6 hb6;go_wp2_with fail;go_roundg (no-(j+1))
   case measure=>omega
   case rel=>exact⟨j+1,by omega,rfl,by go_num,HB6⟩
  ·go_wp2_with fail;go_ret;exact⟨rfl,(HK.out W4 HB.out).2⟩
theorem bad_any(ext:Int)(vl vm vd vv vp vo vr:Value)(NV:Nat)(l:List Int)(w:World)(hl1:∃A n c,vl=.slice A n c)(hm1:∃A n c,vm=.slice A n c)(hd1:∃A n c,vd=.slice A n c)(hv1:∃A c,vv=.slice A NV c)(hp1:∃A n c,vp=.slice A n c)(ho1:∃A n c,vo=.slice A n c)(hr:IntS w (Bl w.heap.size) vr l)(hrng:∀x∈l,-1<=x/\x<NV)(h6:l.length<=6) :
  Calls Tryz.prog 53 #[.agg #[.int .i64 ext,vl,vm,vd,vv,vp,vo],vr] w fun e w'=>e=.returned (.int .i64 (-1))/\Below w.heap.size w w':=by
 obtain⟨Al,nl,cl,rfl⟩:=hl1;obtain⟨Am,nm,cm,rfl⟩:=hm1;obtain⟨Ad,nd,cd,rfl⟩:=hd1;obtain⟨Av,cv,rfl⟩:=hv1;obtain⟨Ap,np,cp,rfl⟩:=hp1;obtain⟨Ao,no,co,rfl⟩:=ho1;obtain⟨A1,c1,rfl,-,hm⟩:=hr.form7;obtain⟨LN,hLN⟩:=zx l.length;obtain⟨EX,hEX⟩:=zx ext;rw[<-hLN] at h6 ⊢;rw[<-hEX];obtain⟨W1,hW1⟩:=zx (w.alloc (.cells #[.int .i64 EX,.slice Al nl cl,.slice Am nm cm,.slice Ad nd cd,.slice Av NV cv,.slice Ap np cp,.slice Ao no co] 35));obtain⟨g0,hg0⟩:=zx w.heap.size;have hk:=(boxed7 hW1).1;have hb1:=(boxed7 hW1).2;rw[<-hg0] at hk;have l0:=(zA.1 hk).1;have HK:=zh (show ∀w',Below W1.heap.size W1 w'->(w'.heap[g0]?=some (.cells #[.int .i64 EX,.slice Al nl cl,.slice Am nm cm,.slice Ad nd cd,.slice Av NV cv,.slice Ap np cp,.slice Ao no co] 35 (0,0))/\Below w.heap.size w w') from fun w' hb=>⟨(hb.block g0 l0).trans hk,hb1.trans (hb.mono hb1.size)⟩);have HW:=zh (And.intro hW1 hg0);have HR:=zh hr;have HNG:=zh hrng;have HLN:=zh hLN
 have l6:(LN:Int)<=6:=by omega
 clear hr hrng hm hLN hEX hW1 hg0 hk hb1 l0 h6;go_enter Tryz.func53,Tryz.ntmps53;go_upto_region 1 with fail;rw[<-HW.out.1,<-HW.out.2];go_wp2_with fail;go_loopg [5] LN (fun z v5 wr=>∃j:Nat,j<=LN/\z=LN-j/\v5=.int .i64 (j:Int)/\Hid (Below W1.heap.size W1 wr))
 case atStart=>exact⟨0,by omega,rfl,rfl,zh (zB _ _)⟩
 case round =>
  obtain⟨j,hj,rfl,rfl,HB⟩:=hrel;obtain⟨W4,hW4⟩:=zx wr;rw[<-hW4] at HB ⊢;clear hW4;by_cases hlt:j<LN
  ·have hjl:j<l.length:=by rw[<-HLN.out];exact hlt
   obtain⟨b2,off2,hA1,hR2,hc2,hx2⟩:=HR.out.at7 (k:=j) hjl;subst hA1;obtain⟨x,hx⟩:=zx (l[j]);rw[<-hx] at hc2 hx2;have hxr:=HNG.out x (by rw[hx];exact List.getElem_mem _);have e0:W4.cell? ⟨b2,off2+j,none⟩=some (.int .i64 x):=((HK.out W4 HB.out).2.cell (p:=⟨b2,off2+j,none⟩) hR2).trans hc2;obtain⟨c0,c1,c2,c3,c4,c5,c6⟩:=cells7 (HK.out W4 HB.out).1;have k1:decide (x < -1)=false:=decide_eq_false (by omega);have k2:decide ((NV:Int)<=x)=false:=decide_eq_false (by omega)
   have lj:(j:Int)<(LN:Int):=by omega
   clear hjl hx hxr hR2 hc2 hx2;go_upto_region 4 with fail
   go_quiet (fail)
   go_wp2_with fail;clear e0 c0 c1 c2 c3 c4 c5 c6 k1 k2;go_roundg (LN-(j+1))
   case measure=>omega
   case rel=>exact⟨j+1,by omega,rfl,by go_num,by first | exact zh HB.out.drew | exact zh (Below.drewN' HB.out _)⟩
  ·go_wp2_with fail;go_ret;exact⟨rfl,(HK.out W4 HB.out).2⟩
theorem rshaped_any(N:Nat)(hN:N<=12)(vl vm vd vv vp vo vL:Value)(F:FltM)(L:List (List Int))(w:World)(hf:FleetS w (Bl w.heap.size) vl vm vd vv vp vo F)(hok:FleetOk N F)(hl:SlS 1 RowIK w (Bl w.heap.size) vL L)(hlo:LayOk F F.vols.length L) :
  Calls Tryz.prog 21 #[.agg #[.int .i64 F.ext,vl,vm,vd,vv,vp,vo],vL] w fun e w'=>e=.returned (.bool true)/\Below w.heap.size w w':=by
 have HV:=zh (fun(w':World) (hb:Below w.heap.size w w')=>rvalidf_any N hN _ _ _ _ _ _ F w' (hf.below hb) hok);have HF:=zh hf;have HLS:=zh hl;have HLO:=zh hlo;have HOK:=zh hok;have HFR:=zh (fun(v:Nat) (w':World) (hb:Below w.heap.size w w') (hv:v<F.vols.length)=>rfragments_any N hN _ _ _ _ _ _ F v w' (hf.below hb) hok hv);have HBA:=zh (fun(vr:Value) (l:List Int) (w':World) (hb:Below w.heap.size w w') (hr:IntS w' (Bl w'.heap.size) vr l) (hrng:∀x∈l,-1<=x/\x<(F.dves.length:Int)) (h6:l.length<=6)=>bad_any F.ext vl vm vd vv vp vo vr F.dves.length l w' hf.1.form3 hf.2.1.form3 hf.2.2.1.form3 (by obtain⟨A,c,e,-⟩:=hf.2.2.2.1.form;exact⟨A,c,e⟩) hf.2.2.2.2.1.form3 hf.2.2.2.2.2.form3 hr hrng h6);obtain⟨Al,nl,cl,rfl⟩:=hf.1.form3;obtain⟨Am,nm,cm,rfl⟩:=hf.2.1.form3;obtain⟨Ad,nd,cd,rfl⟩:=hf.2.2.1.form3;obtain⟨Av,NV,cv,rfl⟩:=hf.2.2.2.1.form3;obtain⟨Ap,np,cp,rfl⟩:=hf.2.2.2.2.1.form3;obtain⟨Ao,co,hvo,-⟩:=hf.2.2.2.2.2.form;subst hvo;obtain⟨AL,cL,hvL,-,hmL⟩:=hl.form;subst hvL;unfold maxLen at hmL;rw[hlo.1] at HLS hmL ⊢;obtain⟨EX,hEX⟩:=zx F.ext;obtain⟨no,hNO⟩:=zx F.vols.length;rw[<-hEX,<-hNO] at HV HFR ⊢;rw[<-hEX] at HBA;rw[<-hNO] at hmL HLS HBA HLO
 have hne:((no:Int) != (no:Int))=false:=by simp
 obtain⟨W1,hW1⟩:=zx (w.alloc (.cells #[.int .i64 EX,.slice Al nl cl,.slice Am nm cm,.slice Ad nd cd,.slice Av NV cv,.slice Ap np cp,.slice Ao no co] 35));obtain⟨g0,hg0⟩:=zx w.heap.size;have hk:=(boxed7 hW1).1;have hb1:=(boxed7 hW1).2;rw[<-hg0] at hk;have l0:=(zA.1 hk).1;have HK:=zh (show ∀w',Below W1.heap.size W1 w'->(w'.heap[g0]?=some (.cells #[.int .i64 EX,.slice Al nl cl,.slice Am nm cm,.slice Ad nd cd,.slice Av NV cv,.slice Ap np cp,.slice Ao no co] 35 (0,0))/\Below w.heap.size w w') from fun w' hb=>⟨(hb.block g0 l0).trans hk,hb1.trans (hb.mono hb1.size)⟩);have HW:=zh (And.intro hW1 hg0);have HNO:=zh hNO;clear hf hok hl hlo hEX hNO hk hb1 hW1 hg0 l0;go_enter Tryz.func21,Tryz.ntmps21;go_upto_region 1 with fail;rw[<-HW.out.1,<-HW.out.2];obtain⟨c0,c1,c2,c3,c4,c5,c6⟩:=cells7 (HK.out W1 (zB _ _)).1;go_wp2_with fail;refine(HV.out W1 (HK.out W1 (zB _ _)).2).mono ?_;rintro e w2 ⟨rfl,hb2⟩;have HB2:=zh hb2;clear hb2 c0 c1 c2 c3 c4 c5 c6;obtain⟨c0,c1,c2,c3,c4,c5,c6⟩:=cells7 (HK.out w2 HB2.out).1;go_wp2_with fail;clear c0 c1 c2 c3 c4 c5 c6 hne;go_loopg [5] no (fun z v5 wr=>∃j:Nat,j<=no/\z=no-j/\v5=.int .i64 (j:Int)/\Hid (Below W1.heap.size W1 wr))
 case atStart=>exact⟨0,by omega,rfl,rfl,HB2⟩
 case round =>
  obtain⟨j,hj,rfl,rfl,HB⟩:=hrel;obtain⟨W4,hW4⟩:=zx wr;rw[<-hW4] at HB ⊢;clear hW4;by_cases hlt:j<no
  ·have hjl:j<L.length:=by rw[HLO.out.1];exact hlt
   obtain⟨b,off,cs,hAe,hR,-,hc,hcs⟩:=HLS.out.at_ (k:=j) hjl;obtain⟨l,hll⟩:∃l,L[j]?=some l:=⟨_,zG hjl⟩;rw[(zL.1 hll).2] at hcs;obtain⟨vr,rfl,hr⟩:=hcs;subst hAe;obtain⟨hlen,hrng⟩:=HLO.out.2 j l hll;have hsz:=szN_range HOK.out (v:=j) (by rw[<-HNO.out];exact hlt);have HBAD:=zh (fun(w':World) (hb:Below w.heap.size w w')=>HBA.out vr l w' hb ((hr.keep (fun b hb'=>hb.block b hb')).mono (fun b hb'=>zM hb' hb.size)) hrng (by omega));have HFG:=zh (fun(w':World) (hb:Below w.heap.size w w')=>HFR.out j w' hb hlt);obtain⟨A1,c1,hv1,-,hm1⟩:=hr.form7;subst hv1;obtain⟨LN,hLN⟩:=zx l.length;rw[<-hlen,<-hLN] at HFG;rw[<-hLN] at hc HBAD
   have f0:w.cell? ⟨b,off+j,none⟩=some (.slice A1 LN c1):=by have:=hc 0 _ rfl;simpa using this
   have HSR:=zh (show ∀w',Below W1.heap.size W1 w'->(w'.cell? ⟨b,off+j,none⟩=some (.slice A1 LN c1)/\w'.rangeAt g0 0 [.int .i64 EX,.slice Al nl cl,.slice Am nm cm,.slice Ad nd cd,.slice Av NV cv,.slice Ap np cp,.slice Ao no co]) from fun w' hb=>⟨((HK.out w' hb).2.cell (p:=⟨b,off+j,none⟩) hR).trans f0,fun i u hu=>by rw[cell_of_row _ _ _ _ _ _ (HK.out w' hb).1,Nat.zero_add,<-Array.getElem?_toList];exact hu⟩)
   have hne:((LN:Int) != (LN:Int))=false:=by simp
   have lj:(j:Int)<(no:Int):=by omega
   clear hjl hR hc hll hr hlen hrng hsz hm1 hLN f0;go_upto_region 6 with fail;refine region_tail (S:=(fun w'=>w'.cell? ⟨b,off+j,none⟩=some (.slice A1 LN c1)/\w'.rangeAt g0 0 [.int .i64 EX,.slice Al nl cl,.slice Am nm cm,.slice Ad nd cd,.slice Av NV cv,.slice Ap np cp,.slice Ao no co])) [] (by kernel_rfl) (HSR.out _ HB.out.drew) (fun hHeld=>?_);refine tk 0 23 ?_;refine tk 1 24 ?_;refine tk 2 25 ?_;refine tk 3 26 ?_;refine tk 4 27 ?_;refine takeT (i:=5) (d:=28) (v:=(.agg #[.int .i64 EX,.slice Al nl cl,.slice Am nm cm,.slice Ad nd cd,.slice Av NV cv,.slice Ap np cp,.slice Ao no co])) rfl rfl (by kernel_rfl) (by kernel_rfl) (by kernel_rfl) (by kernel_rfl) (fun _ _ _ h=>h) (yieldsIf_load_mid (by rfl) 35 (.tmp 2) rfl g0 0 (by rfl) [.int .i64 EX,.slice Al nl cl,.slice Am nm cm,.slice Ad nd cd,.slice Av NV cv,.slice Ap np cp,.slice Ao no co] _ (fun w hw=>hw.2) Tryz.underlying35 rfl size_fltL) (by assumption) ?_;(try simp only[Act.put,z1,z2,z3]);refine tk 6 29 ?_;refine readyT (rs:=[7]) (by kernel_rfl) (by simp) ?_;refine zC rfl (fun K hK=>?_) ?_
   ·go_simp;(go_at_call 52;refine(HFG.out _ (HK.out _ HB.out.drew).2).mono ?_;rintro e w9 ⟨rfl,hb9⟩;have HB9:=zh (show Below W1.heap.size W1 w9 from HB.out.drew.trans (hb9.mono HB.out.drew.size));clear hb9);go_wp2_with fail;refine hK.out _ _ ?_ (fun hHeld=>?_)
    ·exact HSR.out _ HB9.out
    clear hK K;(try simp only[Act.put,z1,z2,z3]);refine tk 8 31 ?_;refine tk 9 32 ?_;refine takeT (i:=10) (d:=33) (v:=(.agg #[.int .i64 EX,.slice Al nl cl,.slice Am nm cm,.slice Ad nd cd,.slice Av NV cv,.slice Ap np cp,.slice Ao no co])) rfl rfl (by kernel_rfl) (by kernel_rfl) (by kernel_rfl) (by kernel_rfl) (fun _ _ _ h=>h) (yieldsIf_load_mid (by rfl) 35 (.tmp 2) rfl g0 0 (by rfl) [.int .i64 EX,.slice Al nl cl,.slice Am nm cm,.slice Ad nd cd,.slice Av NV cv,.slice Ap np cp,.slice Ao no co] _ (fun w hw=>hw.2) Tryz.underlying35 rfl size_fltL) (by assumption) ?_;(try simp only[Act.put,z1,z2,z3]);refine tk 11 34 ?_;refine tk 12 35 ?_;refine tk 13 36 ?_;refine tk 14 37 ?_;refine readyT (rs:=[15]) (by kernel_rfl) (by simp) ?_;refine zC rfl (fun K hK=>?_) ?_
    ·go_simp;(go_at_call 53;refine(HBAD.out _ (HK.out _ HB9.out).2).mono ?_;rintro e w10 ⟨rfl,hb10⟩;have HB10:=zh (show Below W1.heap.size W1 w10 from HB9.out.trans (hb10.mono HB9.out.size));clear hb10);go_wp2_with fail;refine hK.out _ _ ?_ (fun hHeld=>?_)
     ·exact HSR.out _ HB10.out
     clear hK K;(try simp only[Act.put,z1,z2,z3]);refine tk 16 39 ?_;refine tk 17 40 ?_;refine doneT (by kernel_rfl) ?_ _;clear hHeld;go_wp2_with fail;go_roundg (no-(j+1))
     case measure=>omega
     case rel=>exact⟨j+1,by omega,rfl,by go_num,HB10⟩
    exact zE
   exact zE
  ·go_wp2_with fail;go_ret;exact⟨rfl,(HK.out W4 HB.out).2⟩
structure GridA (w:World) (g n B:Nat) (vs:List Value) (L:List (List Int)):Prop where
 len:vs.length=L.length
 room:L.length<=n
 most:n<=maxLen
 low:g<B
 outer:∃cs:Array Value,w.heap[g]?=some (.cells cs 22 (0,0))/\cs.size=n/\∀(k:Nat) v,vs[k]?=some v->cs[k]?=some v
 own:∀(k:Nat) v l,vs[k]?=some v->L[k]?=some l->w.ownsRow B 3 1 v l.length (l.map (Value.int .i64))
 apart:∀(i j:Nat) vi vj,i≠j->vs[i]?=some vi->vs[j]?=some vj->∀b,vi.ownBlock=some b->vj.ownBlock≠some b
section
variable {w : World} {g n B : Nat} {vs : List Value} {L : List (List Int)}
theorem GridA.lt(h:GridA w g n B vs L):g<w.heap.size:=by
 obtain⟨cs,h1,-⟩:=h.outer;exact(zA.1 h1).1
theorem GridA.below(h:GridA w g n B vs L){w':World}(hb:Below w.heap.size w w'):GridA w' g n B vs L:=by
 have hl:=h.lt;obtain⟨cs,h1,h2,h3⟩:=h.outer;exact⟨h.len,h.room,h.most,h.low,⟨cs,(hb.block g hl).trans h1,h2,h3⟩,fun k v l hv hl=>own_below (h.own k v l hv hl) hb,h.apart⟩
theorem GridA.cell(h:GridA w g n B vs L){k:Nat}{v:Value}(hv:vs[k]?=some v):w.cell? ⟨g,k,none⟩=some v/\w.frozen? ⟨g,k,none⟩=false:=by
 obtain⟨cs,h1,h2,h3⟩:=h.outer;exact⟨by rw[cell_of_row _ _ _ _ _ _ h1];exact h3 k v hv,frozen_of_row _ _ _ _ _ h1⟩
theorem GridA.there(h:GridA w g n B vs L){k:Nat}(hk:k<n):(w.cell? ⟨g,k,none⟩).isSome=true/\w.frozen? ⟨g,k,none⟩=false:=by
 obtain⟨cs,h1,h2,h3⟩:=h.outer;exact⟨by rw[cell_of_row _ _ _ _ _ _ h1,Array.getElem?_eq_getElem (by omega)];rfl,frozen_of_row _ _ _ _ _ h1⟩
theorem GridA.at_(h:GridA w g n B vs L){k:Nat}{l:List Int}(hl:L[k]?=some l):∃v,vs[k]?=some v/\w.ownsRow B 3 1 v l.length (l.map (Value.int .i64)):=by
 have hk:=(zL.1 hl).1;obtain⟨v,hv⟩:∃v,vs[k]?=some v:=⟨_,zG (by rw[h.len];exact hk)⟩;exact⟨_,hv,h.own k _ l hv hl⟩
theorem GridA.push(h:GridA w g n B vs L){v:Value}{l:List Int}(hr:L.length<n)(ho:w.ownsRow B 3 1 v l.length (l.map (Value.int .i64)))(hnew:∀(k:Nat) u,vs[k]?=some u->∀b,u.ownBlock=some b->v.ownBlock≠some b):GridA (w.setCell ⟨g,L.length,none⟩ v) g n B (vs++[v]) (L++[l]):=by
 obtain⟨cs,h1,h2,h3⟩:=h.outer;have hl:=h.lt;have hlow:=h.low
 have hat:∀{k:Nat} {u:Value},(vs++[v])[k]?=some u->(vs[k]?=some u/\k<vs.length)\/(k=vs.length/\u=v):=fun {k u} hu=>by
  rcases Nat.lt_or_ge k vs.length with hk | hk
  ·rw[List.getElem?_append_left hk] at hu;exact .inl ⟨hu,hk⟩
  ·have hk2:k=vs.length:=by
    have:=(zL.1 hu).1;simp at this;omega
   subst hk2;rw[List.getElem?_append_right (zR _),Nat.sub_self] at hu;simp at hu;exact .inr ⟨rfl,hu.symm⟩
 have hown:∀u (m:Nat) xs,w.ownsRow B 3 1 u m xs->(w.setCell ⟨g,L.length,none⟩ v).ownsRow B 3 1 u m xs:=fun u m xs hu=>ownsRow_setCell_below hu hlow _
 refine⟨by simp[h.len],by simp;omega,h.most,hlow,⟨cs.setIfInBounds L.length v,heap_setCell_same w g L.length cs _ v h1,by simp[h2],fun k u hu=>?_⟩,fun k u m hu hm=>?_,fun i j vi vj hij hi hj b hb=>?_⟩
 ·rcases hat hu with ⟨hu,hk⟩ | ⟨rfl,rfl⟩
  ·rw[Array.getElem?_setIfInBounds,if_neg (by rw[<-h.len];omega)];exact h3 k u hu
  ·rw[h.len,Array.getElem?_setIfInBounds,if_pos rfl,if_pos (by omega)]
 ·rcases hat hu with ⟨hu,hk⟩ | ⟨rfl,rfl⟩
  ·rw[List.getElem?_append_left (by rw[<-h.len];exact hk)] at hm;exact hown _ _ _ (h.own k u m hu hm)
  ·rw[h.len,List.getElem?_append_right (zR _),Nat.sub_self] at hm;simp at hm;subst hm;exact hown _ _ _ ho
 ·rcases hat hi with ⟨hi',hik⟩ | ⟨hie,hiv⟩
  ·rcases hat hj with ⟨hj',hjk⟩ | ⟨hje,hjv⟩
   ·exact h.apart i j vi vj hij hi' hj' b hb
   ·rw[hjv];exact hnew i vi hi' b hb
  ·rcases hat hj with ⟨hj',hjk⟩ | ⟨hje,hjv⟩
   ·rw[hiv] at hb;intro e;exact hnew j vj hj' b e hb
   ·exact absurd (hie.trans hje.symm) hij
theorem GridA.app(h:GridA w g n B vs L){k:Nat}{v v':Value}{l l':List Int}(hv:vs[k]?=some v)(hl:L[k]?=some l){w':World}(hg:w.grownBy w' v.ownBlock)(ho:w'.ownsRow B 3 1 v' l'.length (l'.map (Value.int .i64)))(hat:v'.ownBlock=v.ownBlock\/v'.ownBlock=some w.heap.size)(hne:∀b,v.ownBlock=some b->B<=b) :
  GridA (w'.setCell ⟨g,k,none⟩ v') g n B (vs.set k v') (L.set k l'):=by
 obtain⟨cs,h1,h2,h3⟩:=h.outer;have hlow:=h.low;have hgl:=h.lt;have hk:=(zL.1 hl).1;have hkv:=(zL.1 hv).1;have hg1:w'.heap[g]?=some (.cells cs 22 (0,0)):=(hg.block g hgl (fun e=>by have:=hne g e.symm;omega)).trans h1
 have hown:∀u (m:Nat) xs,w'.ownsRow B 3 1 u m xs->(w'.setCell ⟨g,k,none⟩ v').ownsRow B 3 1 u m xs:=fun u m xs hu=>ownsRow_setCell_below hu hlow _
 refine⟨by simp[h.len],by simp;exact h.room,h.most,hlow,⟨cs.setIfInBounds k v',heap_setCell_same w' g k cs _ v' hg1,by simp[h2],fun i u hu=>?_⟩,fun i u m hu hm=>?_,fun i j vi vj hij hi hj b hb=>?_⟩
 ·by_cases hik:k=i
  ·subst hik;rw[List.getElem?_set_self hkv] at hu;injection hu with hu;subst hu;rw[Array.getElem?_setIfInBounds,if_pos rfl,if_pos (by have:=h.room;omega)]
  ·rw[List.getElem?_set_ne hik] at hu;rw[Array.getElem?_setIfInBounds,if_neg hik];exact h3 i u hu
 ·by_cases hik:k=i
  ·subst hik;rw[List.getElem?_set_self hkv] at hu;rw[List.getElem?_set_self hk] at hm;injection hu with hu;injection hm with hm;subst hu hm;exact hown _ _ _ ho
  ·rw[List.getElem?_set_ne hik] at hu hm;refine hown _ _ _ ((h.own i u m hu hm).kept hg ?_)
   cases hb:u.ownBlock with
   | none=>exact .inl rfl
   | some b=>exact .inr (fun e=>h.apart i k u v (fun e2=>hik e2.symm) hu hv b hb e.symm)
 ·have hlt:∀(i:Nat) u,vs[i]?=some u->∀b,u.ownBlock=some b->b<w.heap.size:=fun i u hu b hb=>by
   have hi:=(zL.1 hu).1;obtain⟨m,hm⟩:∃m,L[i]?=some m:=⟨_,zG (by rw[<-h.len];exact hi)⟩;exact((h.own i u m hu hm).lt b hb).2
  by_cases hik:k=i
  ·subst hik;rw[List.getElem?_set_self hkv] at hi;injection hi with hi;subst hi;rw[List.getElem?_set_ne hij] at hj;rcases hat with e | e
   ·rw[e] at hb;exact h.apart k j v vj hij hv hj b hb
   ·rw[e] at hb;injection hb with hb;subst hb;intro e2;exact absurd (hlt j vj hj _ e2) (Nat.lt_irrefl _)
  ·rw[List.getElem?_set_ne hik] at hi;by_cases hjk:k=j
   ·subst hjk;rw[List.getElem?_set_self hkv] at hj;injection hj with hj;subst hj;rcases hat with e | e
    ·rw[e];exact h.apart i k vi v hij hi hv b hb
    ·rw[e];intro e2;injection e2 with e2;subst e2;exact absurd (hlt i vi hi _ hb) (Nat.lt_irrefl _)
   ·rw[List.getElem?_set_ne hjk] at hj;exact h.apart i j vi vj hij hi hj b hb
theorem GridA.slS(h:GridA w g n B vs L)(hx:∀l∈L,∀x∈l,I64 x){R:Nat->Prop}(hR:∀b,g<=b->b<w.heap.size->R b):SlS 1 RowIK w R (.slice (some ⟨g,0,none⟩) L.length n) L:=by
 refine⟨_,n,rfl,h.room,Nat.le_trans h.room h.most,fun _=>⟨g,0,rfl,hR g (zR _) h.lt,fun k l hl=>?_⟩⟩;obtain⟨v,hv,ho⟩:=h.at_ hl;refine⟨[v],rfl,fun i u hu=>?_,v,rfl,IntS.own ho (fun b hb=>hR b (by have:=(ho.lt b hb).1;have:=h.low;omega) (ho.lt b hb).2) (hx l (List.mem_of_getElem? hl))⟩
 cases i with
 | zero =>
  simp at hu;subst hu
  simpa using (h.cell hv).1
 | succ i=>simp at hu
end
theorem mk_rowsL(n:Nat)(hn:n<=1000):∃cs:Array Value,cs.size=n/\∀w:World,(Instr.makeSlice 36 (.int .i64 (n:Int)) (.int .i64 (n:Int))).run Tryz.prog w=.ok (.slice (some ⟨w.heap.size,0,none⟩) n n) (w.alloc (.cells cs 22)):=by
 obtain⟨i0,hi0,hz0,hz1,hz2⟩:=info_parts info_ints;refine⟨madeCells (Value.slice none 0 0).cells (n*1),by simpa using size_madeCells (Value.slice none 0 0).cells (n*1),fun w=>?_⟩;have h:=run_make (P:=Tryz.prog) w 36 22 i0 _ Tryz.underlying36 hi0 hz0 .i64 .i64 (n:Int) (n:Int) (by omega) (by omega) (by rw[hz2];omega) (by omega);rw[hz1] at h
 simpa using h
theorem take_pushL{α:Type}{L:List α}{j:Nat}{x:α}(h:L[j]?=some x):L.take (j+1)=L.take j++[x]:=by
 obtain⟨hj,e⟩:=zL.1 h;rw[List.take_succ_eq_append_getElem hj,e]
theorem prows_any(v:Value)(L:List (List Int))(w:World)(h:SlS 1 RowIK w (Bl w.heap.size) v L)(hn:L.length<=1000)(hrow:∀l∈L,0<l.length/\l.length<=1000) :
  Calls Tryz.prog 49 #[v] w fun e w'=>∃g B vs,e=.returned (.slice (some ⟨g,0,none⟩) L.length L.length)/\w.heap.size<=g/\GridA w' g L.length B vs L/\Below w.heap.size w w':=by
 obtain⟨A,c,rfl,-,hm⟩:=h.form;obtain⟨LN,hL⟩:=zx L.length;obtain⟨cs0,hz0,hmk⟩:=mk_rowsL LN (by omega);obtain⟨W0,hW0⟩:=zx (w.alloc (.cells cs0 22));obtain⟨g,hg⟩:=zx w.heap.size;rw[<-hL] at hn hm ⊢
 have hb0:Below w.heap.size w W0:=by rw[hW0];exact(zB _ _).alloc (zR _) _
 have hgk:W0.heap[g]?=some (.cells cs0 22 (0,0)):=by rw[hW0,hg];exact zN _ _
 obtain⟨B,hB⟩:=zx W0.heap.size
 have hgB:g<B:=by rw[hB];exact(zA.1 hgk).1
 have HG0:=zh (show GridA W0 g LN B [] [] from⟨rfl,by simp,by unfold maxLen;omega,hgB,⟨cs0,hgk,hz0,fun k v h=>by simp at h⟩,fun k v l h=>by simp at h,fun i j vi vj _ h=>by simp at h⟩);have HB0:=zh hb0;have HS:=zh h;have HRW:=zh hrow;have HL:=zh hL;have HW0:=zh hW0;have HG:=zh (show g=w.heap.size/\g<B/\B=W0.heap.size from⟨hg,hgB,hB⟩);clear h hrow hL hW0 hg hb0 hgk hz0 hgB hB;go_enter Tryz.func49,Tryz.ntmps49;go_wp2_with fail;clear hmk;rw[<-HW0.out,<-HG.out.1];go_loopg [11] LN (fun z v11 wr=>∃(j:Nat) (vs:List Value),j<=LN/\z=LN-j/\v11=.int .i64 (j:Int)/\Hid (Below w.heap.size w wr)/\Hid (B<=wr.heap.size/\GridA wr g LN B vs (L.take j)))
 case atStart=>exact⟨0,[],by omega,rfl,rfl,HB0,zh ⟨by rw[HG.out.2.2];exact zR _,HG0.out⟩⟩
 case round =>
  obtain⟨j,vs,hj,rfl,rfl,HB,HGR⟩:=hrel;obtain⟨W1,hW1⟩:=zx wr;rw[<-hW1] at HB HGR ⊢;clear hW1;by_cases hlt:j<LN
  ·have hjl:j<L.length:=by rw[<-HL.out];exact hlt
   obtain⟨b,off,cs,hAe,hR,hcl,hc,hK⟩:=HS.out.at_ (k:=j) hjl;obtain⟨l,hl⟩:∃l,L[j]?=some l:=⟨_,zG hjl⟩;rw[(zL.1 hl).2] at hK;obtain⟨vr,rfl,hr⟩:=hK;subst hAe;have hrl:=HRW.out l (List.mem_of_getElem? hl);have HCL:=zh (clone_int vr l W1 (Bl w.heap.size) (hr.keep (fun b hb=>HB.out.block b hb)) hrl.1 (by omega))
   obtain⟨A1,n1,c1,rfl⟩:∃A n c,vr=.slice A n c:=by obtain⟨A,c,e,-⟩:=hr.1;exact⟨A,_,c,e⟩
   have e0:W1.cell? ⟨b,off+j,none⟩=some (.slice A1 n1 c1):=(HB.out.cell (p:=⟨b,off+j,none⟩) hR).trans (by have:=hc 0 _ rfl;simpa using this)
   have lj:(j:Int)<(LN:Int):=by omega
   have ln:(LN:Int)<=1000:=by omega
   have HX:=zh hl
   have htl:(L.take j).length=j:=by rw[List.length_take];omega
   have HTL:=zh htl;clear hjl hR hcl hc hl hr hrl htl;go_wp2_with fail;refine HCL.out.mono ?_;rintro e w2 ⟨v2,rfl,ho2,hb2⟩;obtain⟨A2,c2,rfl⟩:=own_form ho2;obtain⟨NL,hNL⟩:=zx l.length;have hgr2:=HGR.out.2.below hb2
   have hpush:=hgr2.push (l:=l) (v:=.slice A2 l.length c2) (by rw[HTL.out];exact hlt) (own_base ho2 HGR.out.1) (fun k u hu b hb e=>by
    have h1:=ho2.lt b e;have hk:=(zL.1 hu).1;obtain⟨m,hm⟩:∃m,(L.take j)[k]?=some m:=⟨_,zG (by rw[<-HGR.out.2.len];exact hk)⟩;have h2:=(HGR.out.2.own k u m hu hm).lt b hb
    omega)
   rw[HTL.out,<-take_pushL HX.out] at hpush;have hth:=hgr2.there hlt;rw[<-hNL] at hpush ⊢;have hbl:g<w2.heap.size:=hgr2.lt;have HP:=zh (show B<=(w2.setCell ⟨g,j,none⟩ (.slice A2 NL c2)).heap.size/\GridA (w2.setCell ⟨g,j,none⟩ (.slice A2 NL c2)) g LN B (vs++[.slice A2 NL c2]) (L.take (j+1)) from⟨by simp;exact Nat.le_trans HGR.out.1 hb2.size,hpush⟩);have HB3:=zh (show Below w.heap.size w (w2.setCell ⟨g,j,none⟩ (.slice A2 NL c2)) from(HB.out.trans (hb2.mono HB.out.size)).setCell (show w.heap.size<=g by have:=HG.out.1;omega) _);obtain⟨x1,hx1⟩:=Option.isSome_iff_exists.1 hth.1;have z1:=hth.2;clear ho2 hb2 hgr2 hpush hth hbl e0 hNL HCL;go_wp2_with fail;go_roundg (LN-(j+1))
   case measure=>omega
   case rel=>exact⟨j+1,_,by omega,rfl,by go_num,HB3,HP⟩
  ·have HJE:=zh (show j=LN by omega);go_wp2_with fail;go_ret;have hgr:=HGR.out.2;rw[HJE.out,HL.out,List.take_length,<-HL.out] at hgr;exact⟨g,B,vs,rfl,by have:=HG.out.1;omega,hgr,HB.out⟩
end Go.Proofs.YtgfaieppacabjaaGreat
