/- Parts. -/
import Derived.Test.YtgfaieppacabjaaGreatMq21
set_option linter.unusedSectionVars false
set_option maxRecDepth 100000
set_option maxHeartbeats 12800000
set_option linter.unusedVariables false
set_option linter.unusedSimpArgs false
namespace Go.Proofs.YtgfaieppacabjaaGreat
open Go.RowKit
theorem code_no(k m:Int)(w:World)(h1:1<=k)(h2:k<=6)(h3:0<=m)(h4:4<m) :
  Calls Tryz.prog 32 #[.int .i64 k,.int .i64 m] w fun e w'=>e=.returned (.bool false)/\w=w':=by
 have q1:decide (1<=k)=true:=decide_eq_true h1;have q2:decide (k<=6)=true:=decide_eq_true h2;have q3:decide (0<=m)=true:=decide_eq_true h3;have q4:decide (m<=4)=false:=decide_eq_false (by omega);clear h1 h2 h3 h4;go_enter Tryz.func32,Tryz.ntmps32;go_wp2_with fail;go_ret;exact⟨rfl,rfl⟩
theorem new3{w W:World}{a b c:Value}{t:TypeId}(h:W=w.alloc (.cells #[a,b,c] t)):W.heap[w.heap.size]?=some (.cells #[a,b,c] t (0,0))/\Below w.heap.size w W:=by
 subst h;exact⟨zN _ _,(zB _ _).alloc (zR _) _⟩
theorem ls_one{w:World}{R:Nat->Prop}{v:Value}{n:Nat}(h:LS w R v (natL n))(h0:0<n):∃A c,v=.slice A 1 c:=by
 obtain⟨A,c,e,-⟩:=h.form;rw[natL_pos h0] at e;exact⟨A,c,e⟩
theorem rangeAt_setCell{w:World}{a m g o:Nat}{xs:List Value}{u:Value}(h:w.rangeAt a m xs)(ha:a≠g):(w.setCell ⟨g,o,none⟩ u).rangeAt a m xs:=World.rangeAt_setCells_apart h g o [u] (.inl ha)
theorem rangeAt_drew{w:World}{a m:Nat}{xs:List Value}(h:w.rangeAt a m xs):w.drew.rangeAt a m xs:=h
theorem there_drew{w:World}{a m n:Nat}(h:w.there a m n):w.drew.there a m n:=h
theorem there_setCell{w:World}{a m n g o:Nat}{u:Value}(h:w.there a m n):(w.setCell ⟨g,o,none⟩ u).there a m n:=World.there_setCells h g o [u]
theorem info_fracG:(Tryz.prog.info? 26).map (fun i=>(i.zero,i.size,i.bytes))=some (some (.agg #[.bool false,.slice none 0 0,.slice none 0 0]),3,56):=by kernel_rfl
theorem own_new{α:Type}{size:Nat}{K:World->(Nat->Prop)->List Value->α->Prop}{w:World}{base:Nat}{e:TypeId}{v:Value}{n:Nat}{xs:List Value}(h:w.ownsRow base e size v n xs)(h0:0<n):∃q c,v=.slice (some ⟨q,0,none⟩) n c/\base<=q:=by
 rcases h.2 with ⟨-,h3⟩ | ⟨g,cap,cur,e1,e2,-⟩
 ·omega
 ·exact⟨g,cap,e1,e2⟩
theorem app_rep(w:World)(ty:TypeId)(B L q n c gn:Nat)(l:List Frc)(x:Frc)(un ud:Value)(h:OwnK 3 FrcK w B 26 (.slice (some ⟨q,0,none⟩) n c) l (Fz B w.heap.size (.slice (some ⟨q,0,none⟩) n c)))(hn:l.length=n)(hB:B<=L)(hL:L<=w.heap.size)(hcase:L<=q\/c=n)
  (hc:w.rangeAt gn 0 [.bool x.neg,un,ud]) (h1:LS w (Fz B w.heap.size (.slice (some ⟨q,0,none⟩) n c)) un (natL x.num)) (h2:LS w (Fz B w.heap.size (.slice (some ⟨q,0,none⟩) n c)) ud (natL x.den)) (h3:n<=1000) :
  ∃q' c' w',(Builtin.append_ #[53,53] ty #[.slice (some ⟨q,0,none⟩) n c,.slice (some ⟨gn,0,none⟩) 1 1]).run Tryz.prog w=.ok (.slice (some ⟨q',0,none⟩) (n+1) c') w'/\L<=q'/\OwnK 3 FrcK w' B 26 (.slice (some ⟨q',0,none⟩) (n+1) c') (l++[x]) (Fz B w'.heap.size (.slice (some ⟨q',0,none⟩) (n+1) c'))/\Below L w w':=by
 obtain⟨i0,hi0,hz0,hz1,hz2⟩:=info_parts info_fracG;have hq:=OwnK.lt h q rfl
 have hone:∀u∈[Value.bool x.neg,un,ud],u.oneCell'=true:=by
  obtain⟨An,Nn,cn,rfl⟩:=h1.frm;obtain⟨Ad,Nd,cd,rfl⟩:=h2.frm;intro u hu;simp at hu;rcases hu with rfl | rfl | rfl <;> rfl
 obtain⟨cs,o1,o2⟩:=h;rw[hn] at o1
 have hnews:∀j u,[Value.bool x.neg,un,ud][j]?=some u->w.cell? ((⟨gn,0,none⟩:Addr).add j)=some u:=fun j u hu=>by
  rw[Addr.add_mid];exact hc j u hu
 have hlen:cs.length=l.length*3:=by rw[hn];exact o1.1
 by_cases hroom:n+1<=c
 ·have hqL:L<=q:=by omega
  obtain⟨v',w',hr,ho',hg',-,hat⟩:=run_append_own_at (P:=Tryz.prog) w B 53 ty _ i0 _ 3 56 Tryz.underlying53 hi0 hz0 hz1 hz2 rfl (by omega) (.slice (some ⟨q,0,none⟩) n c) n cs o1 ⟨gn,0,none⟩ 1 1 [.bool x.neg,un,ud] (by simp) hnews hone (by unfold maxLen;omega) (by omega) (Nat.le_trans hB hL);obtain⟨q',c',rfl,hq'⟩:=own_new (K:=FrcK) (size:=3) ho' (by omega)
  have hq2:q'=q\/q'=w.heap.size:=by
   rcases hat with h | h
   ·left;simpa[Value.ownBlock] using h
   ·right;simpa[Value.ownBlock] using h
  refine⟨q',c',w',hr,by omega,?_,(zB _ _).grown hg' hL (fun k hk=>by simp[Value.ownBlock] at hk;omega)⟩;refine OwnK.pushF frcK o2 hlen (fun b hb=>by simp[Value.ownBlock] at hb;omega) (by rw[hn];exact ho') rfl ⟨un,ud,rfl,h1,h2⟩ (hot:=[some q]) (HotBy.grown hg' (.inl (by simp[Value.ownBlock]))) (fun b hb _ _=>by simp at hb;simp[Value.ownBlock,hb]) ?_;rcases hq2 with h | h
  ·left;simp[Value.ownBlock,h]
  ·right;exact⟨q',rfl,by omega⟩
 ·obtain⟨v',w',hr,ho',hg'⟩:=run_append_arg_grows (P:=Tryz.prog) w 53 ty _ i0 _ 3 56 Tryz.underlying53 hi0 hz0 hz1 hz2 rfl (by omega) ⟨q,0,none⟩ n c cs o1.1 (o1.cells (g:=q) rfl) ⟨gn,0,none⟩ 1 1 [.bool x.neg,un,ud] (by simp) hnews (by omega) (by unfold maxLen;omega) (by omega);obtain⟨q',c',rfl,hq'⟩:=own_new (K:=FrcK) (size:=3) ho' (by omega);refine⟨q',c',w',hr,by omega,?_,(zB _ _).grown hg' hL (by simp)⟩;refine OwnK.pushF frcK o2 hlen (fun b hb=>by simp[Value.ownBlock] at hb;omega) (by rw[hn];exact own_base ho' (Nat.le_trans hB hL)) rfl ⟨un,ud,rfl,h1,h2⟩ (hot:=[]) (HotBy.grown hg' (.inr rfl)) (fun b hb _ _=>by simp at hb) (.inr ⟨q',rfl,hq'⟩)
theorem wp_appF{o:Oper}{a:Act}{w:World}{K:Act->World->Prop}{Q:Exit->Act->World->Prop}(s x:Operand)(ho:o.op=.call { callee:=.builtin .append,args:=#[s,x],argTypes:=#[53,53] })(sv xv v':Value)(w':World)(hs:a.eval s=sv)(hx:a.eval x=xv)
  (hr:(Builtin.append_ #[53,53] o.type #[sv,xv]).run Tryz.prog w=.ok v' w') (h:K (a.put o.dst v') w'):o.wp Tryz.prog a w K Q:=by
 unfold Oper.wp execOp;simp only[ho,resolve,invoke,builtin,Sem.run_bind,Sem.run_pure,Result.andThen_ok,List.map_toArray,List.map_cons,List.map_nil,hs,hx,hr];exact h
def PolN(w:World)(R:Nat->Prop)(cs:List Value)(x:PolM):Prop:=∃vm vr tn td hn hd,cs=[.string x.name,.int .i64 x.k,.int .i64 x.m,.int .i64 x.q,.int .i64 0,.int .i64 0,.int .i64 0,.int .i64 x.s3,.int .i64 x.s4,vm,vr,.bool x.target.neg,tn,td,.bool x.horizon.neg,hn,hd] /\
 IntS w R vm x.models/\LS w R tn (natL x.target.num)/\LS w R td (natL x.target.den)/\LS w R hn (natL x.horizon.num)/\LS w R hd (natL x.horizon.den)
def PolK2(w:World)(R:Nat->Prop)(cs:List Value)(p:PolM×Bool):Prop:=(p.2=true/\PolK w R cs p.1)\/(p.2=false/\PolN w R cs p.1)
theorem polK2:Steady PolK2:=⟨fun hk h=>by
  rcases h with ⟨h1,h2⟩ | ⟨h1,a,b,c,d,f,g,e,i1,i2,i3,i4,i5⟩
  ·exact .inl ⟨h1,polK.keep hk h2⟩
  ·exact .inr ⟨h1,a,b,c,d,f,g,e,i1.keep hk,i2.keep hk,i3.keep hk,i4.keep hk,i5.keep hk⟩,
 fun hr h=>by
  rcases h with ⟨h1,h2⟩ | ⟨h1,a,b,c,d,f,g,e,i1,i2,i3,i4,i5⟩
  ·exact .inl ⟨h1,polK.mono hr h2⟩
  ·exact .inr ⟨h1,a,b,c,d,f,g,e,i1.mono hr,i2.mono hr,i3.mono hr,i4.mono hr,i5.mono hr⟩⟩
theorem RowA.imp{α β:Type}{size:Nat}{K:World->(Nat->Prop)->List Value->α->Prop}{K':World->(Nat->Prop)->List Value->β->Prop}{w:World}{T:TypeId}{g n:Nat}{es:List α}{es':List β}{R R':Nat->Prop}(h:RowA size K w T g n es R)(hg:¬R' g)(hl:es'.length=es.length)
  (hn:∀k y a,es'[k]?=some a->es[k]?=some y->∀c,c.length=size->w.rangeAt g (k*size) c->K w R c y->K' w R' c a):RowA size K' w T g n es' R':=by
 obtain⟨cs,h1,h2,h3⟩:=h.row;refine⟨hg,by rw[hl];exact h.room,h.most,cs,h1,h2,fun k a ha=>?_⟩;have hk:=(zL.1 ha).1;obtain⟨y,hy⟩:∃y,es[k]?=some y:=⟨_,zG (by omega)⟩;obtain⟨c,e1,e2,e3⟩:=h3 k y hy;exact⟨c,e1,e2,hn k y a ha hy c e1 (fun j v hv=>by rw[cell_of_row _ _ _ _ _ _ h1];exact e2 j v hv) e3⟩
theorem RowA.putS{α:Type}{size:Nat}{K:World->(Nat->Prop)->List Value->α->Prop}{w:World}{T:TypeId}{g n:Nat}{es:List α}{R:Nat->Prop}(hK:Steady K){k o:Nat}{y:α}(h:RowA size K w T g n (es.set k y) R)(hk:k<es.length)(vs:List Value)(ho:o+vs.length<=size){R':Nat->Prop}(hr:∀b,R b->R' b)(hg:¬R' g)(y':α)
  (hn:∀c,K w R c y->K w R' (seg c o vs) y'):RowA size K (w.setCells g (k*size+o) vs) T g n (es.set k y') R' :=
 h.put hK vs (k:=k) (x:=y) (a:=y') (by rw[List.getElem?_set_self hk]) ho hr hg (by simp) (by rw[List.getElem?_set_self hk]) (fun i hi=>by rw[List.getElem?_set_ne (Ne.symm hi),List.getElem?_set_ne (Ne.symm hi)]) (fun c _ _ h=>hn c h)
theorem set_here{α:Type}{es:List α}{k:Nat}{y:α}(h:es[k]?=some y):es.set k y=es:=by
 apply List.ext_getElem?;intro i;by_cases hi:k=i
 ·subst hi;rw[List.getElem?_set_self (zL.1 h).1,h]
 ·rw[List.getElem?_set_ne hi]
theorem cmpI_self(n:Nat):cmpI n n=0:=by unfold cmpI;simp
theorem cmp02G_any(xn xd yn yd:Value)(a b c d:Nat)(w:World)(hxn:LS w (Bl w.heap.size) xn (natL a))(hxd:LS w (Bl w.heap.size) xd (natL b))(hyn:LS w (Bl w.heap.size) yn (natL c))(hyd:LS w (Bl w.heap.size) yd (natL d))(h0b:0<b)(h0d:0<d) :
  Calls Tryz.prog 36 #[.agg #[.bool false,xn,xd],.agg #[.bool false,yn,yd]] w fun e w'=>e=.returned (.tuple #[.int .i64 (cmpI (a*d) (c*b)),.int .i64 0])/\Below w.heap.size w w':=by
 have hV1:=fun(w':World) (hb:Below w.heap.size w w')=>rvalid_any false xn xd a b w' (hxn.below hb) (hxd.below hb) h0b
 have hV2:=fun(w':World) (hb:Below w.heap.size w w')=>rvalid_any false yn yd c d w' (hyn.below hb) (hyd.below hb) h0d
 have hS:=fun(w':World) (hb:Below w.heap.size w w')=>rorderG_any xn xd yn yd a b c d w' (hxn.below hb) (hxd.below hb) (hyn.below hb) (hyd.below hb) h0b h0d
 obtain⟨An,Nn,cn,rfl⟩:=hxn.frm;obtain⟨Ad,Nd,cd,rfl⟩:=hxd.frm;obtain⟨Bn,Mn,dn,rfl⟩:=hyn.frm;obtain⟨Bd,Md,dd,rfl⟩:=hyd.frm;obtain⟨r,hr⟩:=zx (cmpI (a*d) (c*b));rw[<-hr] at hS ⊢;obtain⟨W1,hW1⟩:=zx ((w.alloc (.cells #[.bool false,.slice An Nn cn,.slice Ad Nd cd] 26)).alloc (.cells #[.bool false,.slice Bn Mn dn,.slice Bd Md dd] 26));obtain⟨g1,hg1⟩:=zx w.heap.size;obtain⟨g2,hg2⟩:=zx (w.heap.size+1)
 have hb1:Below w.heap.size w W1:=by rw[hW1];exact((zB _ _).alloc (zR _) _).alloc (by simp) _
 have k1:W1.heap[g1]?=some (.cells #[.bool false,.slice An Nn cn,.slice Ad Nd cd] 26 (0,0)):=by rw[hW1,hg1];exact(zH _ _ _ (by simp)).trans (zN _ _)
 have k2:W1.heap[g2]?=some (.cells #[.bool false,.slice Bn Mn dn,.slice Bd Md dd] 26 (0,0)):=by rw[hW1,hg2];exact heap_alloc_at _ _ _ (by simp)
 have l1:=(zA.1 k1).1;have l2:=(zA.1 k2).1;have HK:=zh (show ∀w',Below W1.heap.size W1 w'->(w'.heap[g1]?=some (.cells #[.bool false,.slice An Nn cn,.slice Ad Nd cd] 26 (0,0))/\w'.heap[g2]?=some (.cells #[.bool false,.slice Bn Mn dn,.slice Bd Md dd] 26 (0,0))/\Below w.heap.size w w') from fun w' hb=>⟨(hb.block g1 l1).trans k1,(hb.block g2 l2).trans k2,hb1.trans (hb.mono hb1.size)⟩);have HV1:=zh hV1;have HV2:=zh hV2;have HS:=zh hS;have HW:=zh (And.intro hW1 (And.intro hg1 hg2));clear hxn hxd hyn hyd h0b h0d hV1 hV2 hS hb1 hW1 hg1 hg2 k1 k2 l1 l2 hr;go_enter Tryz.func36,Tryz.ntmps36;go_upto_region 1 with fail;rw[<-HW.out.1,<-HW.out.2.1,show g1+1=g2 by (have:=HW.out;omega)];obtain⟨c0,c1,c2⟩:=cells3v (HK.out W1 (zB _ _)).1;go_wp2_with fail;refine(HV1.out W1 (HK.out W1 (zB _ _)).2.2).mono ?_;rintro e w2 ⟨rfl,hb2⟩;have HB2:=zh hb2;clear hb2 c0 c1 c2;obtain⟨c0,c1,c2⟩:=cells3v (HK.out w2 HB2.out).2.1;go_wp2_with fail;refine(HV2.out w2 (HK.out w2 HB2.out).2.2).mono ?_;rintro e w3 ⟨rfl,hb3⟩;have HB3:=zh (HB2.out.trans (hb3.mono HB2.out.size));clear hb3 c0 c1 c2;obtain⟨c0,c1,c2⟩:=cells3v (HK.out w3 HB3.out).1;obtain⟨d0,d1,d2⟩:=cells3v (HK.out w3 HB3.out).2.1;go_wp2_with fail;refine(HS.out w3 (HK.out w3 HB3.out).2.2).mono ?_;rintro e w4 ⟨rfl,hb4⟩;have HB4:=zh (HB3.out.trans (hb4.mono HB3.out.size));clear hb4 c0 c1 c2 d0 d1 d2;go_wp2_with fail;exact bodyPost_ret (v:=.tuple #[.int .i64 r,.int .i64 0]) (by simp[results,Tryz.results36]) rfl ⟨rfl,(HK.out w4 HB4.out).2.2⟩
theorem sfrac9G_any(xn xd yn yd:Value)(n d:Nat)(w:World)(hxn:LS w (Bl w.heap.size) xn (natL n))(hxd:LS w (Bl w.heap.size) xd (natL d))(hyn:LS w (Bl w.heap.size) yn (natL n))(hyd:LS w (Bl w.heap.size) yd (natL d))(h0:0<d) :
  Calls Tryz.prog 39 #[.agg #[.bool false,xn,xd],.agg #[.bool false,yn,yd]] w fun e w'=>e=.returned (.bool true)/\Below w.heap.size w w':=by
 have hV1:=fun(w':World) (hb:Below w.heap.size w w')=>rvalid_any false xn xd n d w' (hxn.below hb) (hxd.below hb) h0
 have hV2:=fun(w':World) (hb:Below w.heap.size w w')=>rvalid_any false yn yd n d w' (hyn.below hb) (hyd.below hb) h0
 have hS:=fun(w':World) (hb:Below w.heap.size w w')=>rsameG_any xn xd yn yd n d n d w' (hxn.below hb) (hxd.below hb) (hyn.below hb) (hyd.below hb) h0 h0
 obtain⟨An,Nn,cn,rfl⟩:=hxn.frm;obtain⟨Ad,Nd,cd,rfl⟩:=hxd.frm;obtain⟨Bn,Mn,dn,rfl⟩:=hyn.frm;obtain⟨Bd,Md,dd,rfl⟩:=hyd.frm;obtain⟨W1,hW1⟩:=zx ((w.alloc (.cells #[.bool false,.slice An Nn cn,.slice Ad Nd cd] 26)).alloc (.cells #[.bool false,.slice Bn Mn dn,.slice Bd Md dd] 26));obtain⟨g1,hg1⟩:=zx w.heap.size;obtain⟨g2,hg2⟩:=zx (w.heap.size+1)
 have hb1:Below w.heap.size w W1:=by rw[hW1];exact((zB _ _).alloc (zR _) _).alloc (by simp) _
 have k1:W1.heap[g1]?=some (.cells #[.bool false,.slice An Nn cn,.slice Ad Nd cd] 26 (0,0)):=by rw[hW1,hg1];exact(zH _ _ _ (by simp)).trans (zN _ _)
 have k2:W1.heap[g2]?=some (.cells #[.bool false,.slice Bn Mn dn,.slice Bd Md dd] 26 (0,0)):=by rw[hW1,hg2];exact heap_alloc_at _ _ _ (by simp)
 have l1:=(zA.1 k1).1;have l2:=(zA.1 k2).1;have HK:=zh (show ∀w',Below W1.heap.size W1 w'->(w'.heap[g1]?=some (.cells #[.bool false,.slice An Nn cn,.slice Ad Nd cd] 26 (0,0))/\w'.heap[g2]?=some (.cells #[.bool false,.slice Bn Mn dn,.slice Bd Md dd] 26 (0,0))/\Below w.heap.size w w') from fun w' hb=>⟨(hb.block g1 l1).trans k1,(hb.block g2 l2).trans k2,hb1.trans (hb.mono hb1.size)⟩);have HV1:=zh hV1;have HV2:=zh hV2;have HS:=zh hS;have HW:=zh (And.intro hW1 (And.intro hg1 hg2));clear hxn hxd hyn hyd h0 hV1 hV2 hS hb1 hW1 hg1 hg2 k1 k2 l1 l2;go_enter Tryz.func39,Tryz.ntmps39;go_upto_region 1 with fail;rw[<-HW.out.1,<-HW.out.2.1,show g1+1=g2 by (have:=HW.out;omega)];obtain⟨c0,c1,c2⟩:=cells3v (HK.out W1 (zB _ _)).1;go_wp2_with fail;refine(HV1.out W1 (HK.out W1 (zB _ _)).2.2).mono ?_;rintro e w2 ⟨rfl,hb2⟩;have HB2:=zh hb2;clear hb2 c0 c1 c2;obtain⟨c0,c1,c2⟩:=cells3v (HK.out w2 HB2.out).2.1;go_wp2_with fail;refine(HV2.out w2 (HK.out w2 HB2.out).2.2).mono ?_;rintro e w3 ⟨rfl,hb3⟩;have HB3:=zh (HB2.out.trans (hb3.mono HB2.out.size));clear hb3 c0 c1 c2;obtain⟨c0,c1,c2⟩:=cells3v (HK.out w3 HB3.out).1;obtain⟨d0,d1,d2⟩:=cells3v (HK.out w3 HB3.out).2.1;go_wp2_with fail;refine(HS.out w3 (HK.out w3 HB3.out).2.2).mono ?_;rintro e w4 ⟨rfl,hb4⟩;rw[cmpI_self];have HB4:=zh (HB3.out.trans (hb4.mono HB3.out.size));clear hb4 c0 c1 c2 d0 d1 d2;go_wp2_with fail;go_ret;exact⟨by simp,(HK.out w4 HB4.out).2.2⟩
theorem sfrac9_any(xn xd yn yd:Value)(n d:Nat)(w:World)(hxn:LS w (Bl w.heap.size) xn (natL n))(hxd:LS w (Bl w.heap.size) xd (natL d))(hyn:LS w (Bl w.heap.size) yn (natL n))(hyd:LS w (Bl w.heap.size) yd (natL d))(h0:0<d)(h1:n*d<4294967296) :
  Calls Tryz.prog 39 #[.agg #[.bool false,xn,xd],.agg #[.bool false,yn,yd]] w fun e w'=>e=.returned (.bool true)/\Below w.heap.size w w':=by
 exact sfrac9G_any xn xd yn yd n d w hxn hxd hyn hyd h0
theorem cells4L{W:World}{g:Nat}{a b c d:Value}{t:TypeId}(k:W.heap[g]?=some (.cells #[a,b,c,d] t (0,0))):W.cell? ⟨g,0,none⟩=some a/\W.cell? ⟨g,1,none⟩=some b/\W.cell? ⟨g,2,none⟩=some c/\W.cell? ⟨g,3,none⟩=some d:=by
 refine⟨?_,?_,?_,?_⟩ <;> (rw[cell_of_row _ _ _ _ _ _ k];rfl)
def FrcOk(x:Frc):Prop:=x.neg=false/\0<x.den/\x.num*x.den<4294967296
theorem sfracs9_any(va vb:Value)(l:List Frc)(w:World)(ha:SlS 3 FrcK w (Bl w.heap.size) va l)(hb:SlS 3 FrcK w (Bl w.heap.size) vb l)(hok:∀x∈l,FrcOk x) :
  Calls Tryz.prog 41 #[va,vb] w fun e w'=>e=.returned (.bool true)/\Below w.heap.size w w':=by
 obtain⟨A,c,rfl,h1,h2⟩:=ha.form;obtain⟨B,d,rfl,g1,g2⟩:=hb.form;unfold maxLen at h2 g2;have HA:=zh ha;have HB:=zh hb;obtain⟨LN,hL⟩:=zx l.length;rw[<-hL] at HA HB h1 h2 g1 g2 ⊢;have HL:=zh hL;have HOK:=zh hok;clear ha hb hL hok
 have b1:((LN:Int) != (LN:Int))=false:=by simp
 go_enter Tryz.func41,Tryz.ntmps41;go_wp2_with fail;go_loopg [5] LN (fun z v5 wr=>∃j:Nat,j<=LN/\z=LN-j/\v5=.int .i64 (j:Int)/\Hid (Below w.heap.size w wr))
 case atStart=>exact⟨0,by omega,rfl,rfl,zh (zB _ _)⟩
 case round =>
  obtain⟨j,hj,rfl,rfl,HW⟩:=hrel;obtain⟨W1,hW1⟩:=zx wr;rw[<-hW1] at HW ⊢;clear hW1;by_cases hlt:j<LN
  ·have hjl:j<l.length:=by rw[<-HL.out];exact hlt
   obtain⟨b,off,cs,hAe,hR,-,hc,hcs⟩:=HA.out.at_ (k:=j) hjl;obtain⟨b',off',cs',hBe,hR',-,hc',hcs'⟩:=HB.out.at_ (k:=j) hjl;subst hAe;subst hBe;obtain⟨x,hx⟩:=zx (l[j]);rw[<-hx] at hcs hcs';have hok:=HOK.out x (by rw[hx];exact List.getElem_mem _);obtain⟨vn,vd,rfl,i1,i2⟩:=hcs;obtain⟨un,ud,rfl,i3,i4⟩:=hcs';obtain⟨A1,N1,c1,rfl⟩:=i1.frm;obtain⟨A2,N2,c2,rfl⟩:=i2.frm;obtain⟨A3,N3,c3,rfl⟩:=i3.frm;obtain⟨A4,N4,c4,rfl⟩:=i4.frm;rw[hok.1] at hc hc'
   have hr1:w.rangeAt b (off+j*3) [.bool false,.slice A1 N1 c1,.slice A2 N2 c2]:=fun i u hu=>hc i u hu
   have hr2:w.rangeAt b' (off'+j*3) [.bool false,.slice A3 N3 c3,.slice A4 N4 c4]:=fun i u hu=>hc' i u hu
   have HSR:=zh (show ∀w',Below W1.heap.size W1 w'->(w'.rangeAt b (off+j*3) [.bool false,.slice A1 N1 c1,.slice A2 N2 c2]/\w'.rangeAt b' (off'+j*3) [.bool false,.slice A3 N3 c3,.slice A4 N4 c4]) from fun w' hb=>⟨range_same hr1 ((HW.out.trans (hb.mono HW.out.size)).block b hR),range_same hr2 ((HW.out.trans (hb.mono HW.out.size)).block b' hR')⟩);have hS:=sfrac9_any _ _ _ _ x.num x.den W1.drew (i1.below (HW.out.trans ((zB _ _).drew))) (i2.below (HW.out.trans ((zB _ _).drew))) (i3.below (HW.out.trans ((zB _ _).drew))) (i4.below (HW.out.trans ((zB _ _).drew))) hok.2.1 hok.2.2;have HS:=zh hS;have HLT:=zh hlt
   have lj:(j:Int)<(LN:Int):=by omega
   clear hc hc' hr1 hr2 hjl hR hR' hx hok i1 i2 i3 i4 hS;go_upto_region 6 with fail;refine region_tail (S:=(fun w'=>w'.rangeAt b (off+j*3) [.bool false,.slice A1 N1 c1,.slice A2 N2 c2]/\w'.rangeAt b' (off'+j*3) [.bool false,.slice A3 N3 c3,.slice A4 N4 c4])) [] (by kernel_rfl) (HSR.out _ (zB _ _).drew) (fun hHeld=>?_);refine tk 0 17 ?_;refine tk 1 18 ?_;refine tk 2 19 ?_;refine takeT (i:=3) (d:=20) (v:=(.agg #[.bool false,.slice A1 N1 c1,.slice A2 N2 c2])) rfl rfl (by kernel_rfl) (by kernel_rfl) (by kernel_rfl) (by kernel_rfl) (fun _ _ _ h=>h) (yieldsIf_load_mid (by rfl) 26 (.tmp 19) rfl b (off+j*3) (by rfl) [.bool false,.slice A1 N1 c1,.slice A2 N2 c2] _ (fun w hw=>hw.1) Tryz.underlying26 rfl size_frac7) (by assumption) ?_;(try simp only[Act.put,z1,z2,z3]);refine tk 4 21 ?_;refine tk 5 22 ?_;refine tk 6 23 ?_;refine takeT (i:=7) (d:=24) (v:=(.agg #[.bool false,.slice A3 N3 c3,.slice A4 N4 c4])) rfl rfl (by kernel_rfl) (by kernel_rfl) (by kernel_rfl) (by kernel_rfl) (fun _ _ _ h=>h) (yieldsIf_load_mid (by rfl) 26 (.tmp 23) rfl b' (off'+j*3) (by rfl) [.bool false,.slice A3 N3 c3,.slice A4 N4 c4] _ (fun w hw=>hw.2) Tryz.underlying26 rfl size_frac7) (by assumption) ?_;(try simp only[Act.put,z1,z2,z3]);refine rd1 8 (fun K hK=>?_);go_simp;(go_at_call 39;refine HS.out.mono ?_;rintro e w9 ⟨rfl,hb9⟩;have HX9:=zh (show Below W1.heap.size W1 w9 from((zB _ _).drew:Below W1.heap.size W1 W1.drew).trans hb9);clear hb9);go_wp2_with fail;refine hK.out _ _ ?_ (fun hHeld=>?_)
   ·exact HSR.out _ HX9.out
   clear hK K;(try simp only[Act.put,z1,z2,z3]);refine tk 9 26 ?_;refine doneT (by kernel_rfl) ?_ _;clear hHeld;have HW9:=zh (HW.out.trans (HX9.out.mono HW.out.size));go_wp2_with fail;go_roundg (LN-(j+1))
   case measure=>omega
   case rel=>exact⟨j+1,by omega,rfl,by go_num,HW9⟩
  ·go_wp2_with fail;go_ret;exact⟨rfl,HW.out⟩
theorem slaw9_any(s1 r1 e1 s2 r2 e2:Value)(x:LawM)(w:World)(hs1:SlS 3 FrcK w (Bl w.heap.size) s1 x.start)(hr1:SlS 1 RowFK w (Bl w.heap.size) r1 x.rates)(he1:SlS 3 FrcK w (Bl w.heap.size) e1 x.exit)
  (hs2:SlS 3 FrcK w (Bl w.heap.size) s2 x.start) (hr2:SlS 1 RowFK w (Bl w.heap.size) r2 x.rates) (he2:SlS 3 FrcK w (Bl w.heap.size) e2 x.exit) (ho1:∀y∈x.start,FrcOk y) (ho2:∀y∈x.exit,FrcOk y) (ho3:∀l∈x.rates,∀y∈l,FrcOk y) :
  Calls Tryz.prog 38 #[.agg #[.string x.name,s1,r1,e1],.agg #[.string x.name,s2,r2,e2]] w fun e w'=>e=.returned (.bool true)/\Below w.heap.size w w':=by
 have hS:=fun(w':World) (hb:Below w.heap.size w w')=>sfracs9_any s1 s2 x.start w' (SlS.below frcK hs1 hb) (SlS.below frcK hs2 hb) ho1
 have hE:=fun(w':World) (hb:Below w.heap.size w w')=>sfracs9_any e1 e2 x.exit w' (SlS.below frcK he1 hb) (SlS.below frcK he2 hb) ho2
 obtain⟨A1,n1,k1,rfl⟩:=hs1.form3;obtain⟨A2,k2,hv2,g1,g2⟩:=hr1.form;obtain⟨A3,n3,k3,rfl⟩:=he1.form3;obtain⟨B1,m1,q1,rfl⟩:=hs2.form3;obtain⟨B2,q2,hw2,g3,g4⟩:=hr2.form;obtain⟨B3,m3,q3,rfl⟩:=he2.form3;unfold maxLen at g2 g4;obtain⟨LN,hL⟩:=zx x.rates.length;rw[<-hL] at hv2 hw2 g1 g2 g3 g4;subst hv2 hw2;obtain⟨XN,hXN⟩:=zx x.name;rw[<-hXN];obtain⟨W1,hW1⟩:=zx ((w.alloc (.cells #[.string XN,.slice A1 n1 k1,.slice A2 LN k2,.slice A3 n3 k3] 96)).alloc (.cells #[.string XN,.slice B1 m1 q1,.slice B2 LN q2,.slice B3 m3 q3] 96));obtain⟨ga,hga⟩:=zx w.heap.size;obtain⟨gb,hgb⟩:=zx (w.heap.size+1)
 have hb1:Below w.heap.size w W1:=by rw[hW1];exact((zB _ _).alloc (zR _) _).alloc (by simp) _
 have i1:W1.heap[ga]?=some (.cells #[.string XN,.slice A1 n1 k1,.slice A2 LN k2,.slice A3 n3 k3] 96 (0,0)):=by rw[hW1,hga];exact(zH _ _ _ (by simp)).trans (zN _ _)
 have i2:W1.heap[gb]?=some (.cells #[.string XN,.slice B1 m1 q1,.slice B2 LN q2,.slice B3 m3 q3] 96 (0,0)):=by rw[hW1,hgb];exact heap_alloc_at _ _ _ (by simp)
 have l1:=(zA.1 i1).1;have l2:=(zA.1 i2).1;have HK:=zh (show ∀w',Below W1.heap.size W1 w'->(w'.heap[ga]?=some (.cells #[.string XN,.slice A1 n1 k1,.slice A2 LN k2,.slice A3 n3 k3] 96 (0,0))/\w'.heap[gb]?=some (.cells #[.string XN,.slice B1 m1 q1,.slice B2 LN q2,.slice B3 m3 q3] 96 (0,0))/\Below w.heap.size w w') from fun w' hb=>⟨(hb.block ga l1).trans i1,(hb.block gb l2).trans i2,hb1.trans (hb.mono hb1.size)⟩);have HS:=zh hS;have HE:=zh hE;have HR1:=zh hr1;have HR2:=zh hr2;have HOK:=zh ho3;have HL:=zh hL;have HW:=zh (And.intro hW1 (And.intro hga hgb))
 have b1:((LN:Int) != (LN:Int))=false:=by simp
 clear hs1 hr1 he1 hs2 hr2 he2 ho1 ho2 ho3 hS hE hL hXN hW1 hga hgb hb1 i1 i2 l1 l2;go_enter Tryz.func38,Tryz.ntmps38;go_upto_region 1 with fail;rw[<-HW.out.1,<-HW.out.2.1,show ga+1=gb by (have:=HW.out;omega)];obtain⟨c0,c1,c2,c3⟩:=cells4L (HK.out W1 (zB _ _)).1;obtain⟨d0,d1,d2,d3⟩:=cells4L (HK.out W1 (zB _ _)).2.1;go_wp2_with fail;refine(HS.out W1 (HK.out W1 (zB _ _)).2.2).mono ?_;rintro e w2 ⟨rfl,hb2⟩;have HB2:=zh hb2;clear hb2 c0 c1 c2 c3 d0 d1 d2 d3;obtain⟨c0,c1,c2,c3⟩:=cells4L (HK.out w2 HB2.out).1;obtain⟨d0,d1,d2,d3⟩:=cells4L (HK.out w2 HB2.out).2.1;go_wp2_with fail;refine(HE.out w2 (HK.out w2 HB2.out).2.2).mono ?_;rintro e w3 ⟨rfl,hb3⟩;have HB3:=zh (HB2.out.trans (hb3.mono HB2.out.size));clear hb3 c0 c1 c2 c3 d0 d1 d2 d3;obtain⟨c0,c1,c2,c3⟩:=cells4L (HK.out w3 HB3.out).1;obtain⟨d0,d1,d2,d3⟩:=cells4L (HK.out w3 HB3.out).2.1;go_wp2_with fail;clear c0 c1 c2 c3 d0 d1 d2 d3;go_loopg [5] LN (fun z v5 wr=>∃j:Nat,j<=LN/\z=LN-j/\v5=.int .i64 (j:Int)/\Hid (Below W1.heap.size W1 wr))
 case atStart=>exact⟨0,by omega,rfl,rfl,HB3⟩
 case round =>
  obtain⟨j,hj,rfl,rfl,HB⟩:=hrel;obtain⟨W4,hW4⟩:=zx wr;rw[<-hW4] at HB ⊢;clear hW4;obtain⟨c0,c1,c2,c3⟩:=cells4L (HK.out W4 HB.out).1;by_cases hlt:j<LN
  ·have hjl:j<x.rates.length:=by rw[<-HL.out];exact hlt
   obtain⟨b,off,cs,hAe,hR,-,hc,hcs⟩:=HR1.out.at_ (k:=j) hjl;obtain⟨b',off',cs',hBe,hR',-,hc',hcs'⟩:=HR2.out.at_ (k:=j) hjl;subst hAe;subst hBe;obtain⟨y,hy⟩:=zx (x.rates[j]);rw[<-hy] at hcs hcs';have hok:=HOK.out y (by rw[hy];exact List.getElem_mem _);obtain⟨v1,rfl,i1⟩:=hcs;obtain⟨v2,rfl,i2⟩:=hcs';obtain⟨C1,N1,p1,rfl⟩:=i1.form3;obtain⟨C2,N2,p2,rfl⟩:=i2.form3
   have f1:w.cell? ⟨b,off+j,none⟩=some (.slice C1 N1 p1):=by have:=hc 0 _ rfl;simpa using this
   have f2:w.cell? ⟨b',off'+j,none⟩=some (.slice C2 N2 p2):=by have:=hc' 0 _ rfl;simpa using this
   have HSR:=zh (show ∀w',Below W1.heap.size W1 w'->(fun w'=>w'.cell? ⟨ga,2,none⟩=some (.slice (some ⟨b,off,none⟩) LN k2)/\w'.cell? ⟨gb,2,none⟩=some (.slice (some ⟨b',off',none⟩) LN q2)/\w'.cell? ⟨b,off+j,none⟩=some (.slice C1 N1 p1)/\w'.cell? ⟨b',off'+j,none⟩=some (.slice C2 N2 p2)) w' from fun w' hb=>by
    obtain⟨c0,c1,c2,c3⟩:=cells4L (HK.out w' hb).1;obtain⟨d0,d1,d2,d3⟩:=cells4L (HK.out w' hb).2.1
    exact⟨c2,d2,((HK.out w' hb).2.2.cell (p:=⟨b,off+j,none⟩) hR).trans f1,((HK.out w' hb).2.2.cell (p:=⟨b',off'+j,none⟩) hR').trans f2⟩)
   have HSF:=zh (fun(w':World) (hb:Below w.heap.size w w')=>sfracs9_any _ _ y w' (SlS.below frcK i1 hb) (SlS.below frcK i2 hb) hok)
   have lj:(j:Int)<(LN:Int):=by omega
   clear hc hc' f1 f2 hjl hR hR' hy hok i1 i2;go_upto_region 6 with fail;clear c0 c1 c2 c3;refine region_tail (S:=(fun w'=>w'.cell? ⟨ga,2,none⟩=some (.slice (some ⟨b,off,none⟩) LN k2)/\w'.cell? ⟨gb,2,none⟩=some (.slice (some ⟨b',off',none⟩) LN q2)/\w'.cell? ⟨b,off+j,none⟩=some (.slice C1 N1 p1)/\w'.cell? ⟨b',off'+j,none⟩=some (.slice C2 N2 p2))) [] (by kernel_rfl) (HSR.out _ HB.out.drew) (fun hHeld=>?_);refine tk 0 43 ?_;refine tk 1 44 ?_;refine tk 2 45 ?_;refine tk 3 46 ?_;refine tk 4 47 ?_;refine tk 5 48 ?_;refine tk 6 49 ?_;refine tk 7 50 ?_;refine tk 8 51 ?_;refine tk 9 52 ?_;refine rd1 10 (fun K hK=>?_);go_simp;(go_at_call 41;refine(HSF.out _ (HK.out _ HB.out.drew).2.2).mono ?_;rintro e w9 ⟨rfl,hb9⟩;have HX9:=zh (show Below W1.heap.size W1 w9 from HB.out.drew.trans (hb9.mono HB.out.drew.size));clear hb9);go_wp2_with fail;refine hK.out _ _ ?_ (fun hHeld=>?_)
   ·exact HSR.out _ HX9.out
   clear hK K;(try simp only[Act.put,z1,z2,z3]);refine tk 11 54 ?_;refine doneT (by kernel_rfl) ?_ _;clear hHeld;go_wp2_with fail;go_roundg (LN-(j+1))
   case measure=>omega
   case rel=>exact⟨j+1,by omega,rfl,by go_num,HX9⟩
  ·go_wp2_with fail;go_ret;exact⟨rfl,(HK.out W4 HB.out).2.2⟩
theorem ints10_any(va vb:Value)(xs:List Int)(R R':Nat->Prop)(w:World)(ha:IntS w R va xs)(hb:IntS w R' vb xs) :
  Calls Tryz.prog 40 #[va,vb] w fun e w'=>e=.returned (.bool true)/\∃n,w'=w.drewN n:=by
 obtain⟨A,c,rfl,h1,h2⟩:=ha.form7;obtain⟨B,d,rfl,g1,g2⟩:=hb.form7;unfold maxLen at h2 g2;have HA:=zh ha;have HB:=zh hb;clear ha hb;go_enter Tryz.func40,Tryz.ntmps40;go_wp2
 go_loopw [5] (fun i wr=>∃j:Nat,j<=xs.length/\i=.int .i64 j/\Hid (∃n,wr=w.drewN n)) (fun i _=>xs.length-(intOf i).toNat)
 case atStart=>exact⟨0,by omega,rfl,0,rfl⟩
 case round =>
  obtain⟨j,hj,rfl,hw⟩:=hrel;obtain⟨n,rfl⟩:=hw.out;clear hw;by_cases hlt:j<xs.length
  ·obtain⟨b,off,rfl,hR,hc,hx⟩:=HA.out.at7 hlt;obtain⟨b',off',rfl,hR',hc',hx'⟩:=HB.out.at7 hlt
   have he1:(xs[j] != xs[j])=false:=by simp
   generalize xs[j]=x at *;go_wp2_with fail
   go_quiet (fail)
   go_wp2
   go_roundw
   case rel=>exact⟨j+1,by omega,by go_num,⟨_,rfl⟩⟩
   case measure=>simp[intOf];omega
  ·obtain rfl:j=xs.length:=by omega
   go_wp2;go_ret;exact⟨rfl,⟨_,rfl⟩⟩
theorem rvalidate_k(N:Nat)(hN:N<=12)(vl vm vd vv vp vo:Value)(F:FltM)(w:World)(hf:FleetS w (Bl w.heap.size) vl vm vd vv vp vo F)(hok:FleetOk N F) :
  Calls Tryz.prog 17 #[.agg #[.int .i64 F.ext,vl,vm,vd,vv,vp,vo]] w fun e w'=>e=.returned (.int .i64 0)/\Below w.heap.size w w':=by
 obtain⟨W0,hW0⟩:=zx (w.alloc (.cells #[.int .i64 F.ext,vl,vm,vd,vv,vp,vo] 35));obtain⟨z,hz⟩:=zx w.heap.size
 have hb0:Below w.heap.size w W0:=by rw[hW0];exact(zB _ _).alloc (zR _) _
 have hzk:W0.heap[z]?=some (.cells #[.int .i64 F.ext,vl,vm,vd,vv,vp,vo] 35 (0,0)):=by rw[hW0,hz];exact zN _ _
 obtain⟨c0,c1,c2,c3,c4,c5,c6⟩:=cells7 hzk;have HV:=zh (rvalidf_any N hN vl vm vd vv vp vo F W0 (hf.below hb0) hok);have HW0:=zh hW0;have HZ:=zh hz;have HB0:=zh hb0;obtain⟨EX,hEX⟩:=zx F.ext;rw[<-hEX] at HV HW0 c0 ⊢;clear hf hok hW0 hz hb0 hzk hEX;go_enter Tryz.func17,Tryz.ntmps17;go_wp2_with fail;rw[<-HW0.out];refine HV.out.mono ?_;rintro e w1 ⟨rfl,hb1⟩;have HB1:=zh hb1;clear c0 c1 c2 c3 c4 c5 c6 hb1;go_wp2_with fail;go_ret;exact⟨rfl,HB0.out.trans (HB1.out.mono HB0.out.size)⟩
theorem boxed7{w W:World}{a b c d e f g:Value}{t:TypeId}(h:W=w.alloc (.cells #[a,b,c,d,e,f,g] t)):W.heap[w.heap.size]?=some (.cells #[a,b,c,d,e,f,g] t (0,0))/\Below w.heap.size w W:=by
 subst h;exact⟨zN _ _,(zB _ _).alloc (zR _) _⟩
section
variable {w : World} {g n B : Nat} {vs : List Value} {L : List (List Int)}
end
theorem code38_no(k m:Int)(w:World)(h1:1<=k)(h2:k<=6)(h3:0<=m)(h4:4<m) :
  Calls Tryz.prog 37 #[.int .i64 k,.int .i64 m] w fun e w'=>e=.returned (.bool false)/\w=w':=by
 have q1:decide (1<=k)=true:=decide_eq_true h1;have q2:decide (k<=6)=true:=decide_eq_true h2;have q3:decide (0<=m)=true:=decide_eq_true h3;have q4:decide (m<=4)=false:=decide_eq_false (by omega);clear h1 h2 h3 h4;go_enter Tryz.func37,Tryz.ntmps37;go_wp2_with fail;go_ret;exact⟨rfl,rfl⟩
theorem fzero_any(neg:Bool)(vn vd:Value)(n d:Nat)(w:World)(hn:LS w (Bl w.heap.size) vn (natL n))(hd:LS w (Bl w.heap.size) vd (natL d))(h0:0<n) :
  Calls Tryz.prog 130 #[.agg #[.bool neg,vn,vd]] w fun e w'=>e=.returned (.bool false)/\Below w.heap.size w w':=by
 obtain⟨An,Nn,cn,rfl⟩:=hn.frm;obtain⟨Ad,Nd,cd,rfl⟩:=hd.frm;obtain⟨W0,hW0⟩:=zx (w.alloc (.cells #[.bool neg,.slice An Nn cn,.slice Ad Nd cd] 26))
 have hb0:Below w.heap.size w W0:=by rw[hW0];exact(zB _ _).alloc (zR _) _
 have HBD:=zh (nbits_b _ n _ W0 (hn.below hb0));have HW0:=zh hW0;have HB0:=zh hb0;have hq:((bl n:Int)==0)=false:=beq_eq_false_iff_ne.2 (by have:=bl_pos.2 h0;omega);obtain⟨BN,hBN⟩:∃x:Int,x=(bl n:Int):=⟨_,rfl⟩;rw[<-hBN] at HBD hq;clear hn hd hW0 hb0 hBN h0;go_enter Tryz.func130,Tryz.ntmps130;go_wp2_with fail;rw[<-HW0.out];refine HBD.out.mono ?_;rintro e w1 ⟨rfl,hb1⟩;have HB1:=zh (HB0.out.trans (hb1.mono HB0.out.size));clear hb1;go_wp2_with fail;go_ret;exact⟨rfl,HB1.out⟩
theorem HeldF.drw{W0 w:World}{q p:Nat}{x0 x1 x2 y0 y1 y2:Value}(h:HeldF W0 q p x0 x1 x2 y0 y1 y2 w):HeldF W0 q p x0 x1 x2 y0 y1 y2 w.drew:=⟨h.1,h.2.1,h.2.2.1,h.2.2.2.1,h.2.2.2.2.1,h.2.2.2.2.2.1,h.2.2.2.2.2.2.drew⟩
theorem fcmpN_any(xn xd yn yd:Value)(a b c d:Nat)(w:World)(hxn:LS w (Bl w.heap.size) xn (natL a))(hxd:LS w (Bl w.heap.size) xd (natL b))(hyn:LS w (Bl w.heap.size) yn (natL c))(hyd:LS w (Bl w.heap.size) yd (natL d))(h0b:0<b)(h0d:0<d)(h0a:0<a) :
  Calls Tryz.prog 73 #[.agg #[.bool true,xn,xd],.agg #[.bool false,yn,yd]] w fun e w'=>e=.returned (.tuple #[.int .i64 (-1),.int .i64 0])/\Below w.heap.size w w':=by
 obtain⟨An,Nn,cn,rfl⟩:=hxn.frm;obtain⟨Ad,Nd,cd,rfl⟩:=hxd.frm;obtain⟨Bn,Mn,dn,rfl⟩:=hyn.frm;obtain⟨Bd,Md,dd,rfl⟩:=hyd.frm;obtain⟨W0,hW0⟩:=zx ((w.alloc (.cells #[.bool true,.slice An Nn cn,.slice Ad Nd cd] 26)).alloc (.cells #[.bool false,.slice Bn Mn dn,.slice Bd Md dd] 26));obtain⟨q,hq⟩:=zx w.heap.size;obtain⟨p,hp⟩:=zx (w.heap.size+1)
 have hb0:Below w.heap.size w W0:=by rw[hW0];exact((zB _ _).alloc (zR _) _).alloc (by simp) _
 have hpk:W0.heap[p]?=some (.cells #[.bool false,.slice Bn Mn dn,.slice Bd Md dd] 26 (0,0)):=by
  rw[hW0];exact heap_alloc_at _ _ _ (by rw[hp];simp)
 have hqk:W0.heap[q]?=some (.cells #[.bool true,.slice An Nn cn,.slice Ad Nd cd] 26 (0,0)):=by
  rw[hW0,hq];exact(zH _ _ _ (by simp)).trans (zN w _)
 have hpl:p<W0.heap.size:=(zA.1 hpk).1;have hql:q<W0.heap.size:=(zA.1 hqk).1;obtain⟨c0,c1,c2,-⟩:=cells3 hqk;obtain⟨d0,d1,d2,-⟩:=cells3 hpk;obtain⟨x1,hx1⟩:=zx (Value.slice An Nn cn);obtain⟨x2,hx2⟩:=zx (Value.slice Ad Nd cd);obtain⟨y1,hy1⟩:=zx (Value.slice Bn Mn dn);obtain⟨y2,hy2⟩:=zx (Value.slice Bd Md dd);have H1:=zh (hxn.below hb0);have H2:=zh (hxd.below hb0);have H3:=zh (hyn.below hb0);have H4:=zh (hyd.below hb0);have H5:=zh (And.intro (len2 hxn.lt32 hyd.lt32) (len2 hyn.lt32 hxd.lt32));have HA0:=zh h0a;have HW0:=zh hW0;have HQ:=zh (show q=w.heap.size/\p=w.heap.size+1 from⟨hq,hp⟩);have HQP:=zh (show q<W0.heap.size/\p<W0.heap.size from⟨hql,hpl⟩);have HB0:=zh hb0;clear hW0 hq hp hb0 hpk hqk hpl hql hxn hxd hyn hyd;go_enter Tryz.func73,Tryz.ntmps73;go_wp2_with fail;rw[<-HW0.out,<-HQ.out.2,<-HQ.out.1];clear HW0 HQ;rw[<-hx1] at H1 c1 ⊢;rw[<-hx2] at H2 c2 ⊢;rw[<-hy1] at H3 d1 ⊢;rw[<-hy2] at H4 d2 ⊢;have HH0:=zh (show HeldF W0 q p (.bool true) x1 x2 (.bool false) y1 y2 W0 from⟨c0,c1,c2,d0,d1,d2,zB _ _⟩);have HT1:=zh (fun W (h:HeldF W0 q p (.bool true) x1 x2 (.bool false) y1 y2 W)=>ftimesG_any x1 y2 a d W (h.ls H1.out) (h.ls H4.out) h0d);have HT2:=zh (fun W (h:HeldF W0 q p (.bool true) x1 x2 (.bool false) y1 y2 W)=>ftimesG_any y1 x2 c b W (h.ls H3.out) (h.ls H2.out) h0b);clear hx1 hx2 hy1 hy2 c0 c1 c2 d0 d1 d2;refine(fvalid_any true _ _ a b W0 H1.out H2.out h0b).mono ?_;rintro e w1 ⟨rfl,hb1⟩;have hh1:=HH0.out.below hb1 HQP.out.1 HQP.out.2;obtain⟨c0,c1,c2,d0,d1,d2,-⟩:=hh1;have HH1:=zh (HH0.out.below hb1 HQP.out.1 HQP.out.2);clear hb1;go_wp2_with fail;refine(fvalid_any false _ _ c d w1 (HH1.out.ls H3.out) (HH1.out.ls H4.out) h0d).mono ?_;rintro e w2 ⟨rfl,hb2⟩;have HS0:=zh (show HeldF W0 q p (.bool true) x1 x2 (.bool false) y1 y2 w2.drew from(by obtain⟨a1,a2,a3,a4,a5,a6,a7⟩:=HH1.out.below hb2 HQP.out.1 HQP.out.2;exact⟨a1,a2,a3,a4,a5,a6,a7.drew⟩));clear hb2 c0 c1 c2 d0 d1 d2;go_upto_region 3 with fail;refine region_tail (S:=(fun w'=>w'.cell? ⟨q,0,none⟩=some (.bool true)/\w'.cell? ⟨q,1,none⟩=some x1/\w'.cell? ⟨q,2,none⟩=some x2/\w'.cell? ⟨p,0,none⟩=some (.bool false)/\w'.cell? ⟨p,1,none⟩=some y1/\w'.cell? ⟨p,2,none⟩=some y2/\Below W0.heap.size W0 w')) [] (by kernel_rfl) HS0.out (fun hHeld=>?_);refine tk 0 17 ?_;refine tk 1 18 ?_;refine tk 2 19 ?_;refine tk 3 20 ?_;refine tk 5 22 ?_;refine tk 6 23 ?_;refine tk 7 24 ?_;refine tk 8 25 ?_;refine rd1 4 (fun K hK=>?_);go_simp;(go_at_call 129;refine(HT1.out _ (by assumption)).mono ?_;rintro e w5 ⟨u5,rfl,hu5,hb5⟩);go_wp2_with fail;refine hK.out _ _ ?_ (fun hHeld=>?_)
 ·(first|exact HeldF.below (by assumption) hb7 HQP.out.1 HQP.out.2|exact HeldF.below (by assumption) hb6 HQP.out.1 HQP.out.2|exact HeldF.below (by assumption) hb5 HQP.out.1 HQP.out.2)
 clear hK K;(try simp only[Act.put,z1,z2,z3]);refine rd1 9 (fun K hK=>?_);go_simp;(go_at_call 129;refine(HT2.out _ (by assumption)).mono ?_;rintro e w6 ⟨u6,rfl,hu6,hb6⟩);go_wp2_with fail;refine hK.out _ _ ?_ (fun hHeld=>?_)
 ·(first|exact HeldF.below (by assumption) hb7 HQP.out.1 HQP.out.2|exact HeldF.below (by assumption) hb6 HQP.out.1 HQP.out.2|exact HeldF.below (by assumption) hb5 HQP.out.1 HQP.out.2)
 clear hK K;(try simp only[Act.put,z1,z2,z3]);refine rd1 10 (fun K hK=>?_);go_simp;(go_at_call 128;refine(ncmpG_b _ _ (a*d) (c*b) _ _ _ (hu5.bel hb6) hu6 H5.out.1 H5.out.2).mono ?_;rintro e w7 ⟨rfl,hb7⟩);go_wp2_with fail;refine hK.out _ _ ?_ (fun hHeld=>?_)
 ·(first|exact HeldF.below (by assumption) hb7 HQP.out.1 HQP.out.2|exact HeldF.below (by assumption) hb6 HQP.out.1 HQP.out.2|exact HeldF.below (by assumption) hb5 HQP.out.1 HQP.out.2)
 clear hK K;(try simp only[Act.put,z1,z2,z3]);refine tk 11 6 ?_;refine doneT (by kernel_rfl) ?_ _;have HBZ:=zh (HeldF.bl (q:=q) (p:=p) (by assumption));obtain⟨d0,d1,d2,e0,e1,e2,-⟩:=hHeld;clear hu5 hu6 hb5 hb6 hb7;go_upto_region 4 with fail;refine region_tail (S:=(fun w'=>w'.cell? ⟨q,0,none⟩=some (.bool true)/\w'.cell? ⟨q,1,none⟩=some x1/\w'.cell? ⟨q,2,none⟩=some x2/\w'.cell? ⟨p,0,none⟩=some (.bool false)/\w'.cell? ⟨p,1,none⟩=some y1/\w'.cell? ⟨p,2,none⟩=some y2/\Below W0.heap.size W0 w')) [] (by kernel_rfl) (HeldF.drw (show HeldF W0 q p (.bool true) x1 x2 (.bool false) y1 y2 w7 from⟨d0,d1,d2,e0,e1,e2,HBZ.out⟩)) (fun hHeld=>?_);refine tk 0 28 ?_;refine tk 1 29 ?_;refine tk 2 30 ?_;refine tk 3 31 ?_;refine tk 7 35 ?_;refine tk 8 36 ?_;refine rd1 4 (fun K hK=>?_);go_simp;(go_at_call 130;refine(fzero_any true x1 x2 a b _ (HeldF.ls (show HeldF W0 q p (.bool true) x1 x2 (.bool false) y1 y2 _ from by assumption) H1.out) (HeldF.ls (show HeldF W0 q p (.bool true) x1 x2 (.bool false) y1 y2 _ from by assumption) H2.out) HA0.out).mono ?_;rintro e w8 ⟨rfl,hb8⟩);go_wp2_with fail;refine hK.out _ _ ?_ (fun hHeld=>?_)
 ·exact HeldF.below (by assumption) hb8 HQP.out.1 HQP.out.2
 clear hK K;(try simp only[Act.put,z1,z2,z3]);refine tk 5 33 ?_;refine tk 6 34 ?_;refine tk 9 37 ?_;refine tks 10 38 ?_;refine rd1 11 (fun K hK=>?_);go_simp;refine hK.out _ _ ?_ (fun hHeld=>?_)
 ·exact HeldF.below (by assumption) hb8 HQP.out.1 HQP.out.2
 clear hK K;(try simp only[Act.put,z1,z2,z3]);refine tks 12 40 ?_;refine tk 13 41 ?_;refine tk 14 7 ?_;refine tk 15 8 ?_;refine doneT (by kernel_rfl) ?_ _;have HBY:=zh (HeldF.bl (q:=q) (p:=p) (by assumption));clear hHeld hb8;go_wp2_with fail;go_ret2;exact⟨rfl,HB0.out.trans (HBY.out.mono HB0.out.size)⟩
theorem compareG_any(xn xd yn yd:Value)(a b c d:Nat)(w:World)(hxn:LS w (Bl w.heap.size) xn (natL a))(hxd:LS w (Bl w.heap.size) xd (natL b))(hyn:LS w (Bl w.heap.size) yn (natL c))(hyd:LS w (Bl w.heap.size) yd (natL d))(h0b:0<b)(h0d:0<d) :
  Calls Tryz.prog 31 #[.agg #[.bool false,xn,xd],.agg #[.bool false,yn,yd]] w fun e w'=>e=.returned (.int .i64 (cmpI (a*d) (c*b)))/\Below w.heap.size w w':=by
 have hC:=fun(w':World) (hb:Below w.heap.size w w')=>fcmpG_any xn xd yn yd a b c d w' (hxn.below hb) (hxd.below hb) (hyn.below hb) (hyd.below hb) h0b h0d
 obtain⟨An,Nn,cn,rfl⟩:=hxn.frm;obtain⟨Ad,Nd,cd,rfl⟩:=hxd.frm;obtain⟨Bn,Mn,dn,rfl⟩:=hyn.frm;obtain⟨Bd,Md,dd,rfl⟩:=hyd.frm;obtain⟨W1,hW1⟩:=zx ((w.alloc (.cells #[.bool false,.slice An Nn cn,.slice Ad Nd cd] 26)).alloc (.cells #[.bool false,.slice Bn Mn dn,.slice Bd Md dd] 26))
 have hb1:Below w.heap.size w W1:=by rw[hW1];exact((zB _ _).alloc (zR _) _).alloc (by simp) _
 have HC:=zh (hC W1 hb1);have HB:=zh hb1;have HW:=zh hW1;clear hxn hxd hyn hyd h0b h0d hC hb1 hW1;obtain⟨r,hr⟩:=zx (cmpI (a*d) (c*b));rw[<-hr] at HC ⊢;clear hr;go_enter Tryz.func31,Tryz.ntmps31;go_wp2_with fail;rw[<-HW.out];refine HC.out.mono ?_;rintro e w2 ⟨rfl,hb2⟩;have HB2:=zh (HB.out.trans (hb2.mono HB.out.size));clear hb2;go_wp2_with fail;go_ret;exact⟨rfl,HB2.out⟩
theorem compareN_any(xn xd yn yd:Value)(a b c d:Nat)(w:World)(hxn:LS w (Bl w.heap.size) xn (natL a))(hxd:LS w (Bl w.heap.size) xd (natL b))(hyn:LS w (Bl w.heap.size) yn (natL c))(hyd:LS w (Bl w.heap.size) yd (natL d))(h0b:0<b)(h0d:0<d)(h0a:0<a) :
  Calls Tryz.prog 31 #[.agg #[.bool true,xn,xd],.agg #[.bool false,yn,yd]] w fun e w'=>e=.returned (.int .i64 (-1))/\Below w.heap.size w w':=by
 have hC:=fun(w':World) (hb:Below w.heap.size w w')=>fcmpN_any xn xd yn yd a b c d w' (hxn.below hb) (hxd.below hb) (hyn.below hb) (hyd.below hb) h0b h0d h0a
 obtain⟨An,Nn,cn,rfl⟩:=hxn.frm;obtain⟨Ad,Nd,cd,rfl⟩:=hxd.frm;obtain⟨Bn,Mn,dn,rfl⟩:=hyn.frm;obtain⟨Bd,Md,dd,rfl⟩:=hyd.frm;obtain⟨W1,hW1⟩:=zx ((w.alloc (.cells #[.bool true,.slice An Nn cn,.slice Ad Nd cd] 26)).alloc (.cells #[.bool false,.slice Bn Mn dn,.slice Bd Md dd] 26))
 have hb1:Below w.heap.size w W1:=by rw[hW1];exact((zB _ _).alloc (zR _) _).alloc (by simp) _
 have HC:=zh (hC W1 hb1);have HB:=zh hb1;have HW:=zh hW1;clear hxn hxd hyn hyd h0b h0d hC hb1 hW1;go_enter Tryz.func31,Tryz.ntmps31;go_wp2_with fail;rw[<-HW.out];refine HC.out.mono ?_;rintro e w2 ⟨rfl,hb2⟩;have HB2:=zh (HB.out.trans (hb2.mono HB.out.size));clear hb2;go_wp2_with fail;go_ret;exact⟨rfl,HB2.out⟩
def TgOk(neg:Bool)(n d tN tD:Nat):Prop:=(neg&&decide (0<n))=false/\n / Nat.gcd n d=tN/\tN<4294967296/\0<tD/\d / Nat.gcd n d=tD/\tD<4294967296/\tN<=tD
def badT(x:PolM)(m q:Int)(tN tD:Nat):Bool:=decide (m<x.m\/4<m\/q<x.k\/x.k+m<q\/tD<tN*1000)
def upT(x:PolM)(m q:Int)(tN tD:Nat):PolM:={ upP x m q with target:=⟨false,tN,tD⟩ }
def raiseT(F:FltM)(p:Nat)(m q:Int)(tN tD:Nat):FltM:={ F with pols:=F.pols.modify p (fun x=>upT x m q tN tD) }
theorem raiseT_len(F:FltM)(p:Nat)(m q:Int)(tN tD:Nat):(raiseT F p m q tN tD).pols.length=F.pols.length:=by unfold raiseT;simp
theorem raiseT_at{F:FltM}{p:Nat}{m q:Int}{tN tD:Nat}{x:PolM}(h:F.pols[p]?=some x):(raiseT F p m q tN tD).pols[p]?=some (upT x m q tN tD):=by
 unfold raiseT;simp[h]
theorem raiseT_other{F:FltM}{p i:Nat}{m q:Int}{tN tD:Nat}(h:p≠i):(raiseT F p m q tN tD).pols[i]?=F.pols[i]?:=by
 unfold raiseT;simp[List.getElem?_modify,h]
end Go.Proofs.YtgfaieppacabjaaGreat
