/- Parts. -/
import Derived.Test.YtgfaieppacabjaaGreatMq13
import Derived.Test.YtgfaieppacabjaaGreatMq20
set_option linter.unusedSectionVars false
set_option maxRecDepth 100000
set_option maxHeartbeats 12800000
set_option linter.unusedVariables false
set_option linter.unusedSimpArgs false
namespace Go.Proofs.YtgfaieppacabjaaGreat
open Go.RowKit
theorem app_int8{ops:Array Oper}{rest:List Oper}{o:Oper}{a:Act}{Q:Exit->Act->World->Prop}{w:World}(x0:Int)(s x:Operand)(hgd:o.guard=none)(ho:o.op=.call { callee:=.builtin .append,args:=#[s,x],argTypes:=#[22,22] })
  (base:Nat) (v:Value) (xs:List Int) (hs:a.eval s=v) (hown:OwnI w base v xs) (hx:a.eval x=.slice (some ⟨w.heap.size,0,none⟩) 1 1) (hn:xs.length<=1000) (hbase:base<=w.heap.size)
  (h:∀v' w',OwnI w' base v' (xs++[x0])->w.grownBy w' v.ownBlock->wpList Tryz.prog ops Q rest (a.put o.dst v') w'):wpList Tryz.prog ops Q (o :: rest) a (w.alloc (.cells #[.int .i64 x0] 3)):=by
 obtain⟨i0,hi0,hz0,hz1,hz2⟩:=info_parts info_int8;have hown':w.ownsRow base 3 1 v xs.length (xs.map (Value.int .i64)):=hown;refine wpList_append1 hgd s x _ ho base i0 _ 1 8 Tryz.underlying22 hi0 hz0 hz1 hz2 rfl (by omega) (by omega) v xs.length _ hs hown' hx rfl (by simp[Value.oneCell']) (by omega) hbase (fun v' w' ho' hg' _=>h v' w' ?_ hg');unfold OwnI
 simpa using ho'
theorem room_any(N:Nat)(hN:N<=12)(vl vm vd vv vp vo:Value)(F:FltM)(w:World)(hf:FleetS w (Bl w.heap.size) vl vm vd vv vp vo F)(hok:FleetOk N F) :
  Calls Tryz.prog 66 #[.agg #[.int .i64 F.ext,vl,vm,vd,vv,vp,vo],.slice none 0 0] w fun e w'=>∃v xs,e=.returned v/\OwnI w' w.heap.size v xs/\xs.length=F.dves.length/\(∀x∈xs,1<=x/\x<=4)/\Below w.heap.size w w':=by
 have hm2:F.models.length=2:=by obtain⟨a,b,c,e,-,-,-,-,hM⟩:=hok.models;rw[hM];rfl
 have hVF:=fun(w':World) (hb:Below w.heap.size w w')=>rvalidf_any N hN vl vm vd vv vp vo F w' (hf.below hb) hok
 obtain⟨Al,nl,cl,hvl⟩:=hf.1.form3;obtain⟨Am,cm,hvm,-,-⟩:=hf.2.1.form;obtain⟨Ad,nd,cd,hvd⟩:=hf.2.2.1.form3;obtain⟨Av,cv,hvv,-,-⟩:=hf.2.2.2.1.form;obtain⟨Ap,np,cp,hvp⟩:=hf.2.2.2.2.1.form3;obtain⟨Ao,no,co,hvo⟩:=hf.2.2.2.2.2.form3;rw[hm2] at hvm;obtain⟨ND,hND⟩:=zx F.dves.length;obtain⟨EX,hEX⟩:=zx F.ext;rw[<-hND] at hvv;subst hvl hvm hvd hvv hvp hvo
 have hMA:=fun(mi:Nat) (h:mi<2)=>hf.2.1.at_ (k:=mi) (by rw[hm2];exact h)
 have hVA:=fun(j:Nat) (h:j<ND)=>hf.2.2.2.1.at_ (k:=j) (by rw[<-hND];exact h)
 obtain⟨mb,moff,-,hAm,hmR,-,-⟩:=hMA 0 (by omega);obtain⟨vb,voff,-,hAv,hvR,-,-⟩:=hVA 0 (by have:=hok.dve1;omega);subst hAm hAv
 have hCM:∀(mi:Nat) (m:ModM),F.models[mi]?=some m->w.cell? ⟨mb,moff+mi*4+1,none⟩=some (.int .i64 m.ext):=fun mi m h=>by
  have hl:=(zL.1 h).1;obtain⟨b,off,cs,e,-,-,hc,hcs⟩:=hMA mi (by rw[<-hm2];exact hl);injection e with e;injection e with e1 e2;subst e1 e2;rw[(zL.1 h).2] at hcs;unfold ModK at hcs;subst hcs;exact hc 1 _ rfl
 have hCV:∀(j:Nat) (d:DveM),F.dves[j]?=some d->w.cell? ⟨vb,voff+j*3+1,none⟩=some (.int .i64 d.model):=fun j d h=>by
  have hl:=(zL.1 h).1;obtain⟨b,off,cs,e,-,-,hc,hcs⟩:=hVA j (by rw[hND];exact hl);injection e with e;injection e with e1 e2;subst e1 e2;rw[(zL.1 h).2] at hcs;unfold DveK at hcs;subst hcs;exact hc 1 _ rfl
 obtain⟨gF,hgF⟩:=zx w.heap.size;obtain⟨W1,hW1⟩:=zx (w.alloc (.cells #[.int .i64 EX,.slice Al nl cl,.slice (some ⟨mb,moff,none⟩) 2 cm,.slice Ad nd cd,.slice (some ⟨vb,voff,none⟩) ND cv,.slice Ap np cp,.slice Ao no co] 35))
 have hb1:Below w.heap.size w W1:=by rw[hW1];exact(zB _ _).alloc (zR _) _
 have hfk:W1.heap[gF]?=some (.cells #[.int .i64 EX,.slice Al nl cl,.slice (some ⟨mb,moff,none⟩) 2 cm,.slice Ad nd cd,.slice (some ⟨vb,voff,none⟩) ND cv,.slice Ap np cp,.slice Ao no co] 35 (0,0)):=by rw[hW1,hgF];exact zN _ _
 have HBK:=zh (show ∀w',Below W1.heap.size W1 w'->Below w.heap.size w w' from fun w' hb=>hb1.trans (hb.mono hb1.size));have HK:=zh (show ∀w',Below W1.heap.size W1 w'->_ from fun w' hb=>cells7 ((hb.block gF (zA.1 hfk).1).trans hfk));have HGF:=zh (And.intro hgF (zA.1 hfk).1);have HV:=zh (hVF W1 hb1);have HOK:=zh hok;have HND:=zh hND;have HW1:=zh hW1;have HCC:=zh (And.intro hCM hCV);have HLT:=zh (And.intro hvR hmR);have HD1:=zh (And.intro hok.dve1 hok.dveN);have HS1:=zh hb1.size;rw[<-hEX] at HV ⊢;clear hVF hf hok hND hEX hMA hVA hCM hCV hmR hvR hgF hW1 hb1 hfk hm2;go_enter Tryz.func66,Tryz.ntmps66;go_upto_region 1 with fail;rw[<-HW1.out,<-HGF.out.1];obtain⟨c0,c1,c2,c3,c4,c5,c6⟩:=HK.out W1 (zB _ _);go_wp2_with fail;refine HV.out.mono ?_;rintro e w2 ⟨rfl,hb2⟩;have HB2:=zh hb2;clear hb2 c0 c1 c2 c3 c4 c5 c6;go_wp2_with fail;go_loopg [5,6] ND (fun z v5 v6 wr=>∃(j:Nat) (xs:List Int),j<=ND/\z=ND-j/\v6=.int .i64 (j:Int)/\Hid (Below W1.heap.size W1 wr)/\Hid (OwnI wr W1.heap.size v5 xs/\xs.length=j/\∀x∈xs,1<=x/\x<=4))
 case atStart=>exact⟨0,[],by omega,rfl,rfl,HB2,zh ⟨OwnI.nil _ _,rfl,fun x hx=>by simp at hx⟩⟩
 case round =>
  obtain⟨j,xs,hj,rfl,rfl,HB,HO⟩:=hrel;obtain⟨W3,hW3⟩:=zx wr;rw[<-hW3] at HB HO ⊢;clear hW3;obtain⟨c0,c1,c2,c3,c4,c5,c6⟩:=HK.out W3 HB.out;by_cases hlt:j<ND
  ·have i1:(j:Int)<(ND:Int):=by omega
   have d9:(ND:Int)<=9:=by have:=HD1.out;have:=HND.out;omega
   have hn0:((0:Int)==(ND:Int))=false:=beq_eq_false_iff_ne.2 (by omega);obtain⟨d,hd⟩:∃d,F.dves[j]?=some d:=⟨_,zG (by rw[<-HND.out];exact hlt)⟩;obtain⟨mi,m,hmi,hm,hmi2,hx1,hx4⟩:=mod_ok HOK.out hd;have hdv:=HCC.out.2 j d hd;have hmv:=HCC.out.1 mi m hm;rw[hmi] at hdv;obtain⟨XT,hXT⟩:=zx m.ext;rw[<-hXT] at hmv hx1 hx4;have hhw:=HBK.out W3 HB.out;have e1:W3.cell? ⟨vb,voff+j*3+1,none⟩=some (.int .i64 (mi:Int)):=(hhw.cell (p:=⟨vb,_,none⟩) HLT.out.1).trans hdv;have e2:W3.cell? ⟨mb,moff+mi*4+1,none⟩=some (.int .i64 XT):=(hhw.cell (p:=⟨mb,_,none⟩) HLT.out.2).trans hmv
   have i2:(mi:Int)<2:=by omega
   have HX:=zh (And.intro hx1 hx4);obtain⟨A5,k5,hv5⟩:=HO.out.1.form;subst hv5;clear hd hmi hm hdv hmv hXT hhw hx1 hx4;go_upto_region 7 with fail
   go_quiet (fail)
   go_upto_region 8 with fail;obtain⟨W4,hW4⟩:=zx (W3.drewN nq)
   have hb4:Below W3.heap.size W3 W4:=by rw[hW4];exact Below.drewN' (zB _ _) nq
   rw[<-hW4];have HB4:=zh (HB.out.trans (hb4.mono HB.out.size));have HO4:=zh (HO.out.1.below hb4);have HOL:=zh HO.out.2;clear hW4 hb4 e1 e2 c0 c1 c2 c3 c4 c5 c6 HO;obtain⟨c0,c1,c2,c3,c4,c5,c6⟩:=HK.out W4 HB4.out;go_upto_region 10 with fail;refine wp_region_lit ?_;refine wpList_plain rfl (fun K hK=>?_);go_simp;refine hK _ _ ?_;clear hK;(try simp only[Act.put,z1,z2,z3]);refine wpList_plain rfl (fun K hK=>?_);go_simp;refine hK _ _ ?_;clear hK;(try simp only[Act.put,z1,z2,z3]);refine wpList_plain rfl (fun K hK=>?_);go_simp;refine hK _ _ ?_;clear hK;(try simp only[Act.put,z1,z2,z3]);refine app_int8 XT (.tmp 42) (.tmp 44) rfl rfl W1.heap.size (.slice A5 xs.length k5) xs (by rfl) HO4.out (by rfl) (by have:=HOL.out.1;have:=HD1.out;have:=HND.out;omega) HB4.out.size ?_;intro v5 w5 ho5 hg5;have HO5:=zh ho5;have HB5:=zh (HB4.out.trans (Below.grown (zB _ _) hg5 HB4.out.size (fun k hk=>(OwnI.lt HO4.out k hk).1)));clear ho5 hg5;(try simp only[Act.put,z1,z2,z3]);go_wp2_with fail;go_roundg (ND-(j+1))
   case measure=>omega
   case rel=>exact⟨j+1,xs++[XT],by omega,rfl,by go_num,HB5,zh ⟨HO5.out,by rw[zP,HOL.out.1];rfl,fun x hx=>by
    rcases List.mem_append.1 hx with h | h
    ·exact HOL.out.2 x h
    ·rw[List.mem_singleton.1 h];exact HX.out⟩⟩
  ·have HJE:=zh (show j=ND by omega);go_wp2_with fail;go_ret;exact⟨_,xs,rfl,OwnI.base HO.out.1 HS1.out,by rw[HO.out.2.1,HJE.out,HND.out],HO.out.2.2,HBK.out _ HB.out⟩
theorem ownI_at{w:World}{base:Nat}{v:Value}{xs:List Int}(h:OwnI w base v xs)(h0:xs≠[]):∃g c,v=.slice (some ⟨g,0,none⟩) xs.length c/\base<=g/\g<w.heap.size:=by
 have h1:w.ownsRow base 3 1 v xs.length (xs.map (Value.int .i64)):=h;have hlt:=h1.lt;rcases h1.2 with ⟨rfl,h0'⟩ | ⟨g,cap,cur,rfl,_,_,_,_,_⟩
 ·exact absurd (List.eq_nil_of_length_eq_zero h0') h0
 ·exact⟨g,cap,rfl,(hlt g rfl).1,(hlt g rfl).2⟩
theorem ownI_cell{w:World}{base g c n:Nat}{xs:List Int}(h:OwnI w base (.slice (some ⟨g,0,none⟩) n c) xs){j:Nat}{x:Int}(hx:xs[j]?=some x):w.cell? ⟨g,j,none⟩=some (.int .i64 x)/\w.frozen? ⟨g,j,none⟩=false:=by
 have h1:w.ownsRow base 3 1 (.slice (some ⟨g,0,none⟩) n c) xs.length (xs.map (Value.int .i64)):=h;have hc:=h1.cells (g:=g) rfl j (.int .i64 x) (by simp[hx]);rcases h1.2 with ⟨h2,h0'⟩ | ⟨g2,cap,cur,h2,_,hb,_,_,_⟩
 ·simp at h2
 ·injection h2 with e1 e2 e3;injection e1 with e1;injection e1 with e1 e4;subst e1;refine⟨?_,frozen_of_row _ _ _ _ _ hb⟩;rw[<-hc];unfold Addr.add;split <;> simp_all
theorem ownI_set{w:World}{base g c:Nat}{xs:List Int}(h:OwnI w base (.slice (some ⟨g,0,none⟩) xs.length c) xs)(j:Nat)(x:Int) :
  OwnI (w.setCell ⟨g,j,none⟩ (.int .i64 x)) base (.slice (some ⟨g,0,none⟩) xs.length c) (xs.set j x):=by
 have h1:w.ownsRow base 3 1 (.slice (some ⟨g,0,none⟩) xs.length c) xs.length (xs.map (Value.int .i64)):=h;obtain⟨r1,r2⟩:=h1.stored j (.int .i64 x);show World.ownsRow _ base 3 1 _ (xs.set j x).length ((xs.set j x).map (Value.int .i64));rw[List.length_set,List.map_set];exact r1
theorem own_kept2{w w':World}{base g c n gT:Nat}{xs:List Int}(h:OwnI w base (.slice (some ⟨g,0,none⟩) n c) xs)(hg:w.grownBy w' (some gT))(hne:g≠gT):OwnI w' base (.slice (some ⟨g,0,none⟩) n c) xs:=by
 have h1:w.ownsRow base 3 1 (.slice (some ⟨g,0,none⟩) n c) xs.length (xs.map (Value.int .i64)):=h;have hlt:=(h1.lt g rfl).2;rcases h1 with ⟨h0,⟨h2,-⟩ | ⟨g2,cap,cur,h2,a1,hb,a2,a3,a4,a5⟩⟩
 ·simp at h2
 ·have e:g2=g:=by
   injection h2 with e1;injection e1 with e1;injection e1 with e1;exact e1.symm
  subst e;exact⟨h0,.inr ⟨g2,cap,cur,h2,a1,(hg.block g2 hlt (fun e=>by simp at e;exact hne e)).trans hb,a2,a3,a4,a5⟩⟩
structure RoomT (gT:Nat) (vt:Value) (W2:World) (base g ND c:Nat) (wr:World) (I:Nat) (L:List Int):Prop where
 tape:TapeB wr gT vt I
 hot:HotBy [some gT,some g] W2 wr
 own:OwnI wr base (.slice (some ⟨g,0,none⟩) ND c) L
 len:L.length=ND
 rng:∀x∈L,0<=x/\x<=4
theorem RoomT.next{gT:Nat}{vt:Value}{W2:World}{base g ND c:Nat}{wr w':World}{I:Nat}{L:List Int}(h:RoomT gT vt W2 base g ND c wr I L)(hne:g≠gT)(hT:TapeB w' gT vt (I+1))(hg:wr.grownBy w' (some gT)):RoomT gT vt W2 base g ND c w' (I+1) L :=
 ⟨hT,h.hot.trans (HotBy.grown hg (.inl (by simp))),own_kept2 h.own hg hne,h.len,h.rng⟩
theorem RoomT.set{gT:Nat}{vt:Value}{W2:World}{base g ND c:Nat}{wr:World}{I:Nat}{L:List Int}(h:RoomT gT vt W2 base g ND c wr I L)(hne:g≠gT)(j:Nat)(x:Int)(hx:0<=x/\x<=4):RoomT gT vt W2 base g ND c (wr.setCell ⟨g,j,none⟩ (.int .i64 x)) I (L.set j x):=by
 have ho:=h.own;have hl:=h.len;subst hl
 exact⟨(Below.heap_setCell _ _ _ _ (fun e=>hne e.symm)).trans h.tape,h.hot.trans (HotBy.setCell _ _ _ _ (by simp)),ownI_set ho j x,List.length_set ..,fun y hy=>by
  rcases List.mem_or_eq_of_mem_set hy with h2 | h2
  ·exact h.rng y h2
  ·rw[h2];exact hx⟩
theorem rooms_any(N:Nat)(hN:N<=12)(gT:Nat)(vt:Value)(xs:List Int)(I:Nat)(vl vm vd vv vp vo:Value)(F:FltM)(w:World)(R RF:Nat->Prop)(hT:TapeB w gT vt I)(hx:IntS w R vt xs)(hR:∀b,R b->b<w.heap.size/\b≠gT)(hI:I<=100000)(hf:FleetS w RF vl vm vd vv vp vo F)(hRF:∀b,RF b->b<w.heap.size/\b≠gT)(hok:FleetOk N F) :
  Calls Tryz.prog 26 #[.pointer (some ⟨gT,0,none⟩),.agg #[.int .i64 F.ext,vl,vm,vd,vv,vp,vo]] w fun e w'=>∃v L I',e=.returned v/\(OwnI w' w.heap.size v L/\∀x∈L,0<=x/\x<=4)/\TapeB w' gT vt I'/\I'<=I+100/\w.grownBy w' (some gT):=by
 obtain⟨Al,nl,cl,hvl⟩:=hf.1.form3;obtain⟨Am,nm,cm,hvm⟩:=hf.2.1.form3;obtain⟨Ad,nd,cd,hvd⟩:=hf.2.2.1.form3;obtain⟨Av,nv,cv,hvv⟩:=hf.2.2.2.1.form3;obtain⟨Ap,np,cp,hvp⟩:=hf.2.2.2.2.1.form3;obtain⟨Ao,no,co,hvo⟩:=hf.2.2.2.2.2.form3;subst hvl hvm hvd hvv hvp hvo;obtain⟨ND,hND⟩:=zx F.dves.length;obtain⟨EX,hEX⟩:=zx F.ext;obtain⟨gF,hgF⟩:=zx w.heap.size;obtain⟨W1,hW1⟩:=zx (w.alloc (.cells #[.int .i64 EX,.slice Al nl cl,.slice Am nm cm,.slice Ad nd cd,.slice Av nv cv,.slice Ap np cp,.slice Ao no co] 35))
 have hb1:Below w.heap.size w W1:=by rw[hW1];exact(zB _ _).alloc (zR _) _
 have hfk:W1.heap[gF]?=some (.cells #[.int .i64 EX,.slice Al nl cl,.slice Am nm cm,.slice Ad nd cd,.slice Av nv cv,.slice Ap np cp,.slice Ao no co] 35 (0,0)):=by rw[hW1,hgF];exact zN _ _
 have hrm:=room_any N hN _ _ _ _ _ _ F W1 ((hf.keep (fun b hb=>hb1.block b (hRF b hb).1)).mono (fun b hb=>zM (hRF b hb).1 hb1.size)) hok;have HTL:=zh hT.lt;have HRM:=zh hrm;have HC:=zh (cells7 hfk);have HT1:=zh (show TapeB W1 gT vt I from(hb1.block gT hT.lt).trans hT);have HNX:=zh (show ∀(wr:World) (J:Nat),HotBy [some gT] w wr->TapeB wr gT vt J->J<=4611686018427387904->∀(n:Nat),1<=n->n<=4294967296->∀nv:Int,nv=(n:Int)->Calls Tryz.prog 61 #[.pointer (some ⟨gT,0,none⟩),.int .i64 nv] wr fun e w'=>∃r:Nat,e=.returned (.int .i64 (r:Int))/\r<n/\TapeB w' gT vt (J+1)/\wr.grownBy w' (some gT) from fun wr J hh hT hI n h1 h2 nv hn=>by subst hn;exact next_hot w R gT vt xs hx hR wr hh J hT hI n h1 h2);have HB1:=zh hb1;have HW1:=zh hW1;have HGF:=zh hgF;have HND:=zh hND;have HD1:=zh (And.intro hok.dve1 hok.dveN);have HI:=zh hI;rw[<-hEX] at HRM ⊢;clear hT hx hR hI hf hRF hok hND hEX hgF hW1 hb1 hfk hrm;go_enter Tryz.func26,Tryz.ntmps26;go_upto_region 1 with fail;rw[<-HW1.out,<-HGF.out];obtain⟨c0,c1,c2,c3,c4,c5,c6⟩:=HC.out;go_wp2_with fail;refine HRM.out.mono ?_;rintro e w2 ⟨v,l0,rfl,ho,hl,hr,hb2⟩;clear c0 c1 c2 c3 c4 c5 c6;rw[<-HND.out] at hl;obtain⟨g,c,rfl,hg1,hg2⟩:=ownI_at ho (fun e=>by rw[e] at hl;have:=HD1.out;have:=HND.out;simp at hl;omega);rw[hl] at ho ⊢;have HG:=zh (show g≠gT/\w.heap.size<=W1.heap.size/\W1.heap.size<=g from⟨by have:=HTL.out;have:=HB1.out.size;omega,HB1.out.size,hg1⟩);have HB2:=zh (HB1.out.trans (hb2.mono HB1.out.size));have HR0:=zh (show RoomT gT vt w2 W1.heap.size g ND c w2 I l0 from⟨(hb2.block gT (zM HTL.out HB1.out.size)).trans HT1.out,HotBy.refl _ _,ho,hl,fun x hx=>by have:=hr x hx;omega⟩)
 have d9:(ND:Int)<=9:=by have:=HD1.out;have:=HND.out;omega
 have HHW:=zh (show ∀w',HotBy [some gT,some g] w2 w'->HotBy [some gT] w w' from fun w' hh=>(HotBy.below HB2.out:HotBy [some gT] w w2).transNew hh (fun x e hx=>by simp at e ⊢;rcases e with e | e;exact e;have:=HG.out;omega));clear ho hl hr hb2 hg1 hg2 HRM HC;go_wp2_with fail;go_loopg [6] ND (fun z v6 wr=>∃(j I1:Nat) (L:List Int),j<=ND/\z=ND-j/\v6=.int .i64 (j:Int)/\Hid (I1<=I+2*j)/\Hid (RoomT gT vt w2 W1.heap.size g ND c wr I1 L))
 case atStart=>exact⟨0,I,l0,by omega,rfl,rfl,zh (by omega),HR0⟩
 case round =>
  obtain⟨j,I1,L,hj,rfl,rfl,HI1,HS⟩:=hrel;obtain⟨W3,hW3⟩:=zx wr;rw[<-hW3] at HS ⊢;clear hW3;by_cases hlt:j<ND
  ·have i1:(j:Int)<(ND:Int):=by omega
   go_wp2_with fail;refine(HNX.out W3 I1 (HHW.out _ HS.out.hot) HS.out.tape (by have:=HI1.out;have:=HI.out;omega) 9 (by omega) (by omega) 9 rfl).mono ?_;rintro e w5 ⟨r,rfl,hr,hT5,hg5⟩;have HS5:=zh (HS.out.next HG.out.1 hT5 hg5);clear hT5 hg5;obtain⟨x,hx⟩:∃x,L[j]?=some x:=⟨_,zG (by rw[HS5.out.len];exact hlt)⟩;have hxr:=HS5.out.rng x (List.mem_of_getElem? hx);have hcx:=ownI_cell HS5.out.own hx;obtain⟨x0,x1⟩:=hcx;by_cases h0:r=0
   ·have q0:((r:Int)==0)=true:=by simpa using h0
    clear h0 hx hxr;go_wp2_with fail;have HS6:=zh (HS5.out.set HG.out.1 j 0 (by omega));clear x0 x1;go_roundg (ND-(j+1))
    case measure=>omega
    case rel=>exact⟨j+1,I1+1,_,by omega,rfl,by go_num,zh (by have:=HI1.out;omega),HS6⟩
   ·have q0:((r:Int)==0)=false:=beq_eq_false_iff_ne.2 (by omega);by_cases h1:r=1
    ·have q1:((r:Int)==1)=true:=beq_iff_eq.2 (by omega);have m1:IntKind.i64.wrap (x+1)=x+1:=zI _ (by omega);obtain⟨xn,hxn⟩:∃xn:Nat,x+1=(xn:Int):=⟨(x+1).toNat,by omega⟩;have HXN:=zh (show 1<=xn/\xn<=5/\x+1=(xn:Int) from⟨by omega,by omega,hxn⟩);have HXC:=zh hx;clear h0 h1 hx hxr hxn;go_wp2_with fail;refine(HNX.out w5 (I1+1) (HHW.out _ HS5.out.hot) HS5.out.tape (by have:=HI1.out;have:=HI.out;omega) xn HXN.out.1 (by have:=HXN.out.2.1;omega) _ HXN.out.2.2).mono ?_;rintro e w6 ⟨r2,rfl,hr2,hT6,hg6⟩;have HS6:=zh (HS5.out.next HG.out.1 hT6 hg6);have HR2:=zh (show(0:Int)<=(r2:Int)/\(r2:Int)<=4 from by have:=HXN.out;omega);clear hT6 hg6 hr2 x0 x1 m1;have hcx:=ownI_cell HS6.out.own HXC.out;obtain⟨x0,x1⟩:=hcx;go_wp2_with fail;have HS7:=zh (HS6.out.set HG.out.1 j (r2:Int) HR2.out);clear x0 x1;go_roundg (ND-(j+1))
     case measure=>omega
     case rel=>exact⟨j+1,I1+1+1,_,by omega,rfl,by go_num,zh (by have:=HI1.out;omega),HS7⟩
    ·have q1:((r:Int)==1)=false:=beq_eq_false_iff_ne.2 (by omega);clear h0 h1 hx hxr x0 x1;go_wp2_with fail;go_roundg (ND-(j+1))
     case measure=>omega
     case rel=>exact⟨j+1,I1+1,_,by omega,rfl,by go_num,zh (by have:=HI1.out;omega),HS5⟩
  ·go_wp2_with fail;go_ret;have hh:=HHW.out _ HS.out.hot;exact⟨_,L,I1,rfl,⟨OwnI.base HS.out.own HG.out.2.1,HS.out.rng⟩,HS.out.tape,by have:=HI1.out;omega,⟨hh.os,hh.tape,hh.output,hh.size,fun b hb hne=>hh.block b hb (fun e=>by simp at e;exact hne (by rw[e]))⟩⟩
theorem size_case:(Tryz.prog.info? 39).map (·.size)=some 9:=by kernel_rfl
theorem made35r_any(vt:Value)(xs:List Int)(w:World)(hx:IntS w (Bl w.heap.size) vt xs) :
  Calls Tryz.prog 8 #[vt] w fun e w'=>∃vl vm vd vv vp vo vy Ar nr kr gT F L RM,e=.returned (.tuple #[.agg #[.int .i64 F.ext,vl,vm,vd,vv,vp,vo,vy,.slice Ar nr kr],.pointer (some ⟨gT,0,none⟩)])/\FleetS w' (Fr w.heap.size w'.heap.size) vl vm vd vv vp vo F/\SlS 1 RowIK w' (Fr w.heap.size w'.heap.size) vy L/\FleetOk 3 F/\LayOk F F.vols.length L/\Below w.heap.size w w'/\IntS w' (Fr w.heap.size w'.heap.size) (.slice Ar nr kr) RM:=by
 obtain⟨At,nt,ct,rfl⟩:∃A n c,vt=.slice A n c:=by obtain⟨A,c,e,-⟩:=hx.1;exact⟨A,_,c,e⟩
 obtain⟨W1,hW1⟩:=zx ((w.alloc (.cells #[.int .i64 0,.slice none 0 0,.slice none 0 0,.slice none 0 0,.slice none 0 0,.slice none 0 0,.slice none 0 0,.slice none 0 0,.slice none 0 0] 39)).alloc (.cells #[.slice At nt ct,.int .i64 0] 76));obtain⟨gR,hgR⟩:=zx w.heap.size;obtain⟨gT,hgT⟩:=zx (w.heap.size+1)
 have hb1:Below w.heap.size w W1:=by rw[hW1];exact((zB _ _).alloc (zR _) _).alloc (by simp) _
 have hT1:TapeB W1 gT (.slice At nt ct) 0:=by rw[hW1];exact heap_alloc_at _ _ _ (by rw[hgT];simp)
 have hr1:W1.heap[gR]?=some (.cells #[.int .i64 0,.slice none 0 0,.slice none 0 0,.slice none 0 0,.slice none 0 0,.slice none 0 0,.slice none 0 0,.slice none 0 0,.slice none 0 0] 39 (0,0)):=by rw[hW1,hgR];exact(zH _ _ _ (by simp)).trans (zN w _)
 have hz1:W1.heap.size=gT+1:=by rw[hW1,hgT];simp
 have hx1:IntS W1 (Bl w.heap.size) (.slice At nt ct) xs:=hx.keep (fun b hb=>hb1.block b hb)
 have hRT:∀b,Bl w.heap.size b->b<W1.heap.size/\b≠gT:=fun b hb=>by unfold Bl at hb;omega
 have HFL:=zh (fleet_any gT (.slice At nt ct) xs 0 3 W1 _ hT1 hx1 hRT (by omega) (by omega) (by omega));have HX1:=zh hx1;have HRT:=zh hRT;have HB1:=zh hb1;have HZ:=zh (show W1.heap.size=gT+1/\gT=gR+1/\gR=w.heap.size from⟨hz1,by omega,hgR⟩);have HR1:=zh hr1;have HW1:=zh hW1;have HGT:=zh hgT;have HGR:=zh hgR;clear hb1 hT1 hz1 hx1 hRT hW1 hgT hgR hr1 hx;go_enter Tryz.func8,Tryz.ntmps8;go_wp2_with fail;rw[<-HW1.out,<-HGT.out,<-HGR.out];refine HFL.out.mono ?_;rintro e w2 ⟨vl,vm,vd,vv,vp,vo,F,I0,rfl,hfs,hT2,hI0,hg,hok⟩;obtain⟨EX,hEX⟩:=zx F.ext;obtain⟨Al,nl,cl,rfl⟩:=hfs.1.form3;obtain⟨Am,nm,cm,rfl⟩:=hfs.2.1.form3;obtain⟨Ad,nd,cd,rfl⟩:=hfs.2.2.1.form3;obtain⟨Av,nv,cv,rfl⟩:=hfs.2.2.2.1.form3;obtain⟨Ap,np,cp,rfl⟩:=hfs.2.2.2.2.1.form3;obtain⟨Ao,no,co,rfl⟩:=hfs.2.2.2.2.2.form3;have hh2:HotBy [some gT] W1 w2:=HotBy.grown hg (.inl (by simp));have hf2:FleetS w2 (fun b=>gT<b/\b<w2.heap.size/\b≠gT) (.slice Al nl cl) (.slice Am nm cm) (.slice Ad nd cd) (.slice Av nv cv) (.slice Ap np cp) (.slice Ao no co) F:=hfs.mono (fun b hb=>⟨by have:=hb.1;have:=HZ.out.1;omega,hb.2,by have:=hb.1;have:=HZ.out.1;omega⟩);have HH2:=zh hh2;have HF2:=zh hf2;have HT2:=zh hT2;have HOK:=zh hok;have HI0:=zh hI0;have HEX:=zh hEX;rw[<-hEX];clear hfs hT2 hI0 hg hok hh2 hf2 hEX;go_upto_region 3 with fail;obtain⟨W3,hW3⟩:=zx (w2.alloc (.cells #[.int .i64 EX,.slice Al nl cl,.slice Am nm cm,.slice Ad nd cd,.slice Av nv cv,.slice Ap np cp,.slice Ao no co] 35));obtain⟨gF,hgF⟩:=zx w2.heap.size;rw[<-hW3,<-hgF];have hh3:HotBy [some gT] W1 W3:=HH2.out.trans (by rw[hW3];exact HotBy.alloc _ _ _)
 have hb3:Below w2.heap.size w2 W3:=by rw[hW3];exact(zB _ _).alloc (zR _) _
 have hk3:W3.heap[gF]?=some (.cells #[.int .i64 EX,.slice Al nl cl,.slice Am nm cm,.slice Ad nd cd,.slice Av nv cv,.slice Ap np cp,.slice Ao no co] 35 (0,0)):=by rw[hW3,hgF];exact zN _ _
 have hT3:TapeB W3 gT (.slice At nt ct) I0:=(hb3.block gT HT2.out.lt).trans HT2.out;have hx3:IntS W3 (Bl w.heap.size) (.slice At nt ct) xs:=HX1.out.keep (fun b hb=>hh3.block b (HRT.out b hb).1 (fun e=>by simp at e;exact(HRT.out b hb).2 e))
 have hR3:∀b,Bl w.heap.size b->b<W3.heap.size/\b≠gT:=fun b hb=>⟨zM (HRT.out b hb).1 hh3.size,(HRT.out b hb).2⟩
 have hf3:=HF2.out.keep (fun b hb=>hb3.block b hb.2.1)
 have hR4:∀b,(gT<b/\b<w2.heap.size/\b≠gT)->b<W3.heap.size/\b≠gT:=fun b hb=>⟨zM hb.2.1 hb3.size,hb.2.2⟩
 have HLA:=zh (HEX.out▸layout_any 3 (by omega) gT (.slice At nt ct) xs I0 _ _ _ _ _ _ F W3 _ _ hT3 hx3 hR3 (by have:=HI0.out;omega) hf3 hR4 HOK.out:Calls Tryz.prog 25 #[.pointer (some ⟨gT,0,none⟩),.agg #[.int .i64 EX,.slice Al nl cl,.slice Am nm cm,.slice Ad nd cd,.slice Av nv cv,.slice Ap np cp,.slice Ao no co]] W3 _);have HH3:=zh hh3;have HB3:=zh hb3;have HC3:=zh (cells7 hk3);have HK3:=zh hk3;have HG3:=zh (show gF<W3.heap.size/\gF≠gT/\gR<gF from⟨(zA.1 hk3).1,by have:=HT2.out.lt;omega,by have:=HH2.out.size;have:=HZ.out;omega⟩);clear hW3 hgF hh3 hb3 hk3 hT3 hx3 hR3 hf3 hR4;obtain⟨c0,c1,c2,c3,c4,c5,c6⟩:=HC3.out;go_wp2_with fail;refine HLA.out.mono ?_;rintro e w4 ⟨vL,L,I1,rfl,hsL,hLO,hT4,hI1,hg4⟩;obtain⟨AL,NL,cL,hvL⟩:=hsL.form3;subst hvL;clear c0 c1 c2 c3 c4 c5 c6 HLA;have hh4:HotBy [some gT] W3 w4:=HotBy.grown hg4 (.inl (by simp));have HL4:=zh hsL;have HLO:=zh hLO;have HZ3:=zh (show gT<W3.heap.size from by have:=HH3.out.size;have:=HZ.out.1;omega);have HS34:=zh hh4.size;have HF4:=zh ((HF2.out.keep (w':=w4) (fun b hb=>(hh4.block b (zM hb.2.1 HB3.out.size) (fun e=>by simp at e;exact hb.2.2 e)).trans (HB3.out.block b hb.2.1))).mono (R':=fun b=>gT<b/\b<w4.heap.size/\b≠gT) (fun b hb=>⟨hb.1,zM hb.2.1 (Nat.le_trans HB3.out.size hh4.size),hb.2.2⟩));have HKH:=zh (show ∀w',HotBy [some gT] w4 w'->w'.heap[gF]?=some (.cells #[.int .i64 EX,.slice Al nl cl,.slice Am nm cm,.slice Ad nd cd,.slice Av nv cv,.slice Ap np cp,.slice Ao no co] 35 (0,0)) from fun w' hh=>((hh4.trans hh).block gF HG3.out.1 (fun e=>by simp at e;exact HG3.out.2.1 e)).trans HK3.out);have HK:=zh (show ∀w',HotBy [some gT] w4 w'->(fun w'=>w'.cell? ⟨gF,0,none⟩=some (.int .i64 EX)/\w'.cell? ⟨gF,1,none⟩=some (.slice Al nl cl)/\w'.cell? ⟨gF,2,none⟩=some (.slice Am nm cm)/\w'.cell? ⟨gF,3,none⟩=some (.slice Ad nd cd)/\w'.cell? ⟨gF,4,none⟩=some (.slice Av nv cv)/\w'.cell? ⟨gF,5,none⟩=some (.slice Ap np cp)/\w'.cell? ⟨gF,6,none⟩=some (.slice Ao no co)) w' from fun w' hh=>cells7 (HKH.out w' hh));have HH4D:=zh (show HotBy [some gT] w4 w4.drew from(HotBy.refl _ _).drew);have HHW:=zh (show HotBy [some gT] w w4 from(HotBy.below HB1.out:HotBy [some gT] w W1).trans (HH3.out.trans hh4));have HTH:=zh (show ∀w',HotBy [some gT] w4 w'->w'.there gR 0 9 from fun w' hh=>there_new (((HH3.out.trans (hh4.trans hh)).block gR (by have:=HZ.out;omega) (fun e=>by simp at e;have:=HZ.out;omega)).trans HR1.out) (zR 9));have hT4d:TapeB w4.drew gT (.slice At nt ct) I1:=hT4;have HRM:=zh (HEX.out▸rooms_any 3 (by omega) gT (.slice At nt ct) xs I1 _ _ _ _ _ _ F w4.drew (Bl w.heap.size) (fun b=>gT<b/\b<w4.heap.size/\b≠gT) hT4d (HX1.out.keep (fun b hb=>(HH3.out.trans hh4).block b (HRT.out b hb).1 (fun e=>by simp at e;exact(HRT.out b hb).2 e))) (fun b hb=>⟨zM (HRT.out b hb).1 (HH3.out.trans hh4).size,(HRT.out b hb).2⟩) (by have:=HI0.out;omega) HF4.out (fun b hb=>hb.2) HOK.out:Calls Tryz.prog 26 #[.pointer (some ⟨gT,0,none⟩),.agg #[.int .i64 EX,.slice Al nl cl,.slice Am nm cm,.slice Ad nd cd,.slice Av nv cv,.slice Ap np cp,.slice Ao no co]] w4.drew _);clear hsL hLO hT4 hI1 hg4 hh4 hT4d HC3 HFL;go_upto_region 4 with fail;refine region_tail (S:=(fun w'=>w'.cell? ⟨gF,0,none⟩=some (.int .i64 EX)/\w'.cell? ⟨gF,1,none⟩=some (.slice Al nl cl)/\w'.cell? ⟨gF,2,none⟩=some (.slice Am nm cm)/\w'.cell? ⟨gF,3,none⟩=some (.slice Ad nd cd)/\w'.cell? ⟨gF,4,none⟩=some (.slice Av nv cv)/\w'.cell? ⟨gF,5,none⟩=some (.slice Ap np cp)/\w'.cell? ⟨gF,6,none⟩=some (.slice Ao no co))) [8] (by kernel_rfl) (HK.out _ HH4D.out) (fun hHeld=>?_);refine tk 0 15 ?_;refine tk 1 16 ?_;refine tk 2 17 ?_;refine tk 3 18 ?_;refine tk 6 21 ?_;refine rd1 4 (fun K hK=>?_);go_simp;(go_at_call 26;refine HRM.out.mono ?_;rintro e w5 ⟨vR,LR,I2,rfl,⟨hoR,hrR⟩,hT5,hI2,hg5⟩;have HH5:=zh (show HotBy [some gT] w4 w5 from((HotBy.refl _ _).drew:HotBy [some gT] w4 w4.drew).trans (HotBy.grown hg5 (.inl (by simp))));have HOR:=zh hoR;have HRR:=zh hrR;obtain⟨AR,nR,hvR⟩:=hoR.form;subst hvR;clear hoR hg5 hT5 hI2 hrR);go_wp2_with fail
 refine hK.out _ _ ?_ (fun hHeld=>?_)
 ·(first|exact HKS.out|exact HK.out _ HH5.out)
 clear hK K;(try simp only[Act.put,z1,z2,z3]);refine tk 5 20 ?_;refine rd1 7 (fun K hK=>?_);have HKS:=zh (show(fun w'=>w'.cell? ⟨gF,0,none⟩=some (.int .i64 EX)/\w'.cell? ⟨gF,1,none⟩=some (.slice Al nl cl)/\w'.cell? ⟨gF,2,none⟩=some (.slice Am nm cm)/\w'.cell? ⟨gF,3,none⟩=some (.slice Ad nd cd)/\w'.cell? ⟨gF,4,none⟩=some (.slice Av nv cv)/\w'.cell? ⟨gF,5,none⟩=some (.slice Ap np cp)/\w'.cell? ⟨gF,6,none⟩=some (.slice Ao no co)) (World.setCells w5 gR 0 [.int .i64 EX,.slice Al nl cl,.slice Am nm cm,.slice Ad nd cd,.slice Av nv cv,.slice Ap np cp,.slice Ao no co,.slice AL NL cL,.slice AR LR.length nR]) from cells7 ((setCells_other _ _ _ _ (by have:=HG3.out.2.2;omega)).trans (HKH.out _ HH5.out)));rw[if_pos (by rfl)];refine wp_store_mid 39 (.tmp 2) (.tmp 20) rfl gR 0 #[.int .i64 EX,.slice Al nl cl,.slice Am nm cm,.slice Ad nd cd,.slice Av nv cv,.slice Ap np cp,.slice Ao no co,.slice AL NL cL,.slice AR LR.length nR] (by rfl) (by rfl) (HTH.out _ HH5.out) size_case (by simp[Value.oneCell']) ?_;refine hK.out _ _ ?_ (fun hHeld=>?_)
 ·(first|exact HKS.out|exact HK.out _ HH5.out)
 clear hK K;(try simp only[Act.put,z1,z2,z3]);refine rd1T 8 (fun K hK=>?_);rw[if_pos (by rfl)];go_simp;refine hK.out _ _ ?_;clear hK K;(try simp only[Act.put,z1,z2,z3]);refine doneT (by kernel_rfl) ?_ _;clear hHeld;have hgr:=World.rangeAt_setCells_same _ _ _ [.int .i64 EX,.slice Al nl cl,.slice Am nm cm,.slice Ad nd cd,.slice Av nv cv,.slice Ap np cp,.slice Ao no co,.slice AL NL cL,.slice AR LR.length nR] (HTH.out _ HH5.out)
 have hkp:∀b,b≠gR->(World.setCells w5 gR 0 [.int .i64 EX,.slice Al nl cl,.slice Am nm cm,.slice Ad nd cd,.slice Av nv cv,.slice Ap np cp,.slice Ao no co,.slice AL NL cL,.slice AR LR.length nR]).heap[b]?=w5.heap[b]?:=fun b hb=>setCells_other _ _ _ _ hb
 have hsz:=setCells_sizeK (g:=gR) [.int .i64 EX,.slice Al nl cl,.slice Am nm cm,.slice Ad nd cd,.slice Av nv cv,.slice Ap np cp,.slice Ao no co,.slice AL NL cL,.slice AR LR.length nR] 0 w5;have hfl:=setCells_flat (g:=gR) [.int .i64 EX,.slice Al nl cl,.slice Am nm cm,.slice Ad nd cd,.slice Av nv cv,.slice Ap np cp,.slice Ao no co,.slice AL NL cL,.slice AR LR.length nR] 0 w5;obtain⟨W6,hW6⟩:=zx (World.setCells w5 gR 0 [.int .i64 EX,.slice Al nl cl,.slice Am nm cm,.slice Ad nd cd,.slice Av nv cv,.slice Ap np cp,.slice Ao no co,.slice AL NL cL,.slice AR LR.length nR]);rw[<-hW6] at hgr hkp hsz hfl ⊢;clear hW6;go_wp2_with fail
 have hb6:Below w.heap.size w W6:=by
  have h1:=HHW.out.trans HH5.out;refine⟨hfl.1.trans h1.os,hfl.2.1.trans h1.tape,hfl.2.2.trans h1.output,by rw[hsz];exact h1.size,fun b hb=>?_⟩;rw[hkp b (by have:=HZ.out;omega)];exact h1.block b hb (fun e=>by simp at e;have:=HZ.out;omega)
 have hf6:FleetS W6 (Fr w.heap.size W6.heap.size) (.slice Al nl cl) (.slice Am nm cm) (.slice Ad nd cd) (.slice Av nv cv) (.slice Ap np cp) (.slice Ao no co) F:=(HF4.out.keep (w':=W6) (fun b hb=>(hkp b (by have:=HZ.out;have:=hb.1;omega)).trans (HH5.out.block b hb.2.1 (fun e=>by simp at e;exact hb.2.2 e)))).mono (fun b hb=>⟨by have:=HZ.out;have:=hb.1;omega,by rw[hsz];exact zM hb.2.1 HH5.out.size⟩);have hl6:SlS 1 RowIK W6 (Fr w.heap.size W6.heap.size) (.slice AL NL cL) L:=(SlS.keep rowIK HL4.out (w':=W6) (fun b hb=>(hkp b (by have:=HZ.out;have:=HZ3.out;have:=hb.1;omega)).trans (HH5.out.block b hb.2 (fun e=>by simp at e;have:=HZ.out;have:=HZ3.out;have:=hb.1;omega)))).mono rowIK (fun b hb=>⟨by have:=HZ.out;have:=HZ3.out;have:=hb.1;omega,by rw[hsz];exact zM hb.2 HH5.out.size⟩);have hr6:IntS W6 (Fr w.heap.size W6.heap.size) (.slice AR LR.length nR) LR:=(IntS.keep (w':=W6) (HOR.out.intS (fun x hx=>by have:=HRR.out x hx;unfold I64;omega)) (fun b hb=>hkp b (by have:=HZ.out;have:=HZ3.out;have:=HS34.out;have:=HH4D.out.size;have:=HHW.out.size;have:=hb.1;omega))).mono (fun b hb=>⟨by have:=HHW.out.size;have:=HH4D.out.size;have:=hb.1;omega,by rw[hsz];exact hb.2⟩);have hld:=run_loadVar_mid (P:=Tryz.prog) W6 gR 0 39 _ _ hgr Tryz.underlying39 rfl size_case;exact bodyPost_ret (v:=.tuple #[.agg #[.int .i64 EX,.slice Al nl cl,.slice Am nm cm,.slice Ad nd cd,.slice Av nv cv,.slice Ap np cp,.slice Ao no co,.slice AL NL cL,.slice AR LR.length nR],.pointer (some ⟨gT,0,none⟩)]) (by simp[results,Tryz.results8,asAddr,hld]) rfl ⟨_,_,_,_,_,_,_,_,_,_,gT,F,by rw[<-HEX.out],hf6,L,hl6,HOK.out,HLO.out,hb6,LR,hr6⟩
theorem made35_any(vt:Value)(xs:List Int)(w:World)(hx:IntS w (Bl w.heap.size) vt xs) :
  Calls Tryz.prog 8 #[vt] w fun e w'=>∃vl vm vd vv vp vo vy Ar nr kr gT F L,e=.returned (.tuple #[.agg #[.int .i64 F.ext,vl,vm,vd,vv,vp,vo,vy,.slice Ar nr kr],.pointer (some ⟨gT,0,none⟩)])/\FleetS w' (Fr w.heap.size w'.heap.size) vl vm vd vv vp vo F/\SlS 1 RowIK w' (Fr w.heap.size w'.heap.size) vy L/\FleetOk 3 F/\LayOk F F.vols.length L/\Below w.heap.size w w' :=
 (made35r_any vt xs w hx).mono fun _ _ ⟨vl,vm,vd,vv,vp,vo,vy,Ar,nr,kr,gT,F,L,_,h1,h2,h3,h4,h5,h6,_⟩=>⟨vl,vm,vd,vv,vp,vo,vy,Ar,nr,kr,gT,F,L,h1,h2,h3,h4,h5,h6⟩
theorem size_polC:(Tryz.prog.info? 55).map (·.size)=some 17:=by kernel_rfl
theorem within_natC(x n:Int)(h:1<=n):∃a:Nat,within x n=(a:Int)/\(a:Int)<n:=by
 have hr:=within_range x n h;exact⟨(within x n).toNat,by omega,by omega⟩
theorem raised_any(N:Nat)(vl vm vd vv vp vo:Value)(F:FltM)(p m q:Int)(w:World)(hf:FleetS w (Bl w.heap.size) vl vm vd vv vp vo F)(hok:FleetOk N F)(hp:I64 p)(hm:I64 m)(hq:I64 q) :
  Calls Tryz.prog 13 #[.agg #[.int .i64 F.ext,vl,vm,vd,vv,vp,vo],.int .i64 p,.int .i64 m,.int .i64 q] w fun e w'=>∃(pi:Nat) (x:PolM) (a b:Nat),F.pols[pi]?=some x/\within p F.pols.length=pi/\a<3/\within m 3=a/\((b:Int)<=x.m+a/\within q (x.m+a+1)=b)/\e=.returned (.tuple #[.int .i64 (pi:Int),.int .i64 (x.m+a),.int .i64 (x.k+b)])/\Below w.heap.size w w':=by
 obtain⟨Al,nl,cl,rfl⟩:=hf.1.form3;obtain⟨Am,nm,cm,rfl⟩:=hf.2.1.form3;obtain⟨Ad,nd,cd,rfl⟩:=hf.2.2.1.form3;obtain⟨Av,nv,cv,rfl⟩:=hf.2.2.2.1.form3;obtain⟨Ap,cp,hvp,-⟩:=hf.2.2.2.2.1.form;subst hvp;obtain⟨Ao,no,co,rfl⟩:=hf.2.2.2.2.2.form3;obtain⟨pi,hpi,hpl⟩:=within_natC p (F.pols.length:Int) (by have:=hok.pol1;omega)
 have hpl':pi<F.pols.length:=by omega
 obtain⟨x,hx⟩:∃x,F.pols[pi]?=some x:=⟨_,zG hpl'⟩;obtain⟨pb,pof,cs,hAp,hRp,hcl,hc,hK⟩:=hf.2.2.2.2.1.at_ (k:=pi) hpl';rw[(zL.1 hx).2] at hK;subst hAp;obtain⟨v1,v2,v3,v4,v5,v6,rfl,i1,i2,i3,i4,i5,i6⟩:=hK
 obtain⟨A1,N1,k1,rfl⟩:∃A n c,v1=.slice A n c:=by obtain⟨A,c,e,-⟩:=i1.1;exact⟨A,_,c,e⟩
 obtain⟨A2,N2,k2,rfl⟩:=i2.form3;obtain⟨A3,N3,k3,rfl⟩:=i3.frm;obtain⟨A4,N4,k4,rfl⟩:=i4.frm;obtain⟨A5,N5,k5,rfl⟩:=i5.frm;obtain⟨A6,N6,k6,rfl⟩:=i6.frm;obtain⟨-,-,hw⟩:=hok.pols pi x hx;obtain⟨hk1,hm0,hm4,-⟩:=hw;obtain⟨NP,hNP⟩:=zx F.pols.length;obtain⟨K0,hK0⟩:=zx x.k;obtain⟨M0,hM0⟩:=zx x.m;rw[<-hK0,<-hM0] at hc;obtain⟨a,ha,ha3⟩:=within_natC m 3 (by omega);obtain⟨b,hb,hbn⟩:=within_natC q (M0+(a:Int)+1) (by omega);rw[<-hM0] at hm0 hm4;rw[<-hK0] at hk1
 have hrg:w.rangeAt pb (pof+pi*17) [.string x.name,.int .i64 K0,.int .i64 M0,.int .i64 x.q,.int .i64 0,.int .i64 0,.int .i64 0,.int .i64 x.s3,.int .i64 x.s4,.slice A1 N1 k1,.slice A2 N2 k2,.bool x.target.neg,.slice A3 N3 k3,.slice A4 N4 k4,.bool x.horizon.neg,.slice A5 N5 k5,.slice A6 N6 k6]:=fun i u hu=>hc i u hu
 obtain⟨W1,hW1⟩:=zx (w.alloc (.cells #[.int .i64 F.ext,.slice Al nl cl,.slice Am nm cm,.slice Ad nd cd,.slice Av nv cv,.slice (some ⟨pb,pof,none⟩) NP cp,.slice Ao no co] 35));obtain⟨gF,hgF⟩:=zx w.heap.size
 have hb1:Below w.heap.size w W1:=by rw[hW1];exact(zB _ _).alloc (zR _) _
 have hfk:W1.heap[gF]?=some (.cells #[.int .i64 F.ext,.slice Al nl cl,.slice Am nm cm,.slice Ad nd cd,.slice Av nv cv,.slice (some ⟨pb,pof,none⟩) NP cp,.slice Ao no co] 35 (0,0)):=by rw[hW1,hgF];exact zN _ _
 have HBK:=zh (show ∀w',Below W1.heap.size W1 w'->Below w.heap.size w w' from fun w' hb=>hb1.trans (hb.mono hb1.size));have HC1:=zh (cells7 hfk);have HRG:=zh (show ∀w',Below W1.heap.size W1 w'->w'.rangeAt pb (pof+pi*17) [.string x.name,.int .i64 K0,.int .i64 M0,.int .i64 x.q,.int .i64 0,.int .i64 0,.int .i64 0,.int .i64 x.s3,.int .i64 x.s4,.slice A1 N1 k1,.slice A2 N2 k2,.bool x.target.neg,.slice A3 N3 k3,.slice A4 N4 k4,.bool x.horizon.neg,.slice A5 N5 k5,.slice A6 N6 k6] from fun w' hb=>range_same hrg ((hb1.trans (hb.mono hb1.size)).block pb hRp));have HX:=zh (show F.pols[pi]?=some x/\within p NP=pi/\a<3/\within m 3=a from⟨hx,by rw[hNP];exact hpi,by omega,ha⟩);have HBB:=zh (show(b:Int)<=M0+a/\within q (M0+a+1)=b from⟨by omega,hb⟩);have HKM:=zh (show K0=x.k/\M0=x.m/\(K0=1\/K0=2)/\0<=M0/\M0<=4/\a<3/\(b:Int)<=M0+a from⟨hK0,hM0,hk1,hm0,hm4,by omega,by omega⟩);have HP64:=zh (And.intro hp (And.intro hm hq));have HNP:=zh (show 1<=NP/\NP<=2/\pi<NP from⟨by have:=hok.pol1;omega,by have:=hok.polN;omega,by omega⟩);have HWP:=zh (show within p (NP:Int)=(pi:Int) by rw[hNP];exact hpi);have HWM:=zh ha;have HWQ:=zh hb;have HW1:=zh hW1;have HGF:=zh hgF;have HEN:=zh hNP;rw[<-hNP];clear hf hok hp hm hq hpi hpl hpl' hx hRp hcl hc i1 i2 i3 i4 i5 i6 hk1 hm0 hm4 hNP hK0 hM0 ha ha3 hb hbn hrg hW1 hgF hb1 hfk
 have lp1:(pi:Int)<(NP:Int):=by have:=HNP.out;omega
 go_enter Tryz.func13,Tryz.ntmps13;go_upto_region 1 with fail;rw[<-HW1.out,<-HGF.out];obtain⟨c0,c1,c2,c3,c4,c5,c6⟩:=HC1.out;go_wp2_with fail;refine(within_any p (NP:Int) _ HP64.out.1 (by have:=HNP.out;unfold I64;omega)).mono ?_;rintro e w9 ⟨rfl,rfl⟩;rw[HWP.out];go_upto_region 2 with fail;refine wp_region_lit ?_;refine wpList_plain rfl (fun K hK=>?_);go_simp;refine hK _ _ ?_;clear hK;(try simp only[Act.put,z1,z2,z3]);refine wpList_plain rfl (fun K hK=>?_);go_simp;refine hK _ _ ?_;clear hK;(try simp only[Act.put,z1,z2,z3]);refine wpList_plain rfl (fun K hK=>?_);go_simp;refine hK _ _ ?_;clear hK;(try simp only[Act.put,z1,z2,z3]);refine wpList_plain rfl (fun K hK=>?_);go_simp;refine hK _ _ ?_;clear hK;(try simp only[Act.put,z1,z2,z3]);refine wpList_load_mid rfl 55 (.tmp 20) rfl pb (pof+pi*17) (by rfl) [.string x.name,.int .i64 K0,.int .i64 M0,.int .i64 x.q,.int .i64 0,.int .i64 0,.int .i64 0,.int .i64 x.s3,.int .i64 x.s4,.slice A1 N1 k1,.slice A2 N2 k2,.bool x.target.neg,.slice A3 N3 k3,.slice A4 N4 k4,.bool x.horizon.neg,.slice A5 N5 k5,.slice A6 N6 k6] _ (HRG.out W1 (zB _ _)) Tryz.underlying55 rfl size_polC ?_;(try simp only[Act.put,z1,z2,z3]);refine wpList_plain rfl (fun K hK=>?_);go_simp;refine hK _ _ ?_;clear hK;(try simp only[Act.put,z1,z2,z3]);obtain⟨W3,hW3⟩:=zx (W1.alloc (.cells #[.string ⟨#[]⟩,.int .i64 0,.int .i64 0,.int .i64 0,.int .i64 0,.int .i64 0,.int .i64 0,.int .i64 0,.int .i64 0,.slice none 0 0,.slice none 0 0,.bool false,.slice none 0 0,.slice none 0 0,.bool false,.slice none 0 0,.slice none 0 0] 55));obtain⟨gP,hgP⟩:=zx W1.heap.size;rw[<-hW3,<-hgP]
 have hb3:Below W1.heap.size W1 W3:=by rw[hW3];exact(zB _ _).alloc (zR _) _
 have hpk:W3.heap[gP]?=some (.cells #[.string ⟨#[]⟩,.int .i64 0,.int .i64 0,.int .i64 0,.int .i64 0,.int .i64 0,.int .i64 0,.int .i64 0,.int .i64 0,.slice none 0 0,.slice none 0 0,.bool false,.slice none 0 0,.slice none 0 0,.bool false,.slice none 0 0,.slice none 0 0] 55 (0,0)):=by rw[hW3,hgP];exact zN _ _
 have hth:W3.there gP 0 17:=there_new hpk (zR 17);refine wpList_store_mid rfl 55 (.tmp 11) (.tmp 21) rfl gP 0 #[.string x.name,.int .i64 K0,.int .i64 M0,.int .i64 x.q,.int .i64 0,.int .i64 0,.int .i64 0,.int .i64 x.s3,.int .i64 x.s4,.slice A1 N1 k1,.slice A2 N2 k2,.bool x.target.neg,.slice A3 N3 k3,.slice A4 N4 k4,.bool x.horizon.neg,.slice A5 N5 k5,.slice A6 N6 k6] (by rfl) (by rfl) hth size_polC (by simp[Value.oneCell']) ?_;(try simp only[Act.put,z1,z2,z3]);have hr4:=World.rangeAt_setCells_same _ _ _ [.string x.name,.int .i64 K0,.int .i64 M0,.int .i64 x.q,.int .i64 0,.int .i64 0,.int .i64 0,.int .i64 x.s3,.int .i64 x.s4,.slice A1 N1 k1,.slice A2 N2 k2,.bool x.target.neg,.slice A3 N3 k3,.slice A4 N4 k4,.bool x.horizon.neg,.slice A5 N5 k5,.slice A6 N6 k6] hth;have hb4:Below W1.heap.size W1 (World.setCells W3 gP 0 [.string x.name,.int .i64 K0,.int .i64 M0,.int .i64 x.q,.int .i64 0,.int .i64 0,.int .i64 0,.int .i64 x.s3,.int .i64 x.s4,.slice A1 N1 k1,.slice A2 N2 k2,.bool x.target.neg,.slice A3 N3 k3,.slice A4 N4 k4,.bool x.horizon.neg,.slice A5 N5 k5,.slice A6 N6 k6]):=below_setCellsV (by omega) _ _ _ hb3;have hs4:=setCells_sizeK (g:=gP) [.string x.name,.int .i64 K0,.int .i64 M0,.int .i64 x.q,.int .i64 0,.int .i64 0,.int .i64 0,.int .i64 x.s3,.int .i64 x.s4,.slice A1 N1 k1,.slice A2 N2 k2,.bool x.target.neg,.slice A3 N3 k3,.slice A4 N4 k4,.bool x.horizon.neg,.slice A5 N5 k5,.slice A6 N6 k6] 0 W3;obtain⟨W4,hW4⟩:=zx (World.setCells W3 gP 0 [.string x.name,.int .i64 K0,.int .i64 M0,.int .i64 x.q,.int .i64 0,.int .i64 0,.int .i64 0,.int .i64 x.s3,.int .i64 x.s4,.slice A1 N1 k1,.slice A2 N2 k2,.bool x.target.neg,.slice A3 N3 k3,.slice A4 N4 k4,.bool x.horizon.neg,.slice A5 N5 k5,.slice A6 N6 k6]);rw[<-hW4] at hr4 hb4 hs4 ⊢
 have hgl:gP<W4.heap.size:=by rw[hs4,hW3,hgP];simp
 have e1:W4.cell? ⟨gP,1,none⟩=some (.int .i64 K0):=hr4 1 _ rfl;have e2:W4.cell? ⟨gP,2,none⟩=some (.int .i64 M0):=hr4 2 _ rfl;have HS4:=zh (show ∀w',Below W4.heap.size W4 w'->(fun w'=>w'.cell? ⟨gP,1,none⟩=some (.int .i64 K0)/\w'.cell? ⟨gP,2,none⟩=some (.int .i64 M0)) w' from fun w' hb=>⟨(hb.cell (p:=⟨gP,1,none⟩) hgl).trans e1,(hb.cell (p:=⟨gP,2,none⟩) hgl).trans e2⟩);have HBK2:=zh (show ∀w',Below W4.heap.size W4 w'->Below w.heap.size w w' from fun w' hb=>HBK.out w' (hb4.trans (hb.mono hb4.size)));have HB4:=zh (zB W4.heap.size W4);have m1:IntKind.i64.wrap (M0+(a:Int))=M0+(a:Int):=zI _ (by have:=HKM.out;omega);have m2:IntKind.i64.wrap (M0+(a:Int)+1)=M0+(a:Int)+1:=zI _ (by have:=HKM.out;omega);have m3:IntKind.i64.wrap (K0+(b:Int))=K0+(b:Int):=zI _ (by have:=HKM.out;omega);clear hW3 hgP hb3 hpk hth hr4 hb4 hs4 hW4 hgl e1 e2 c0 c1 c2 c3 c4 c5 c6;go_upto_region 3 with fail;refine region_tail (S:=(fun w'=>w'.cell? ⟨gP,1,none⟩=some (.int .i64 K0)/\w'.cell? ⟨gP,2,none⟩=some (.int .i64 M0))) [] (by kernel_rfl) (HS4.out _ HB4.out.drew) (fun hHeld=>?_);refine tk 0 22 ?_;refine tk 1 23 ?_;refine tk 2 24 ?_;refine rd1 3 (fun K hK=>?_);go_simp;(go_at_call 10;refine(within_any m 3 _ HP64.out.2.1 (by unfold I64;omega)).mono ?_;rintro e w9 ⟨rfl,rfl⟩;rw[HWM.out]);go_wp2_with fail;refine hK.out _ _ ?_ (fun hHeld=>?_)
 ·exact HS4.out _ HB4.out.drew
 clear hK K;(try simp only[Act.put,z1,z2,z3]);refine tk 4 26 ?_;refine tk 5 2 ?_;refine doneT (by kernel_rfl) ?_ _;clear hHeld;have HB5:=zh HB4.out.drew;obtain⟨W5,hW5⟩:=zx W4.drew;rw[<-hW5] at HB5 ⊢;clear hW5;go_upto_region 4 with fail;refine region_tail (S:=(fun w'=>w'.cell? ⟨gP,1,none⟩=some (.int .i64 K0)/\w'.cell? ⟨gP,2,none⟩=some (.int .i64 M0))) [] (by kernel_rfl) (HS4.out _ HB5.out.drew) (fun hHeld=>?_);refine tk 0 27 ?_;refine tk 1 28 ?_;refine tk 2 29 ?_;refine tk 3 30 ?_;refine tk 4 31 ?_;refine tk 5 32 ?_;refine tk 6 33 ?_;refine rd1 7 (fun K hK=>?_);go_simp;(go_at_call 10;refine(within_any q (M0+(a:Int)+1) _ HP64.out.2.2 (by have:=HKM.out;unfold I64;omega)).mono ?_;rintro e w9 ⟨rfl,rfl⟩;rw[HWQ.out]);go_wp2_with fail;refine hK.out _ _ ?_ (fun hHeld=>?_)
 ·exact HS4.out _ HB5.out.drew
 clear hK K;(try simp only[Act.put,z1,z2,z3]);refine tk 8 35 ?_;refine tk 9 8 ?_;refine tk 10 9 ?_;refine tk 11 10 ?_;refine doneT (by kernel_rfl) ?_ _;clear hHeld;go_wp2_with fail;go_ret3;exact⟨pi,x,a,b,HX.out.1,HX.out.2.1,HX.out.2.2.1,HX.out.2.2.2,by rw[<-HKM.out.2.1];exact HBB.out,by rw[<-HKM.out.1,<-HKM.out.2.1];rfl,HBK2.out _ HB5.out.drew⟩
theorem small_any(neg:Bool)(An Ad:Option Addr)(nn cn nd cd:Nat)(w:World) :
  Calls Tryz.prog 30 #[.agg #[.bool neg,.slice An nn cn,.slice Ad nd cd]] w fun e w'=>e=.returned (.bool (decide (nn<=1)&&decide (nd<=1)))/\Below w.heap.size w w':=by
 by_cases h1:nn<=1
 ·have q1:decide ((nn:Int)<=1)=true:=decide_eq_true (by omega)
  have hr:(decide (nn<=1)&&decide (nd<=1))=decide ((nd:Int)<=1):=by
   rw[decide_eq_true h1,Bool.true_and];exact decide_eq_decide.2 (by omega)
  have HR:=zh hr;clear h1 hr;go_enter Tryz.func30,Tryz.ntmps30;go_wp2_with fail;go_ret;exact⟨ret_bool HR.out.symm,(zB _ _).alloc (zR _) _⟩
 ·have q1:decide ((nn:Int)<=1)=false:=decide_eq_false (by omega)
  have hr:(decide (nn<=1)&&decide (nd<=1))=false:=by rw[decide_eq_false h1,Bool.false_and]
  have HR:=zh hr;clear h1 hr;go_enter Tryz.func30,Tryz.ntmps30;go_wp2_with fail;go_ret;exact⟨ret_bool HR.out.symm,(zB _ _).alloc (zR _) _⟩
theorem code_any(k m:Int)(w:World)(h1:1<=k)(h2:k<=6)(h3:0<=m)(h4:m<=4)(h5:k+m<=8) :
  Calls Tryz.prog 32 #[.int .i64 k,.int .i64 m] w fun e w'=>e=.returned (.bool true)/\w=w':=by
 have q1:decide (1<=k)=true:=decide_eq_true h1;have q2:decide (k<=6)=true:=decide_eq_true h2;have q3:decide (0<=m)=true:=decide_eq_true h3;have q4:decide (m<=4)=true:=decide_eq_true h4;have q6:IntKind.i64.wrap (k+m)=k+m:=zI _ (by omega);have q5:decide (k+m<=8)=true:=decide_eq_true h5;clear h1 h2 h3 h4 h5;go_enter Tryz.func32,Tryz.ntmps32;go_wp2_with fail;go_ret;exact⟨rfl,rfl⟩
structure RowA {α:Type} (size:Nat) (K:World->(Nat->Prop)->List Value->α->Prop) (w:World) (T:TypeId) (g n:Nat) (es:List α) (R:Nat->Prop):Prop where
 apart:¬R g
 room:es.length<=n
 most:n<=maxLen
 row:∃cs:Array Value,w.heap[g]?=some (.cells cs T (0,0))/\cs.size=n*size/\∀k x,es[k]?=some x->∃c,c.length=size/\(∀i u,c[i]?=some u->cs[k*size+i]?=some u)/\K w R c x
section
variable {α : Type} {size : Nat} {K : World -> (Nat -> Prop) -> List Value -> α -> Prop} {w : World} {T : TypeId} {g n : Nat} {es : List α} {R : Nat -> Prop}
theorem RowA.lt(h:RowA size K w T g n es R):g<w.heap.size:=by
 obtain⟨cs,h1,-⟩:=h.row;exact(zA.1 h1).1
theorem RowA.keep(hK:Steady K)(h:RowA size K w T g n es R){w':World}(hk:Kept R w w')(hg:w'.heap[g]?=w.heap[g]?):RowA size K w' T g n es R:=by
 obtain⟨cs,h1,h2,h3⟩:=h.row;refine⟨h.apart,h.room,h.most,cs,hg.trans h1,h2,fun k x hx=>?_⟩;obtain⟨c,e1,e2,e3⟩:=h3 k x hx;exact⟨c,e1,e2,hK.keep hk e3⟩
theorem RowA.mono(hK:Steady K)(h:RowA size K w T g n es R){R':Nat->Prop}(hr:∀b,R b->R' b)(hg:¬R' g):RowA size K w T g n es R':=by
 obtain⟨cs,h1,h2,h3⟩:=h.row;refine⟨hg,h.room,h.most,cs,h1,h2,fun k x hx=>?_⟩;obtain⟨c,e1,e2,e3⟩:=h3 k x hx;exact⟨c,e1,e2,hK.mono hr e3⟩
theorem RowA.at_(h:RowA size K w T g n es R){k:Nat}{x:α}(hx:es[k]?=some x):∃c,c.length=size/\w.rangeAt g (k*size) c/\K w R c x:=by
 obtain⟨cs,h1,h2,h3⟩:=h.row;obtain⟨c,e1,e2,e3⟩:=h3 k x hx;exact⟨c,e1,fun j v hv=>by rw[cell_of_row _ _ _ _ _ _ h1];exact e2 j v hv,e3⟩
theorem RowA.there(h:RowA size K w T g n es R){o m:Nat}(ho:o+m<=n*size):w.there g o m:=by
 obtain⟨cs,h1,h2,-⟩:=h.row;intro k hk;exact⟨by rw[cell_of_row _ _ _ _ _ _ h1,Array.getElem?_eq_getElem (by omega)];rfl,frozen_of_row _ _ _ _ _ h1⟩
theorem RowA.froze(h:RowA size K w T g n es R)(i:Nat):w.frozen? ⟨g,i,none⟩=false:=by
 obtain⟨cs,h1,-⟩:=h.row;exact frozen_of_row _ _ _ _ _ h1
theorem RowA.slS(hK:Steady K)(h:RowA size K w T g n es R){R':Nat->Prop}(hr:∀b,R b->R' b)(hg:R' g):SlS size K w R' (.slice (some ⟨g,0,none⟩) es.length n) es:=by
 obtain⟨cs,h1,h2,h3⟩:=h.row;refine⟨_,n,rfl,h.room,Nat.le_trans h.room h.most,fun _=>⟨g,0,rfl,hg,fun k a ha=>?_⟩⟩;obtain⟨c,g1,g2,g3⟩:=h3 k a ha;refine⟨c,g1,fun i u hu=>?_,hK.mono hr g3⟩;rw[cell_of_row _ _ _ _ _ _ h1,Nat.zero_add];exact g2 i u hu
theorem OwnK.rowA(hK:Steady K){base:Nat}{v:Value}(h:OwnK size K w base T v es R)(h0:es≠[])(hR:∀b,R b->b<base):∃g c,v=.slice (some ⟨g,0,none⟩) es.length c/\base<=g/\RowA size K w T g c es R:=by
 obtain⟨cs,h1,h2⟩:=h;rcases h1.2 with ⟨rfl,h3⟩ | ⟨g,cap,cur,rfl,hb,hg,h4,h5,h6,h7⟩
 ·exact absurd (List.eq_nil_of_length_eq_zero h3) h0
 ·refine⟨g,cap,rfl,hb,⟨fun hc=>by have:=hR g hc;omega,h4,h5,cur,hg,h6,fun k x hx=>?_⟩⟩;obtain⟨c,g1,g2,g3⟩:=h2 k x hx;refine⟨c,g1,fun i u hu=>?_,g3⟩;have h8:=g2 i u hu;rw[<-h7,List.getElem?_take] at h8;split at h8
  ·rw[<-Array.getElem?_toList];exact h8
  ·simp at h8
def seg(c:List Value)(o:Nat)(vs:List Value):List Value:=c.take o++vs++c.drop (o+vs.length)
theorem seg_spec{c:List Value}{o:Nat}{vs:List Value}(h:o+vs.length<=c.length):(seg c o vs).length=c.length/\(∀i,(i<o\/o+vs.length<=i)->(seg c o vs)[i]?=c[i]?)/\∀i u,vs[i]?=some u->(seg c o vs)[o+i]?=some u:=by
 unfold seg
 have ht:(c.take o).length=o:=by simp;omega
 refine⟨by simp;omega,fun i hi=>?_,fun i u hu=>?_⟩
 ·rcases hi with hi | hi
  ·rw[List.append_assoc,List.getElem?_append_left (by omega),List.getElem?_take,if_pos hi]
  ·rw[List.getElem?_append_right (by simp;omega),List.getElem?_drop]
   congr 1
   simp;omega
 ·have hl:=(zL.1 hu).1;rw[List.append_assoc,List.getElem?_append_right (by omega),ht,Nat.add_sub_cancel_left,List.getElem?_append_left hl];exact hu
theorem RowA.put(hK:Steady K)(h:RowA size K w T g n es R){k o:Nat}{x a:α}{es':List α}(vs:List Value)(hx:es[k]?=some x)(ho:o+vs.length<=size){R':Nat->Prop}(hr:∀b,R b->R' b)(hg:¬R' g)(hl:es'.length=es.length)(ha:es'[k]?=some a)(hoth:∀i,i≠k->es'[i]?=es[i]?)
  (hn:∀c,c.length=size->w.rangeAt g (k*size) c->K w R c x->K w R' (seg c o vs) a):RowA size K (w.setCells g (k*size+o) vs) T g n es' R':=by
 obtain⟨cs,h1,h2,h3⟩:=h.row;have hk:k<es.length:=(zL.1 hx).1;have hle:(k+1)*size<=n*size:=Nat.mul_le_mul_right _ (by have:=h.room;omega);rw[Nat.succ_mul] at hle;obtain⟨cs',g1,g2,g3,g4⟩:=setCells_block vs (k*size+o) w cs h1 (by omega)
 have hkp:Kept R' w (w.setCells g (k*size+o) vs):=fun b hb=>setCells_other vs _ w b (fun e=>hg (e▸hb))
 refine⟨hg,by rw[hl];exact h.room,h.most,cs',g1,g2.trans h2,fun i y hy=>?_⟩;by_cases hik:i=k
 ·subst hik;rw[ha] at hy;injection hy with hy;subst hy;obtain⟨c,e1,e2,e3⟩:=h3 i x hx;have f4:=hn c e1 (fun j v hv=>by rw[cell_of_row _ _ _ _ _ _ h1];exact e2 j v hv) e3;obtain⟨f1,f2,f3⟩:=seg_spec (c:=c) (o:=o) (vs:=vs) (by omega);rw[e1] at f1;obtain⟨c',hc'⟩:=zx (seg c o vs);rw[<-hc'] at f1 f2 f3 f4;refine⟨c',f1,fun j u hu=>?_,hK.keep hkp f4⟩;have hj:=(zL.1 hu).1;by_cases hin:j<o\/o+vs.length<=j
  ·rw[g3 _ (by omega)];rw[f2 j hin] at hu;exact e2 j u hu
  ·obtain⟨v,hv⟩:∃v,vs[j-o]?=some v:=⟨_,zG (by omega)⟩;have h5:=f3 _ v hv;rw[show o+(j-o)=j by omega,hu] at h5;injection h5 with h5;subst h5;have h6:=g4 _ _ hv;rw[show i*size+o+(j-o)=i*size+j by omega] at h6;exact h6
 ·rw[hoth i hik] at hy;obtain⟨c,e1,e2,e3⟩:=h3 i y hy;refine⟨c,e1,fun j u hu=>?_,hK.keep hkp (hK.mono hr e3)⟩;have hj:=(zL.1 hu).1;rw[g3 _ ?_]
  ·exact e2 j u hu
  ·rcases Nat.lt_or_gt_of_ne hik with h' | h'
   ·left
    have:(i+1)*size<=k*size:=Nat.mul_le_mul_right _ h';rw[Nat.succ_mul] at this;omega
   ·right
    have:(k+1)*size<=i*size:=Nat.mul_le_mul_right _ h';rw[Nat.succ_mul] at this;omega
end
def NotG(Z:Nat->Prop)(w:World)(a b c:Nat)(k:Nat):Prop:=k<w.heap.size/\k≠a/\k≠b/\k≠c/\¬Z k
def BlZ(Z:Nat->Prop)(n k:Nat):Prop:=k<n/\¬Z k
theorem NotG.mono{Z:Nat->Prop}{w w':World}{a b c:Nat}(h:w.heap.size<=w'.heap.size):∀k,NotG Z w a b c k->NotG Z w' a b c k:=fun k hk=>⟨zM hk.1 h,hk.2⟩
theorem NotG.kept{Z:Nat->Prop}{w w':World}{a b c:Nat}{hot:List (Option Nat)}(h:HotBy hot w w')(hh:∀k,some k∈hot->k=a\/k=b\/k=c):Kept (NotG Z w a b c) w w':=fun k hk=>h.block k hk.1 (fun e=>by
 have:=hh k e;obtain⟨-,h1,h2,h3,-⟩:=hk
 omega)
theorem RowA.onward{Z:Nat->Prop}{α:Type}{size:Nat}{K:World->(Nat->Prop)->List Value->α->Prop}(hK:Steady K){w w':World}{T:TypeId}{g n a b:Nat}{es:List α}(h:RowA size K w T g n es (NotG Z w a b g)){hot:List (Option Nat)}(hh:HotBy hot w w')(hn:∀k,some k∈hot->(k=a\/k=b)/\k≠g):RowA size K w' T g n es (NotG Z w' a b g) :=
 (h.keep hK (NotG.kept hh (fun k hk=>by have:=(hn k hk).1;omega)) (hh.block g h.lt (fun e=>(hn g e).2 rfl))).mono hK (NotG.mono hh.size) (fun e=>e.2.2.2.1 rfl)
theorem SlS.onward{Z:Nat->Prop}{α:Type}{size:Nat}{K:World->(Nat->Prop)->List Value->α->Prop}(hK:Steady K){w w':World}{v:Value}{a b c:Nat}{es:List α}(h:SlS size K w (NotG Z w a b c) v es){hot:List (Option Nat)}(hh:HotBy hot w w')(hn:∀k,some k∈hot->k=a\/k=b\/k=c):SlS size K w' (NotG Z w' a b c) v es :=
 (SlS.keep hK h (NotG.kept hh hn)).mono hK (NotG.mono hh.size)
theorem law_put1{w:World}{R R':Nat->Prop}{x:LawM}{u:Value}(hr:∀b,R b->R' b)(hu:SlS 3 FrcK w R' u x.start)(c:List Value):LawK w R c x->LawK w R' (seg c 1 [u]) x:=by
 rintro ⟨vs,vr,ve,rfl,h1,h2,h3⟩;exact⟨u,vr,ve,rfl,hu,SlS.mono rowFK h2 hr,SlS.mono frcK h3 hr⟩
theorem law_put2{w:World}{R R':Nat->Prop}{x:LawM}{u:Value}(hr:∀b,R b->R' b)(hu:SlS 1 RowFK w R' u x.rates)(c:List Value):LawK w R c x->LawK w R' (seg c 2 [u]) x:=by
 rintro ⟨vs,vr,ve,rfl,h1,h2,h3⟩;exact⟨vs,u,ve,rfl,SlS.mono frcK h1 hr,hu,SlS.mono frcK h3 hr⟩
theorem law_put3{w:World}{R R':Nat->Prop}{x:LawM}{u:Value}(hr:∀b,R b->R' b)(hu:SlS 3 FrcK w R' u x.exit)(c:List Value):LawK w R c x->LawK w R' (seg c 3 [u]) x:=by
 rintro ⟨vs,vr,ve,rfl,h1,h2,h3⟩;exact⟨vs,vr,u,rfl,SlS.mono frcK h1 hr,SlS.mono rowFK h2 hr,hu⟩
theorem dom_put{w:World}{R R':Nat->Prop}{x:DomM}{un ud:Value}(hr:∀b,R b->R' b)(h1:LS w R' un (natL x.shock.num))(h2:LS w R' ud (natL x.shock.den))(c:List Value):DomK w R c x->DomK w R' (seg c 4 [.bool x.shock.neg,un,ud]) x:=by
 rintro ⟨vn,vd,rfl,g1,g2⟩;exact⟨un,ud,rfl,h1,h2⟩
theorem pol_models{w:World}{R R':Nat->Prop}{x:PolM}{u:Value}(hr:∀b,R b->R' b)(hu:IntS w R' u x.models)(c:List Value):PolK w R c x->PolK w R' (seg c 9 [u]) x:=by
 rintro ⟨vm,vr,tn,td,hn,hd,rfl,h1,h2,h3,h4,h5,h6⟩;exact⟨u,vr,tn,td,hn,hd,rfl,hu,SlS.mono frcK h2 hr,h3.mono hr,h4.mono hr,h5.mono hr,h6.mono hr⟩
theorem pol_repair{w:World}{R R':Nat->Prop}{x:PolM}{u:Value}(l:List Frc)(hr:∀b,R b->R' b)(hu:SlS 3 FrcK w R' u l)(c:List Value):PolK w R c x->PolK w R' (seg c 10 [u]) { x with repair:=l }:=by
 rintro ⟨vm,vr,tn,td,hn,hd,rfl,h1,h2,h3,h4,h5,h6⟩;exact⟨vm,u,tn,td,hn,hd,rfl,h1.mono hr,hu,h3.mono hr,h4.mono hr,h5.mono hr,h6.mono hr⟩
theorem pol_target{w:World}{R R':Nat->Prop}{x:PolM}{un ud:Value}(t:Frc)(hr:∀b,R b->R' b)(g1:LS w R' un (natL t.num))(g2:LS w R' ud (natL t.den))(c:List Value):PolK w R c x->PolK w R' (seg c 11 [.bool t.neg,un,ud]) { x with target:=t }:=by
 rintro ⟨vm,vr,tn,td,hn,hd,rfl,h1,h2,h3,h4,h5,h6⟩;exact⟨vm,vr,un,ud,hn,hd,rfl,h1.mono hr,SlS.mono frcK h2 hr,g1,g2,h5.mono hr,h6.mono hr⟩
theorem pol_horizon{w:World}{R R':Nat->Prop}{x:PolM}{un ud:Value}(hr:∀b,R b->R' b)(g1:LS w R' un (natL x.horizon.num))(g2:LS w R' ud (natL x.horizon.den))(c:List Value):PolK w R c x->PolK w R' (seg c 14 [.bool x.horizon.neg,un,ud]) x:=by
 rintro ⟨vm,vr,tn,td,hn,hd,rfl,h1,h2,h3,h4,h5,h6⟩;exact⟨vm,vr,tn,td,un,ud,rfl,h1.mono hr,SlS.mono frcK h2 hr,h3.mono hr,h4.mono hr,g1,g2⟩
theorem pol_m{w:World}{R R':Nat->Prop}{x:PolM}(m:Int)(hr:∀b,R b->R' b)(c:List Value):PolK w R c x->PolK w R' (seg c 2 [.int .i64 m]) { x with m:=m }:=by
 rintro ⟨vm,vr,tn,td,hn,hd,rfl,h1,h2,h3,h4,h5,h6⟩;exact⟨vm,vr,tn,td,hn,hd,rfl,h1.mono hr,SlS.mono frcK h2 hr,h3.mono hr,h4.mono hr,h5.mono hr,h6.mono hr⟩
theorem pol_q{w:World}{R R':Nat->Prop}{x:PolM}(q:Int)(hr:∀b,R b->R' b)(c:List Value):PolK w R c x->PolK w R' (seg c 3 [.int .i64 q]) { x with q:=q }:=by
 rintro ⟨vm,vr,tn,td,hn,hd,rfl,h1,h2,h3,h4,h5,h6⟩;exact⟨vm,vr,tn,td,hn,hd,rfl,h1.mono hr,SlS.mono frcK h2 hr,h3.mono hr,h4.mono hr,h5.mono hr,h6.mono hr⟩
theorem RowA.same{α:Type}{size:Nat}{K:World->(Nat->Prop)->List Value->α->Prop}{w:World}{T:TypeId}{g n:Nat}{es:List α}{R:Nat->Prop}(hK:Steady K)(h:RowA size K w T g n es R){k o:Nat}{x:α}(vs:List Value)(hx:es[k]?=some x)(ho:o+vs.length<=size){R':Nat->Prop}(hr:∀b,R b->R' b)(hg:¬R' g)
  (hn:∀c,K w R c x->K w R' (seg c o vs) x):RowA size K (w.setCells g (k*size+o) vs) T g n es R' :=
 h.put hK vs hx ho hr hg rfl hx (fun _ _=>rfl) (fun c _ _ h=>hn c h)
theorem own_not{Z:Nat->Prop}{α:Type}{size:Nat}{K:World->(Nat->Prop)->List Value->α->Prop}(hK:Steady K){w:World}{T:TypeId}{B b0 a b:Nat}{v:Value}{es:List α}(h:OwnK size K w B T v es (BlZ Z b0))(hZ:∀k,Z k->k<b0)(h0:b0<=w.heap.size)(h1:b0<=a)(h2:b0<=b)(h3:a<B)(h4:b<B):SlS size K w (NotG Z w a b b) v es :=
 OwnK.slS hK h (fun k hk=>by have h9:=hk.1;exact⟨by omega,by omega,by omega,by omega,hk.2⟩) (fun k hk=>by have:=OwnK.lt h k hk;exact⟨by omega,by omega,by omega,by omega,fun e=>by have:=hZ k e;omega⟩)
theorem RowA.enter{Z:Nat->Prop}{α:Type}{size:Nat}{K:World->(Nat->Prop)->List Value->α->Prop}(hK:Steady K){w:World}{T:TypeId}{g n b0 a b:Nat}{es:List α}(h:RowA size K w T g n es (BlZ Z b0))(h0:b0<=w.heap.size)(h1:b0<=a)(h2:b0<=b)(h3:b0<=g)(h4:g≠a)(i:Nat)(u:Value):RowA size K (w.setCell ⟨a,i,none⟩ u) T g n es (NotG Z (w.setCell ⟨a,i,none⟩ u) a b g):=by
 refine RowA.mono hK (h.keep hK (fun k hk=>?_) ?_) (fun k hk=>?_) (fun e=>e.2.2.2.1 rfl)
 ·exact Below.heap_setCell _ _ _ _ (by have:=hk.1;show k≠a;omega)
 ·exact Below.heap_setCell _ _ _ _ (show g≠a from h4)
 ·have hk1:=hk.1;refine⟨?_,by omega,by omega,by omega,hk.2⟩
  have:(w.setCell ⟨a,i,none⟩ u).heap.size=w.heap.size:=by simp
  omega
structure Four (Z:Nat->Prop) (w:World) (a b:Nat) (vl vm vv vo:Value) (F:FltM):Prop where
 laws:SlS 4 LawK w (NotG Z w a b b) vl F.laws
 models:SlS 4 ModK w (NotG Z w a b b) vm F.models
 dves:SlS 3 DveK w (NotG Z w a b b) vv F.dves
 vols:SlS 2 VolK w (NotG Z w a b b) vo F.vols
theorem Four.onward{Z:Nat->Prop}{w w':World}{a b:Nat}{vl vm vv vo:Value}{F:FltM}(h:Four Z w a b vl vm vv vo F){hot:List (Option Nat)}(hh:HotBy hot w w')(hn:∀k,some k∈hot->k=a\/k=b\/k=b):Four Z w' a b vl vm vv vo F :=
 ⟨SlS.onward lawK h.laws hh hn,SlS.onward modK h.models hh hn,SlS.onward dveK h.dves hh hn,SlS.onward volK h.vols hh hn⟩
theorem HotBy.setCells{hot:List (Option Nat)}{a:World}{g:Nat}(hg:some g∈hot\/a.heap.size<=g):∀(vs:List Value) (o:Nat) (w:World),HotBy hot a w->HotBy hot a (w.setCells g o vs)
 | [],_,_,h=>h
 | v :: r,o,w,h=>by
  rw[World.setCells];exact HotBy.setCells hg r (o+1) _ (h.setOf hg o v)
theorem notG_setCells{Z:Nat->Prop}(w:World)(a b c g o:Nat)(vs:List Value):NotG Z (w.setCells g o vs) a b c=NotG Z w a b c:=by
 funext k
 unfold NotG;rw[setCells_sizeK]
theorem info_fracs:(Tryz.prog.info? 53).map (fun i=>(i.zero,i.size,i.bytes))=some (some (.slice none 0 0),1,24):=by kernel_rfl
theorem mk_rates:∃cs:Array Value,cs.size=1*1/\∀w:World,(Instr.makeSlice 94 (.int .i64 1) (.int .i64 1)).run Tryz.prog w=.ok (.slice (some ⟨w.heap.size,0,none⟩) 1 1) (w.alloc (.cells cs 53)):=by
 obtain⟨i0,hi0,hz0,hz1,hz2⟩:=info_parts info_fracs;refine⟨madeCells (Value.slice none 0 0).cells (1*1),size_madeCells _ _,fun w=>?_⟩;have h:=run_make (P:=Tryz.prog) w 94 53 i0 _ Tryz.underlying94 hi0 hz0 .i64 .i64 1 1 (by omega) (by omega) (by rw[hz2];omega) (by omega);rw[hz1] at h
 simpa using h
theorem size_domE:(Tryz.prog.info? 100).map (·.size)=some 7:=by kernel_rfl
theorem size_polE:(Tryz.prog.info? 55).map (·.size)=some 17:=by kernel_rfl
theorem size_fltE:(Tryz.prog.info? 35).map (·.size)=some 7:=by kernel_rfl
theorem rangeAt_drop{w:World}{b o:Nat}{cs:List Value}(h:w.rangeAt b o cs)(k:Nat):w.rangeAt b (o+k) (cs.drop k):=fun j v hv=>by
 rw[List.getElem?_drop] at hv;rw[Nat.add_assoc];exact h _ v hv
theorem rangeAt_take{w:World}{b o:Nat}{cs:List Value}(h:w.rangeAt b o cs)(k:Nat):w.rangeAt b o (cs.take k):=fun j v hv=>by
 rw[List.getElem?_take] at hv;split at hv
 ·exact h _ v hv
 ·simp at hv
theorem own_stay{α:Type}{size:Nat}{K:World->(Nat->Prop)->List Value->α->Prop}(hK:Steady K){w w':World}{T:TypeId}{B B':Nat}{v:Value}{es:List α}{R R':Nat->Prop}(h:OwnK size K w B T v es R)(hB:B'<=B)(hk:∀b,B'<=b->b<w.heap.size->w'.heap[b]?=w.heap[b]?)(hR:∀b,R b->B'<=b/\b<w.heap.size)(hr:∀b,R b->R' b):OwnK size K w' B' T v es R':=by
 obtain⟨cs,h1,h2⟩:=h;refine⟨cs,⟨h1.1,?_⟩,fun k x hx=>?_⟩
 ·rcases h1.2 with h3 | ⟨g,cap,cur,e1,e2,e3,e4⟩
  ·exact .inl h3
  ·exact .inr ⟨g,cap,cur,e1,Nat.le_trans hB e2,(hk g (Nat.le_trans hB e2) (zA.1 e3).1).trans e3,e4⟩
 ·obtain⟨c,g1,g2,g3⟩:=h2 k x hx;exact⟨c,g1,g2,hK.mono hr (hK.keep (fun b hb=>hk b (hR b hb).1 (hR b hb).2) g3)⟩
def TightR(w:World)(g B:Nat)(ps:List PolM)(j:Nat):Prop:=∀k x,k<j->ps[k]?=some x->∃q,w.cell? ⟨g,k*17+10,none⟩=some (.slice (some ⟨q,0,none⟩) x.repair.length x.repair.length)/\OwnK 3 FrcK w B 26 (.slice (some ⟨q,0,none⟩) x.repair.length x.repair.length) x.repair (fun b=>B<=b/\b<w.heap.size/\b≠q)
end Go.Proofs.YtgfaieppacabjaaGreat
