/- A made site: drives and an empty journal, walked. -/
import Derived.BigQuiet
import Derived.Deep.QuietTactic
import Derived.Test.YtmacgpnlcdapfaaGreatMv05
import Derived.Test.YtmacgpnlcdapfaaGreatMv09
import Derived.Test.YtmacgpnlcdapfaaGreatMv01
import Derived.Deep.MidRow
set_option linter.unusedSectionVars false
set_option maxRecDepth 100000
set_option maxHeartbeats 12800000
namespace Go.Proofs.YtmacgpnlcdapfaaGreat
open Go.RowKit
set_option linter.unusedVariables false
set_option linter.unusedSimpArgs false
def clmO(F:FltM) (d:DveM):Int:=(match F.models[d.model.toNat]? with | some m=>m.ext | none=>1) * 2 * F.ext
def clms(F:FltM):List Int:=F.dves.map (clmO F)
theorem clm_ok{N:Nat} {F:FltM} (hok:FleetOk N F) {j:Nat} {d:DveM} (hd:F.dves[j]?=some d):∃(mi:Nat) (m:ModM),d.model=(mi:Int)∧F.models[mi]?=some m∧mi<2∧1≤m.ext∧m.ext≤4∧clmO F d=m.ext * 2 * F.ext∧2≤clmO F d∧clmO F d≤16:=by
 obtain⟨-,hm,-⟩:=hok.dves j d hd
 obtain⟨a,b,c,e,h1,h2,h3,h4,hM⟩:=hok.models
 have hext:=hok.ext
 rcases hm with hm | hm
 ·refine⟨0,⟨{ data:=#[98,105,103] },3+(a:Int),8+(b:Int),0⟩,hm,by rw[hM];rfl,by omega,by show(1:Int)≤3+(a:Int);omega,by show 3+(a:Int)≤4;omega,?_⟩
  have e1:clmO F d=(3+(a:Int)) * 2 * F.ext:=by unfold clmO;rw[hm,hM];rfl
  rw[e1]
  refine⟨rfl,?_⟩
  rcases hext with hx | hx <;> (rw[hx];omega)
 ·refine⟨1,⟨{ data:=#[111,108,100] },1+(c:Int),4+(e:Int),0⟩,hm,by rw[hM];rfl,by omega,by show(1:Int)≤1+(c:Int);omega,by show 1+(c:Int)≤4;omega,?_⟩
  have e1:clmO F d=(1+(c:Int)) * 2 * F.ext:=by unfold clmO;rw[hm,hM];rfl
  rw[e1]
  refine⟨rfl,?_⟩
  rcases hext with hx | hx <;> (rw[hx];omega)
def PtrK(w:World) (R:Nat→Prop) (cs:List Value) (c:Int):Prop:=∃g,cs=[.pointer (some ⟨g,0,none⟩)]∧R g∧DrvB w g c
theorem ptrK:Steady PtrK:=⟨fun hk ⟨g,e,h,h2⟩=>⟨g,e,h,h2.keep (hk g h)⟩,fun hr ⟨g,e,h,h2⟩=>⟨g,e,hr g h,h2⟩⟩
theorem info_ptr:(Tryz.prog.info? 76).map (fun i=>(i.zero,i.size,i.bytes))=some (some (.pointer none),1,8):=by kernel_rfl
theorem app_ptr0{ops:Array Oper} {rest:List Oper} {o:Oper} {a:Act} {Q:Exit→Act→World→Prop} {w:World} (v0:Option Addr) (s x:Operand) (hgd:o.guard=none) (ho:o.op=.call { callee:=.builtin .append,args:=#[s,x],argTypes:=#[44,44] })
  (base:Nat) (v:Value) (n:Nat) (cs:List Value) (hs:a.eval s=v) (hown:w.ownsRow base 76 1 v n cs)
  (hx:a.eval x=.slice (some ⟨w.heap.size,0,none⟩) 1 1) (hn:n+1≤16777216) (hbase:base≤w.heap.size)
  (h:∀v' w',w'.ownsRow base 76 1 v' (n+1) (cs++[.pointer v0])→w.grownBy w' v.ownBlock→(v'.ownBlock=v.ownBlock∨v'.ownBlock=some (w.heap.size+1))→wpList Tryz.prog ops Q rest (a.put o.dst v') w') :
  wpList Tryz.prog ops Q (o :: rest) a (w.alloc (.cells #[.pointer v0] 76)):=by
 obtain⟨i0,hi0,hz0,hz1,hz2⟩:=info_parts info_ptr
 exact wpList_append1 hgd s x _ ho base i0 _ 1 8 Tryz.underlying44 hi0 hz0 hz1 hz2 rfl (by omega) (by omega) v n _ hs hown hx rfl (by simp;rfl) hn hbase h
theorem app_ptr{ops:Array Oper} {rest:List Oper} {o:Oper} {a:Act} {Q:Exit→Act→World→Prop} {w:World} (v0:Addr) (s x:Operand) (hgd:o.guard=none) (ho:o.op=.call { callee:=.builtin .append,args:=#[s,x],argTypes:=#[44,44] })
  (base:Nat) (v:Value) (n:Nat) (cs:List Value) (hs:a.eval s=v) (hown:w.ownsRow base 76 1 v n cs)
  (hx:a.eval x=.slice (some ⟨w.heap.size,0,none⟩) 1 1) (hn:n+1≤16777216) (hbase:base≤w.heap.size)
  (h:∀v' w',w'.ownsRow base 76 1 v' (n+1) (cs++[.pointer (some v0)])→w.grownBy w' v.ownBlock→(v'.ownBlock=v.ownBlock∨v'.ownBlock=some (w.heap.size+1))→wpList Tryz.prog ops Q rest (a.put o.dst v') w') :
  wpList Tryz.prog ops Q (o :: rest) a (w.alloc (.cells #[.pointer (some v0)] 76)):=app_ptr0 (some v0) s x hgd ho base v n cs hs hown hx hn hbase h
theorem own_nty2{w:World} {B b:Nat} {e T:TypeId} {s m:Nat} {v:Value} {xs:List Value} {cs:Array Value} {fr:Nat×Nat} (h:w.ownsRow B e s v m xs) (hb:w.heap[b]?=some (.cells cs T fr)) (hT:T≠e):v.ownBlock≠some b:=fun hv=>by
 rcases h.2 with ⟨rfl,-⟩ | ⟨g,cap,cur,rfl,-,hg,-⟩
 ·cases hv
 ·simp[Value.ownBlock] at hv
  subst hv
  rw[hb] at hg
  injection hg with hg
  injection hg with _ hg
  exact hT hg
structure SiteT (gT:Nat) (vt:Value) (W0:World) (gS:Nat) (gL:Nat) (wr:World) (I:Nat) (vd:Value) (l:List Int):Prop where
 tape:TapeB wr gT vt I
 hot:HotBy [some gT,some gS] W0 wr
 site:wr.heap[gS]?=some (.cells #[vd,.pointer (some ⟨gL,0,none⟩),.int .i64 (-1)] 47 (0,0))
 own:OwnK 1 PtrK wr W0.heap.size 76 vd l (Fz W0.heap.size wr.heap.size vd)
 gs:gS<W0.heap.size∧gT<W0.heap.size∧gS≠gT
theorem SiteT.cells{gT:Nat} {vt:Value} {W0:World} {gS gL:Nat} {wr:World} {I:Nat} {vd:Value} {l:List Int} (h:SiteT gT vt W0 gS gL wr I vd l):wr.cell? ⟨gS,0,none⟩=some vd∧wr.cell? ⟨gS,1,none⟩=some (.pointer (some ⟨gL,0,none⟩))∧wr.frozen? ⟨gS,0,none⟩=false :=
 ⟨by rw[cell_of_row _ _ _ _ _ _ h.site];rfl,by rw[cell_of_row _ _ _ _ _ _ h.site];rfl,frozen_of_row _ _ _ _ _ h.site⟩
theorem SiteT.below{gT:Nat} {vt:Value} {W0:World} {gS gL:Nat} {wr w':World} {I:Nat} {vd:Value} {l:List Int} (h:SiteT gT vt W0 gS gL wr I vd l) (hb:Below wr.heap.size wr w'):SiteT gT vt W0 gS gL w' I vd l :=
 ⟨(hb.block gT h.tape.lt).trans h.tape,h.hot.trans (HotBy.below hb),(hb.block gS (Nat.lt_of_lt_of_le h.gs.1 h.hot.size)).trans h.site,h.own.stayF ptrK (HotBy.below (hot:=[]) hb) (fun b e=>by simp at e),h.gs⟩
theorem SiteT.next{gT:Nat} {vt:Value} {W0:World} {gS gL:Nat} {wr w':World} {I:Nat} {vd:Value} {l:List Int} (h:SiteT gT vt W0 gS gL wr I vd l) (ht:TapeB w' gT vt (I+1)) (hg:wr.grownBy w' (some gT)):SiteT gT vt W0 gS gL w' (I+1) vd l :=
 have hh:HotBy [some gT] wr w':=HotBy.grown hg (.inl (by simp))
 ⟨ht,h.hot.trans (hh.more (fun x hx _=>by simp at hx ⊢;exact .inl hx)),(hh.block gS (Nat.lt_of_lt_of_le h.gs.1 h.hot.size) (fun e=>by simp at e;exact h.gs.2.2 e)).trans h.site,h.own.stayF ptrK hh (fun b e=>.inl (by simp at e;have:=h.gs.2.1;omega)),h.gs⟩
structure SiteN (gT:Nat) (vt:Value) (W0:World) (gS gL:Nat) (wr:World) (I:Nat) (vd vd':Value) (l:List Int):Prop where
 tape:TapeB wr gT vt I
 hot:HotBy [some gT,some gS] W0 wr
 site:wr.heap[gS]?=some (.cells #[vd,.pointer (some ⟨gL,0,none⟩),.int .i64 (-1)] 47 (0,0))
 own:OwnK 1 PtrK wr W0.heap.size 76 vd' l (Fz W0.heap.size wr.heap.size vd')
 gs:gS<W0.heap.size∧gT<W0.heap.size∧gS≠gT
theorem SiteN.cells{gT:Nat} {vt:Value} {W0:World} {gS gL:Nat} {wr:World} {I:Nat} {vd vd':Value} {l:List Int} (h:SiteN gT vt W0 gS gL wr I vd vd' l):wr.cell? ⟨gS,0,none⟩=some vd∧wr.cell? ⟨gS,1,none⟩=some (.pointer (some ⟨gL,0,none⟩))∧wr.frozen? ⟨gS,0,none⟩=false :=
 ⟨by rw[cell_of_row _ _ _ _ _ _ h.site];rfl,by rw[cell_of_row _ _ _ _ _ _ h.site];rfl,frozen_of_row _ _ _ _ _ h.site⟩
theorem SiteN.store{gT:Nat} {vt:Value} {W0:World} {gS gL:Nat} {wr:World} {I:Nat} {vd vd':Value} {l:List Int} (h:SiteN gT vt W0 gS gL wr I vd vd' l):SiteT gT vt W0 gS gL (wr.setCell ⟨gS,0,none⟩ vd') I vd' l:=by
 have hh:HotBy [some gS] wr (wr.setCell ⟨gS,0,none⟩ vd'):=HotBy.setCell _ _ _ _ (by simp)
 exact⟨(hh.block gT h.tape.lt (fun e=>by simp at e;exact h.gs.2.2 e.symm)).trans h.tape,h.hot.trans (hh.more (fun x hx _=>by simp at hx ⊢;exact .inr hx)),heap_setCell_same wr gS 0 _ _ _ h.site,h.own.stayF ptrK hh (fun b e=>.inl (by simp at e;have:=h.gs.1;omega)),h.gs⟩
theorem SiteT.push{gT:Nat} {vt:Value} {W0:World} {gS gL:Nat} {wr w':World} {I gD:Nat} {vd vd':Value} {l:List Int} {c:Int} {cs:List Value} (h:SiteT gT vt W0 gS gL wr I vd l) (hd:DrvB wr gD c) (hD:W0.heap.size≤gD)
  (hown:w'.ownsRow W0.heap.size 76 1 vd' (l.length+1) (cs++[.pointer (some ⟨gD,0,none⟩)])) (c2:∀k x,l[k]?=some x→∃c,c.length=1∧(∀i y,c[i]?=some y→cs[k * 1+i]?=some y)∧PtrK wr (Fz W0.heap.size wr.heap.size vd) c x) (c1:cs.length=l.length * 1)
  (hg:wr.grownBy w' vd.ownBlock) (hat:vd'.ownBlock=vd.ownBlock∨vd'.ownBlock=some (wr.heap.size+1)):SiteN gT vt W0 gS gL w' I vd vd' (l++[c])∧∃A n k,vd'=.slice A n k:=by
 have hv:=h.own.lt
 have hh:HotBy [vd.ownBlock] wr w':=HotBy.grown hg (.inl (by simp))
 obtain⟨v1,v2,v3,v4,v5,hdk⟩:=hd
 refine⟨⟨(hh.block gT h.tape.lt (fun e=>by simp at e;have:=hv gT e.symm;have:=h.gs.2.1;omega)).trans h.tape,h.hot.transNew hh (fun y e hy=>by simp at e;have:=hv y e.symm;omega),(hh.block gS (Nat.lt_of_lt_of_le h.gs.1 h.hot.size) (fun e=>by simp at e;have:=hv gS e.symm;have:=h.gs.1;omega)).trans h.site,?_,h.gs⟩,?_⟩
 ·refine OwnK.pushF ptrK c2 c1 (fun b hb=>(hv b hb).2) hown rfl ⟨gD,rfl,⟨hD,(Array.getElem?_eq_some_iff.1 hdk).1,fun e=>?_⟩,⟨_,_,_,_,_,hdk⟩⟩ hh (fun b e h3 h4=>by simp at e;exact e.symm) ?_
  ·obtain⟨cs0,o1,-⟩:=h.own
   exact own_nty2 o1 hdk (by decide) e
  ·rcases hat with h1 | h1
   ·exact .inl h1
   ·exact .inr ⟨_,h1,by omega⟩
 ·obtain⟨A,k,e⟩:=own_form hown
  exact⟨_,_,_,e⟩
theorem site_any(N:Nat) (hN:N≤12) (gT:Nat) (vt:Value) (xs:List Int) (I:Nat) (vl vm vd vv vp vo:Value) (F:FltM) (w:World) (R RF:Nat→Prop) (hT:TapeB w gT vt I) (hx:IntS w R vt xs) (hR:∀b,R b→b<w.heap.size∧b≠gT) (hI:I≤100000) (hf:FleetS w RF vl vm vd vv vp vo F) (hRF:∀b,RF b→b<w.heap.size∧b≠gT) (hok:FleetOk N F) :
  Calls Tryz.prog 5 #[.pointer (some ⟨gT,0,none⟩),.agg #[.int .i64 F.ext,vl,vm,vd,vv,vp,vo]] w fun e w'=>∃gS gL v I',e=.returned (.tuple #[.pointer (some ⟨gS,0,none⟩),.bool true])∧w.heap.size≤gS∧w'.heap[gS]?=some (.cells #[v,.pointer (some ⟨gL,0,none⟩),.int .i64 (-1)] 47 (0,0))∧(∃W0:World,w.heap.size≤W0.heap.size∧gS<W0.heap.size∧OwnK 1 PtrK w' W0.heap.size 76 v (clms F) (Fz W0.heap.size w'.heap.size v))∧TapeB w' gT vt I'∧I'≤I+1000∧w.grownBy w' (some gT):=by
 obtain⟨Al,nl,cl,hvl⟩:=hf.1.form3
 obtain⟨Am,cm,hvm,-,-⟩:=hf.2.1.form
 obtain⟨Ad,nd,cd,hvd⟩:=hf.2.2.1.form3
 obtain⟨Av,cv,hvv,-,-⟩:=hf.2.2.2.1.form
 obtain⟨Ap,np,cp,hvp⟩:=hf.2.2.2.2.1.form3
 obtain⟨Ao,no,co,hvo⟩:=hf.2.2.2.2.2.form3
 have hm2:F.models.length=2:=by obtain⟨a,b,c,e,-,-,-,-,hM⟩:=hok.models;rw[hM];rfl
 rw[hm2] at hvm
 obtain⟨ND,hND⟩:=zx F.dves.length
 obtain⟨EX,hEX⟩:=zx F.ext
 rw[←hND] at hvv
 subst hvl hvm hvd hvv hvp hvo
 have hTl:gT<w.heap.size:=hT.lt
 have hMA:=fun(mi:Nat) (h:mi<2)=>hf.2.1.at_ (k:=mi) (by rw[hm2];exact h)
 have hVA:=fun(j:Nat) (h:j<ND)=>hf.2.2.2.1.at_ (k:=j) (by rw[←hND];exact h)
 obtain⟨mb,moff,-,hAm,hmR,-,-⟩:=hMA 0 (by omega)
 obtain⟨vb,voff,-,hAv,hvR,-,-⟩:=hVA 0 (by have:=hok.dve1;omega)
 subst hAm hAv
 have hCM:∀(mi:Nat) (m:ModM),F.models[mi]?=some m→w.cell? ⟨mb,moff+mi * 4+1,none⟩=some (.int .i64 m.ext):=fun mi m h=>by
  have hl:=(List.getElem?_eq_some_iff.1 h).1
  obtain⟨b,off,cs,e,-,-,hc,hcs⟩:=hMA mi (by rw[←hm2];exact hl)
  injection e with e
  injection e with e1 e2
  subst e1 e2
  rw[(List.getElem?_eq_some_iff.1 h).2] at hcs
  unfold ModK at hcs
  subst hcs
  exact hc 1 _ rfl
 have hCV:∀(j:Nat) (d:DveM),F.dves[j]?=some d→w.cell? ⟨vb,voff+j * 3+1,none⟩=some (.int .i64 d.model):=fun j d h=>by
  have hl:=(List.getElem?_eq_some_iff.1 h).1
  obtain⟨b,off,cs,e,-,-,hc,hcs⟩:=hVA j (by rw[hND];exact hl)
  injection e with e
  injection e with e1 e2
  subst e1 e2
  rw[(List.getElem?_eq_some_iff.1 h).2] at hcs
  unfold DveK at hcs
  subst hcs
  exact hc 1 _ rfl
 have hmbT:=hRF mb hmR
 have hvbT:=hRF vb hvR
 obtain⟨gF,hgF⟩:=zx w.heap.size
 obtain⟨W1,hW1⟩:=zx (w.alloc (.cells #[.int .i64 EX,.slice Al nl cl,.slice (some ⟨mb,moff,none⟩) 2 cm,.slice Ad nd cd,.slice (some ⟨vb,voff,none⟩) ND cv,.slice Ap np cp,.slice Ao no co] 33))
 have hh1:HotBy [some gT] w W1:=by rw[hW1];exact HotBy.alloc _ _ _
 have hgk1:W1.heap[gF]?=some (.cells #[.int .i64 EX,.slice Al nl cl,.slice (some ⟨mb,moff,none⟩) 2 cm,.slice Ad nd cd,.slice (some ⟨vb,voff,none⟩) ND cv,.slice Ap np cp,.slice Ao no co] 33 (0,0)):=by rw[hW1,hgF];exact heap_alloc_new _ _
 have hgl1:gF<W1.heap.size:=(Array.getElem?_eq_some_iff.1 hgk1).1
 have HJ:=zh (jnew_any W1)
 have HOK:=zh hok
 have HD1:=zh (And.intro hok.dve1 hok.dveN)
 have HNX:=zh (fun wr I hh hT hI n h1 h2=>next_hot w R gT vt xs hx hR wr hh I hT hI n h1 h2)
 have HND:=zh hND
 have HEX:=zh hEX
 have HH1:=zh hh1
 have HT0:=zh hT
 have HTL:=zh hTl
 have HW1:=zh hW1
 have HGF:=zh hgF
 have HGK:=zh (And.intro hgk1 hgl1)
 have HCC:=zh (And.intro hCM hCV)
 have HMT:=zh (And.intro hmbT hvbT)
 have HII:=zh hI
 rw[←hEX]
 clear hT hx hR hI hf hRF hok hND hEX hTl hMA hVA hCM hCV hmR hvR hmbT hvbT hgF hW1 hh1 hgk1 hgl1 hm2
 go_enter Tryz.func5,Tryz.ntmps5
 go_upto_region 1 with fail
 rw[←HW1.out,←HGF.out]
 go_wp2_with fail
 refine HJ.out.mono ?_
 rintro e W2 ⟨rfl,hb2,hl2⟩
 obtain⟨gL,hgL⟩:=zx W1.heap.size
 rw[←hgL]
 obtain⟨W0,hW0⟩:=zx (W2.alloc (.cells #[.slice none 0 0,.pointer (some ⟨gL,0,none⟩),.int .i64 (-1)] 47))
 obtain⟨gS,hgS⟩:=zx W2.heap.size
 have hb0:Below W1.heap.size W1 W0:=by rw[hW0];exact hb2.alloc (Nat.le_of_lt hl2) _
 have hh0:HotBy [some gT] w W0:=HH1.out.trans (HotBy.below hb0)
 have hsk:W0.heap[gS]?=some (.cells #[.slice none 0 0,.pointer (some ⟨gL,0,none⟩),.int .i64 (-1)] 47 (0,0)):=by rw[hW0,hgS];exact heap_alloc_new _ _
 have hsl:gS<W0.heap.size:=(Array.getElem?_eq_some_iff.1 hsk).1
 have hTb:TapeB W0 gT vt I:=(hb0.block gT (Nat.lt_of_lt_of_le HTL.out HH1.out.size)).trans ((show W1.heap[gT]?=w.heap[gT]? from by rw[HW1.out];exact Below.heap_alloc w _ gT HTL.out).trans HT0.out)
 have hws:w.heap.size≤gS:=by rw[hgS];exact Nat.le_trans HH1.out.size (Nat.le_of_lt hl2)
 have HS0:=zh (show SiteT gT vt W0 gS gL W0 I (.slice none 0 0) ((clms F).take 0) from⟨hTb,HotBy.refl _ _,hsk,OwnK.nil _ _ _ _ _ _,hsl,Nat.lt_of_lt_of_le HTL.out hh0.size,by have:=HTL.out;omega⟩)
 have HC:=zh (fun(w':World) (hh:HotBy [some gT,some gS] W0 w')=>cells7 ((hh.block gF (Nat.lt_of_lt_of_le HGK.out.2 hb0.size) (fun e=>by simp at e;have:=HGF.out;have:=HTL.out;have:=HGK.out.2;omega)).trans ((hb0.block gF HGK.out.2).trans HGK.out.1)))
 have HHW:=zh (fun(w':World) (hh:HotBy [some gT,some gS] W0 w')=>(show HotBy [some gT] w w' from hh0.transNew hh (fun x e hx=>by simp at e ⊢;rcases e with e | e <;> omega)))
 have HWS:=zh (And.intro hws hh0.size)
 have HW0:=zh hW0
 have HGS:=zh hgS
 clear hb2 hl2 hgL hb0 hh0 hsk hsl hTb hws hW0 hgS
 go_wp2_with fail
 rw[←HW0.out,←HGS.out]
 go_loopg [7] ND (fun z v7 wr=>∃j I1 vd,j≤ND∧z=ND - j∧v7=.int .i64 (j:Int)∧Hid (I1≤I+j * 2)∧Hid (SiteT gT vt W0 gS gL wr I1 vd ((clms F).take j)))
 case atStart=>exact⟨0,I,_,by omega,rfl,rfl,zh (by omega),HS0.out⟩
 case round =>
  obtain⟨j,I1,vd,hj,rfl,rfl,HI1,HS⟩:=hrel
  obtain⟨W3,hW3⟩:=zx wr
  rw[←hW3] at HS ⊢
  clear hW3
  obtain⟨c0,c1,c2,c3,c4,c5,c6⟩:=HC.out W3 HS.out.hot
  by_cases hlt:j<ND
  ·have i1:(j:Int)<(ND:Int):=by omega
   obtain⟨d,hd⟩:∃d,F.dves[j]?=some d:=⟨_,List.getElem?_eq_getElem (by rw[←HND.out];exact hlt)⟩
   obtain⟨mi,m,hmi,hm,hmi2,hx1,hx4,hcl,hcl2,hcl16⟩:=clm_ok HOK.out hd
   have hdv:=HCC.out.2 j d hd
   have hmv:=HCC.out.1 mi m hm
   have hhw:=HHW.out W3 HS.out.hot
   have e1:W3.cell? ⟨vb,voff+j * 3+1,none⟩=some (.int .i64 (mi:Int)):=by rw[←hmi];exact(World.cell?_of_block (w:=w) (w':=W3) (hhw.block vb HMT.out.2.1 (fun e=>by simp at e;exact HMT.out.2.2 e))).trans hdv
   have e2:W3.cell? ⟨mb,moff+mi * 4+1,none⟩=some (.int .i64 m.ext):=(World.cell?_of_block (w:=w) (w':=W3) (hhw.block mb HMT.out.1.1 (fun e=>by simp at e;exact HMT.out.1.2 e))).trans hmv
   obtain⟨XT,hXT⟩:=zx m.ext
   obtain⟨CL,hCL⟩:∃n:Nat,(n:Int)=clmO F d:=⟨(clmO F d).toNat,by omega⟩
   rw[←hXT] at e2 hx1 hx4 hcl
   rw[←HEX.out,←hCL] at hcl
   rw[←hCL] at hcl2 hcl16
   have hEXr:1≤EX∧EX≤2:=by have:=HOK.out.ext;have:=HEX.out;omega
   have m1:IntKind.i64.wrap (XT * 2)=XT * 2:=IntWalk.i64_in _ (by omega)
   have m2:IntKind.i64.wrap (XT * 2 * EX)=(CL:Int):=by rw[←hcl];exact IntWalk.i64_in _ (by omega)
   have i2:(mi:Int)<2:=by omega
   have d9:(ND:Int)≤9:=by have:=HD1.out;have:=HND.out;omega
   have HTK:=zh (show(clms F).take j++[(CL:Int)]=(clms F).take (j+1) by
    have h1:(clms F)[j]?=some (CL:Int):=by unfold clms;rw[List.getElem?_map,hd];simp[hCL]
    have h2:=(List.getElem?_eq_some_iff.1 h1).1
    rw[List.take_succ_eq_append_getElem h2,(List.getElem?_eq_some_iff.1 h1).2])
   have HLN:=zh (show j<(clms F).length by unfold clms;rw[List.length_map,←HND.out];exact hlt)
   have HI9:=zh (show j<ND∧ND≤9 from⟨hlt,by have:=HD1.out;have:=HND.out;omega⟩)
   have HC16:=zh (show 2≤CL∧CL≤16 from⟨by omega,by omega⟩)
   clear hd hm hdv hmv hhw hmi hXT hCL hcl hx1 hx4 hEXr hmi2 hcl2 hcl16
   go_upto_region 5 with fail
   go_quiet (fail)
   go_wp2_with fail
   have HS4:=zh (HS.out.below (Below.drewN' (Below.refl _ _) nq))
   obtain⟨W4,hW4⟩:=zx (W3.drewN nq)
   rw[←hW4] at HS4 ⊢
   have hI4:I1≤1000000:=by have:=HI1.out;have:=HI9.out;have:=HII.out;omega
   clear hW4 e1 e2 c0 c1 c2 c3 c4 c5 c6 HS m1 m2
   refine(HNX.out W4 I1 (HHW.out W4 HS4.out.hot) HS4.out.tape (by omega) 6 (by omega) (by omega)).mono ?_
   rintro e w5 ⟨r,rfl,hr,hT5,hg5⟩
   have HS5:=zh (HS4.out.next hT5 hg5)
   have hC:=HC16.out
   clear hT5 hg5 HS4 hr
   by_cases hr0:r=0
   ·have q0:((r:Int)==0)=true:=by simpa using hr0
    clear hr0
    go_wp2_with fail
    refine(HNX.out w5 (I1+1) (HHW.out w5 HS5.out.hot) HS5.out.tape (by omega) CL (by omega) (by omega)).mono ?_
    rintro e w6 ⟨r2,rfl,hr2,hT6,hg6⟩
    have HS6:=zh (HS5.out.next hT6 hg6)
    clear hT6 hg6 HS5
    have m3:IntKind.i64.wrap (1+(r2:Int))=((1+r2:Nat):Int):=by rw[IntWalk.i64_in _ (by omega)];omega
    have m4:wrap64 (1+(r2:Int))=((1+r2:Nat):Int):=by rw[IntWalk.wrap64_in _ (by omega)];omega
    go_wp2_with fail
    refine(dnew_any CL (1+r2) w6 (by omega) (by omega) (by omega)).mono ?_
    rintro e w7 ⟨gD,rfl,hgD,hdb,hb7⟩
    have HS7:=zh (HS6.out.below hb7)
    have HDB:=zh (And.intro hdb (Nat.le_trans HS6.out.hot.size hgD))
    clear hgD hdb hb7
    obtain⟨k0,k1,f0⟩:=HS7.out.cells
    obtain⟨cs,o1,o2⟩:=HS7.out.own
    have HOO:=zh (And.intro o1 o2)
    clear o1 o2
    have HLJ:=zh (show((clms F).take j).length=j from by rw[List.length_take];have:=HLN.out;omega)
    go_wp2_with (at_builtin;refine app_ptr ⟨gD,0,none⟩ (.tmp 61) (.tmp 63) rfl rfl W0.heap.size vd ((clms F).take j).length cs (by rfl) HOO.out.1 (by rfl) (by rw[HLJ.out];have:=HI9.out;omega) HS7.out.hot.size ?_;intro vd' w8 ho8 hg8 ha8;have HN8:=zh (HS7.out.push HDB.out.1 HDB.out.2 ho8 HOO.out.2 HOO.out.1.1 hg8 ha8);obtain⟨k0,k1,f0⟩:=HN8.out.1.cells;obtain⟨A8,n8,c8,h8⟩:=HN8.out.2;subst h8;clear ho8 hg8 ha8)
    go_roundg (ND - (j+1))
    case measure=>omega
    case rel=>exact⟨j+1,I1+1+1,_,by omega,rfl,by go_num,zh (by have:=HI1.out;omega),by rw[←HTK.out];exact HN8.out.1.store⟩
   ·have q0:((r:Int)==0)=false:=by simpa using hr0
    clear hr0
    go_wp2_with fail
    refine(dnew_any CL CL w5 (by omega) (by omega) (by omega)).mono ?_
    rintro e w7 ⟨gD,rfl,hgD,hdb,hb7⟩
    have HS7:=zh (HS5.out.below hb7)
    have HDB:=zh (And.intro hdb (Nat.le_trans HS5.out.hot.size hgD))
    clear hgD hdb hb7
    obtain⟨k0,k1,f0⟩:=HS7.out.cells
    obtain⟨cs,o1,o2⟩:=HS7.out.own
    have HOO:=zh (And.intro o1 o2)
    clear o1 o2
    have HLJ:=zh (show((clms F).take j).length=j from by rw[List.length_take];have:=HLN.out;omega)
    go_wp2_with (at_builtin;refine app_ptr ⟨gD,0,none⟩ (.tmp 61) (.tmp 63) rfl rfl W0.heap.size vd ((clms F).take j).length cs (by rfl) HOO.out.1 (by rfl) (by rw[HLJ.out];have:=HI9.out;omega) HS7.out.hot.size ?_;intro vd' w8 ho8 hg8 ha8;have HN8:=zh (HS7.out.push HDB.out.1 HDB.out.2 ho8 HOO.out.2 HOO.out.1.1 hg8 ha8);obtain⟨k0,k1,f0⟩:=HN8.out.1.cells;obtain⟨A8,n8,c8,h8⟩:=HN8.out.2;subst h8;clear ho8 hg8 ha8)
    go_roundg (ND - (j+1))
    case measure=>omega
    case rel=>exact⟨j+1,I1+1,_,by omega,rfl,by go_num,zh (by have:=HI1.out;omega),by rw[←HTK.out];exact HN8.out.1.store⟩
  ·have HJE:=zh (show j=ND by omega)
   obtain⟨k0,k1,f0⟩:=HS.out.cells
   go_upto_region 13 with fail
   go_quiet (fail)
   go_wp2_with fail
   go_ret2
   have hzz:=(HS.out.below (Below.drewN' (Below.refl _ _) nq))
   have htk:(clms F).take j=clms F:=List.take_of_length_le (by unfold clms;rw[List.length_map,HJE.out,HND.out];exact Nat.le_refl _)
   rw[htk] at hzz
   have hhz:=HHW.out _ hzz.hot
   exact⟨gS,gL,vd,I1,rfl,HWS.out.1,hzz.site,⟨W0,HWS.out.2,hzz.gs.1,hzz.own⟩,hzz.tape,by have:=HI1.out;have:=HJE.out;have:=HD1.out;have:=HND.out;omega,⟨hhz.os,hhz.tape,hhz.output,hhz.size,fun b hb hne=>hhz.block b hb (fun e=>by simp at e;exact hne (by rw[e]))⟩⟩
theorem results_cell2{P:Program} (fn:Func) (t:TypeId) (a:Nat) (tmps:Array Value) (w:World) (v:Value) (ad:Addr) (hr:fn.results=#[.cell a t]) (hv:tmps.getD a undef=.pointer (some ad)) (hl:(loadVar t ad).run P w=.ok v w):(results fn tmps).run P w=.ok v w:=by
 unfold results
 rw[hr,Array.mapM_eq_mapM_toList]
 simp only[List.mapM_cons,List.mapM_nil,hv,asAddr]
 simp[hl]
theorem setCells_other2{g:Nat}:∀(vs:List Value) (o:Nat) (w:World) (k:Nat),k≠g→(w.setCells g o vs).heap[k]?=w.heap[k]?
 | [],_,_,_,_=>rfl
 | v :: r,o,w,k,h=>by
  rw[World.setCells,setCells_other2 r (o+1) _ k h]
  exact heap_setCell_other w ⟨g,o,none⟩ k v h
theorem setCells_size2{g:Nat}:∀(vs:List Value) (o:Nat) (w:World),(w.setCells g o vs).heap.size=w.heap.size
 | [],_,_=>rfl
 | v :: r,o,w=>by rw[World.setCells,setCells_size2 r (o+1) _];simp
theorem setCells_os2{g:Nat}:∀(vs:List Value) (o:Nat) (w:World),(w.setCells g o vs).os=w.os∧(w.setCells g o vs).tape=w.tape∧(w.setCells g o vs).output=w.output
 | [],_,_=>⟨rfl,rfl,rfl⟩
 | v :: r,o,w=>by
  obtain⟨h1,h2,h3⟩:=setCells_os2 (g:=g) r (o+1) (w.setCell ⟨g,o,none⟩ v)
  exact⟨h1,h2,h3⟩
theorem grow_setCells2{w W:World} {gT gR:Nat} {vs:List Value} (h1:HotBy [some gT] w W) (hR:gR≥w.heap.size):w.grownBy (W.setCells gR 0 vs) (some gT):=by
 have hk:=setCells_os2 (g:=gR) vs 0 W
 exact⟨hk.1.trans h1.os,hk.2.1.trans h1.tape,hk.2.2.trans h1.output,by rw[setCells_size2];exact h1.size,fun b hb hne=>by
  rw[setCells_other2 _ _ _ _ (show b≠gR by omega)]
  exact h1.block b hb (fun e=>by simp at e;exact hne (by rw[e]))⟩
theorem size_cfg:(Tryz.prog.info? 41).map (·.size)=some 14:=by kernel_rfl
theorem config_any(gT:Nat) (vt:Value) (xs:List Int) (I:Nat) (EX:Int) (vl vm vd vv vp vo:Value) (w:World) (R:Nat→Prop) (hT:TapeB w gT vt I) (hx:IntS w R vt xs) (hR:∀b,R b→b<w.heap.size∧b≠gT) (hI:I≤100000) (f1:∃A n c,vl=.slice A n c) (f2:∃A n c,vm=.slice A n c) (f3:∃A n c,vd=.slice A n c) (f4:∃A n c,vv=.slice A n c) (f5:∃A n c,vp=.slice A n c) (f6:∃A n c,vo=.slice A n c) :
  Calls Tryz.prog 6 #[.pointer (some ⟨gT,0,none⟩),.agg #[.int .i64 EX,vl,vm,vd,vv,vp,vo]] w fun e w'=>∃a b c d f g:Int,e=.returned (.agg #[.int .i64 EX,vl,vm,vd,vv,vp,vo,.slice none 0 0,.int .i64 a,.int .i64 b,.int .i64 c,.int .i64 d,.int .i64 f,.int .i64 g])∧(0≤a∧a≤3)∧(1≤b∧b≤4)∧(1≤c∧c≤4)∧(0≤d∧d≤1)∧(1≤f∧f≤3)∧(0≤g∧g≤2)∧TapeB w' gT vt (I+6)∧w.grownBy w' (some gT):=by
 obtain⟨Al,nl,cl,hvl⟩:=f1
 obtain⟨Am,nm,cm,hvm⟩:=f2
 obtain⟨Ad,nd,cd,hvd⟩:=f3
 obtain⟨Av,nv,cv,hvv⟩:=f4
 obtain⟨Ap,np,cp,hvp⟩:=f5
 obtain⟨Ao,no,co,hvo⟩:=f6
 have HON:=zh (show ∀r0 r1 r2 r3 r4 r5:Int,(#[.int .i64 EX,vl,vm,vd,vv,vp,vo,.slice none 0 0,.int .i64 r0,.int .i64 r1,.int .i64 r2,.int .i64 r3,.int .i64 r4,.int .i64 r5]:Array Value).all (·.oneCell')=true from fun _ _ _ _ _ _=>by rw[hvl,hvm,hvd,hvv,hvp,hvo];simp[Value.oneCell'])
 have hTl:gT<w.heap.size:=hT.lt
 obtain⟨W0,hW0⟩:=zx ((w.alloc (.cells #[.int .i64 EX,vl,vm,vd,vv,vp,vo] 33)).alloc (.cells #[.int .i64 0,.slice none 0 0,.slice none 0 0,.slice none 0 0,.slice none 0 0,.slice none 0 0,.slice none 0 0,.slice none 0 0,.int .i64 0,.int .i64 0,.int .i64 0,.int .i64 0,.int .i64 0,.int .i64 0] 41))
 obtain⟨gF,hgF⟩:=zx w.heap.size
 obtain⟨gR,hgR⟩:=zx (w.heap.size+1)
 have hb0:Below w.heap.size w W0:=by rw[hW0];exact((Below.refl _ _).alloc (Nat.le_refl _) _).alloc (by simp) _
 have hgk:W0.heap[gF]?=some (.cells #[.int .i64 EX,vl,vm,vd,vv,vp,vo] 33 (0,0)):=by
  rw[hW0,hgF];exact(Below.heap_alloc _ _ _ (by simp)).trans (heap_alloc_new w _)
 have hrk:W0.heap[gR]?=some (.cells #[.int .i64 0,.slice none 0 0,.slice none 0 0,.slice none 0 0,.slice none 0 0,.slice none 0 0,.slice none 0 0,.slice none 0 0,.int .i64 0,.int .i64 0,.int .i64 0,.int .i64 0,.int .i64 0,.int .i64 0] 41 (0,0)):=by
  rw[hW0];exact heap_alloc_at _ _ _ (by rw[hgR];simp)
 have hgl:gF<W0.heap.size:=(Array.getElem?_eq_some_iff.1 hgk).1
 have hrl:gR<W0.heap.size:=(Array.getElem?_eq_some_iff.1 hrk).1
 have hh0:HotBy [some gT] w W0:=HotBy.below hb0
 have hkeep:∀b,w.heap.size≤b→∀w':World,HotBy [some gT] W0 w'→b<W0.heap.size→w'.heap[b]?=W0.heap[b]?:=fun b hb w' hh hl=>hh.block b hl (fun e=>by simp at e;omega)
 have HH4:=zh (show HotBy [some gT] W0 W0.drew from(HotBy.refl _ _).drew)
 have HT4:=zh (show TapeB W0.drew gT vt (I+0) from(hb0.block gT hTl).trans hT)
 have HK:=zh (fun(w':World) (hh:HotBy [some gT] W0 w')=>cells7 ((hkeep gF (by omega) w' hh hgl).trans hgk))
 have HTH:=zh (fun(w':World) (hh:HotBy [some gT] W0 w')=>(show w'.there gR 0 14 from there_new ((hkeep gR (by omega) w' hh hrl).trans hrk) (Nat.le_refl 14)))
 have HNX:=zh (show ∀(wr:World) (J:Nat),HotBy [some gT] W0 wr→TapeB wr gT vt J→J≤4611686018427387904→∀(n:Nat),1≤n→n≤4294967296→∀nv:Int,nv=(n:Int)→Calls Tryz.prog 10 #[.pointer (some ⟨gT,0,none⟩),.int .i64 nv] wr fun e w'=>∃r:Nat,e=.returned (.int .i64 (r:Int))∧r<n∧TapeB w' gT vt (J+1)∧wr.grownBy w' (some gT) from fun wr J hh hT hI n h1 h2 nv hn=>by subst hn;exact next_hot w R gT vt xs hx hR wr (hh0.trans hh) J hT hI n h1 h2)
 have HZ:=zh hh0
 have HW0:=zh hW0
 have HGG:=zh (And.intro hgF hgR)
 have HGW:=zh (show gR≥w.heap.size from by omega)
 have HTL:=zh hTl
 clear hT hx hR hTl hW0 hgF hgR hb0 hgk hrk hgl hrl hh0 hkeep hvl hvm hvd hvv hvp hvo
 go_enter Tryz.func6,Tryz.ntmps6
 go_upto_region 1 with fail
 rw[←HW0.out,←HGG.out.2,←HGG.out.1]
 refine region_tail (S:=(fun w'=>w'.cell? ⟨gF,0,none⟩=some (.int .i64 EX)∧w'.cell? ⟨gF,1,none⟩=some vl∧w'.cell? ⟨gF,2,none⟩=some vm∧w'.cell? ⟨gF,3,none⟩=some vd∧w'.cell? ⟨gF,4,none⟩=some vv∧w'.cell? ⟨gF,5,none⟩=some vp∧w'.cell? ⟨gF,6,none⟩=some vo)) [17] (by kernel_rfl) (HK.out _ HH4.out) (fun hHeld=>?_)
 refine tk 0 5 ?_
 refine tk 1 6 ?_
 refine tk 3 8 ?_
 refine tk 6 11 ?_
 refine tk 9 14 ?_
 refine tk 11 16 ?_
 refine tk 14 19 ?_
 refine readyT (rs:=[2]) (by kernel_rfl) (by simp) ?_
 refine AllReadyT.cons rfl (fun K hK=>?_) ?_
 ·go_simp
  (go_at_call 10;refine(HNX.out W0.drew (I+0) HH4.out HT4.out (by omega) 4 (by omega) (by omega) 4 rfl).mono ?_;rintro e w5 ⟨r0,rfl,hr0,hT,hg⟩;have HT5:=zh hT;have HH5:=zh (HH4.out.trans (HotBy.grown hg (.inl (by simp))));clear hT hg)
  go_wp2_with fail
  refine hK.out _ _ ?_ (fun hHeld=>?_)
  ·(first|exact HK.out _ HH10.out|exact HK.out _ HH9.out|exact HK.out _ HH8.out|exact HK.out _ HH7.out|exact HK.out _ HH6.out|exact HK.out _ HH5.out|assumption)
  clear hK K
  (try simp only[Act.put,z1,z2,z3])
  refine readyT (rs:=[4]) (by kernel_rfl) (by simp) ?_
  refine AllReadyT.cons rfl (fun K hK=>?_) ?_
  ·go_simp
   (go_at_call 10;refine(HNX.out w5 (I+1) HH5.out HT5.out (by omega) 4 (by omega) (by omega) 4 rfl).mono ?_;rintro e w6 ⟨r1,rfl,hr1,hT,hg⟩;have HT6:=zh hT;have HH6:=zh (HH5.out.trans (HotBy.grown hg (.inl (by simp))));clear hT hg)
   have m1:IntKind.i64.wrap (1+(r1:Int))=1+(r1:Int):=IntWalk.i64_in _ (by omega)
   go_wp2_with fail
   refine hK.out _ _ ?_ (fun hHeld=>?_)
   ·(first|exact HK.out _ HH10.out|exact HK.out _ HH9.out|exact HK.out _ HH8.out|exact HK.out _ HH7.out|exact HK.out _ HH6.out|exact HK.out _ HH5.out|assumption)
   clear hK K
   (try simp only[Act.put,z1,z2,z3])
   refine tk 5 10 ?_
   refine readyT (rs:=[7]) (by kernel_rfl) (by simp) ?_
   refine AllReadyT.cons rfl (fun K hK=>?_) ?_
   ·go_simp
    (go_at_call 10;refine(HNX.out w6 (I+2) HH6.out HT6.out (by omega) 4 (by omega) (by omega) 4 rfl).mono ?_;rintro e w7 ⟨r2,rfl,hr2,hT,hg⟩;have HT7:=zh hT;have HH7:=zh (HH6.out.trans (HotBy.grown hg (.inl (by simp))));clear hT hg)
    have m2:IntKind.i64.wrap (1+(r2:Int))=1+(r2:Int):=IntWalk.i64_in _ (by omega)
    go_wp2_with fail
    refine hK.out _ _ ?_ (fun hHeld=>?_)
    ·(first|exact HK.out _ HH10.out|exact HK.out _ HH9.out|exact HK.out _ HH8.out|exact HK.out _ HH7.out|exact HK.out _ HH6.out|exact HK.out _ HH5.out|assumption)
    clear hK K
    (try simp only[Act.put,z1,z2,z3])
    refine tk 8 13 ?_
    refine readyT (rs:=[10]) (by kernel_rfl) (by simp) ?_
    refine AllReadyT.cons rfl (fun K hK=>?_) ?_
    ·go_simp
     (go_at_call 10;refine(HNX.out w7 (I+3) HH7.out HT7.out (by omega) 2 (by omega) (by omega) 2 rfl).mono ?_;rintro e w8 ⟨r3,rfl,hr3,hT,hg⟩;have HT8:=zh hT;have HH8:=zh (HH7.out.trans (HotBy.grown hg (.inl (by simp))));clear hT hg)
     go_wp2_with fail
     refine hK.out _ _ ?_ (fun hHeld=>?_)
     ·(first|exact HK.out _ HH10.out|exact HK.out _ HH9.out|exact HK.out _ HH8.out|exact HK.out _ HH7.out|exact HK.out _ HH6.out|exact HK.out _ HH5.out|assumption)
     clear hK K
     (try simp only[Act.put,z1,z2,z3])
     refine readyT (rs:=[12]) (by kernel_rfl) (by simp) ?_
     refine AllReadyT.cons rfl (fun K hK=>?_) ?_
     ·go_simp
      (go_at_call 10;refine(HNX.out w8 (I+4) HH8.out HT8.out (by omega) 3 (by omega) (by omega) 3 rfl).mono ?_;rintro e w9 ⟨r4,rfl,hr4,hT,hg⟩;have HT9:=zh hT;have HH9:=zh (HH8.out.trans (HotBy.grown hg (.inl (by simp))));clear hT hg)
      have m4:IntKind.i64.wrap (1+(r4:Int))=1+(r4:Int):=IntWalk.i64_in _ (by omega)
      go_wp2_with fail
      refine hK.out _ _ ?_ (fun hHeld=>?_)
      ·(first|exact HK.out _ HH10.out|exact HK.out _ HH9.out|exact HK.out _ HH8.out|exact HK.out _ HH7.out|exact HK.out _ HH6.out|exact HK.out _ HH5.out|assumption)
      clear hK K
      (try simp only[Act.put,z1,z2,z3])
      refine tk 13 18 ?_
      refine readyT (rs:=[15]) (by kernel_rfl) (by simp) ?_
      refine AllReadyT.cons rfl (fun K hK=>?_) ?_
      ·go_simp
       (go_at_call 10;refine(HNX.out w9 (I+5) HH9.out HT9.out (by omega) 3 (by omega) (by omega) 3 rfl).mono ?_;rintro e w10 ⟨r5,rfl,hr5,hT,hg⟩;have HT10:=zh hT;have HH10:=zh (HH9.out.trans (HotBy.grown hg (.inl (by simp))));clear hT hg)
       go_wp2_with fail
       refine hK.out _ _ ?_ (fun hHeld=>?_)
       ·(first|exact HK.out _ HH10.out|exact HK.out _ HH9.out|exact HK.out _ HH8.out|exact HK.out _ HH7.out|exact HK.out _ HH6.out|exact HK.out _ HH5.out|assumption)
       clear hK K
       (try simp only[Act.put,z1,z2,z3])
       refine tk 16 21 ?_
       refine readyT (rs:=[17]) (by kernel_rfl) (by simp) ?_
       refine AllReadyT.consT rfl rfl (fun K hK=>?_) ?_
       ·rw[if_pos (by rfl)]
        refine wp_store_mid 41 (.tmp 4) (.tmp 21) rfl gR 0 #[.int .i64 EX,vl,vm,vd,vv,vp,vo,.slice none 0 0,.int .i64 (r0:Int),.int .i64 (1+(r1:Int)),.int .i64 (1+(r2:Int)),.int .i64 (r3:Int),.int .i64 (1+(r4:Int)),.int .i64 (r5:Int)] (by rfl) (by rfl) (HTH.out _ HH10.out) size_cfg (HON.out _ _ _ _ _ _) ?_
        refine hK.out _ _ ?_
        clear hK K
        (try simp only[Act.put,z1,z2,z3])
        refine doneT (by kernel_rfl) ?_ _
        clear hHeld
        have hgr:=World.rangeAt_setCells_same _ _ _ [.int .i64 EX,vl,vm,vd,vv,vp,vo,.slice none 0 0,.int .i64 (r0:Int),.int .i64 (1+(r1:Int)),.int .i64 (1+(r2:Int)),.int .i64 (r3:Int),.int .i64 (1+(r4:Int)),.int .i64 (r5:Int)] (HTH.out _ HH10.out)
        have hg6:=grow_setCells2 (vs:=[.int .i64 EX,vl,vm,vd,vv,vp,vo,.slice none 0 0,.int .i64 (r0:Int),.int .i64 (1+(r1:Int)),.int .i64 (1+(r2:Int)),.int .i64 (r3:Int),.int .i64 (1+(r4:Int)),.int .i64 (r5:Int)]) (HZ.out.trans HH10.out) HGW.out
        have hT6:=(setCells_other2 [.int .i64 EX,vl,vm,vd,vv,vp,vo,.slice none 0 0,.int .i64 (r0:Int),.int .i64 (1+(r1:Int)),.int .i64 (1+(r2:Int)),.int .i64 (r3:Int),.int .i64 (1+(r4:Int)),.int .i64 (r5:Int)] 0 _ _ (show gT≠gR by have:=HGW.out;have:=HTL.out;omega)).trans HT10.out
        obtain⟨W6,hW6⟩:=zx (World.setCells w10 gR 0 [.int .i64 EX,vl,vm,vd,vv,vp,vo,.slice none 0 0,.int .i64 (r0:Int),.int .i64 (1+(r1:Int)),.int .i64 (1+(r2:Int)),.int .i64 (r3:Int),.int .i64 (1+(r4:Int)),.int .i64 (r5:Int)])
        rw[←hW6] at hgr hg6 hT6
        rw[←hW6]
        clear hW6
        go_wp2_with fail
        exact bodyPost_ret (v:=.agg #[.int .i64 EX,vl,vm,vd,vv,vp,vo,.slice none 0 0,.int .i64 (r0:Int),.int .i64 (1+(r1:Int)),.int .i64 (1+(r2:Int)),.int .i64 (r3:Int),.int .i64 (1+(r4:Int)),.int .i64 (r5:Int)]) (results_cell2 _ 41 4 _ _ _ ⟨gR,0,none⟩ Tryz.results6 (by rfl) (run_loadVar_mid (P:=Tryz.prog) W6 gR 0 41 _ _ hgr Tryz.underlying41 rfl size_cfg)) rfl ⟨(r0:Int),1+(r1:Int),1+(r2:Int),(r3:Int),1+(r4:Int),(r5:Int),rfl,⟨by omega,by omega⟩,⟨by omega,by omega⟩,⟨by omega,by omega⟩,⟨by omega,by omega⟩,⟨by omega,by omega⟩,⟨by omega,by omega⟩,hT6,hg6⟩
       exact AllReadyT.nil
      exact AllReadyT.nil
     exact AllReadyT.nil
    exact AllReadyT.nil
   exact AllReadyT.nil
  exact AllReadyT.nil
 exact AllReadyT.nil
end Go.Proofs.YtmacgpnlcdapfaaGreat
