/- A made fleet and reality: words. -/
import Derived.Deep.AppendLies
import Derived.Deep.CutBlock
import Derived.Deep.CutRange
import Derived.Deep.MidRow
import Derived.Test.YtmehadfhcdpfcaaGreatMf10
import Derived.Test.YtmehadfhcdpfcaaGreatMf11
import Derived.Test.YtmehadfhcdpfcaaGreatMf01
set_option maxRecDepth 100000
set_option maxHeartbeats 12800000
namespace Go.Proofs.YtmehadfhcdpfcaaGreat
open Go.RowKit
set_option linter.unusedVariables false
set_option linter.unusedSimpArgs false
theorem info_str:(Tryz.prog.info? 9).map (fun i=>(i.zero,i.size,i.bytes))=some (some (.string ⟨#[]⟩),1,16):=by kernel_rfl
theorem info_strs:(Tryz.prog.info? 50).map (fun i=>(i.zero,i.size,i.bytes))=some (some (.slice none 0 0),1,24):=by kernel_rfl
theorem info_ack:(Tryz.prog.info? 53).map (fun i=>(i.zero,i.size,i.bytes))=some (some (.agg #[.int .i64 0,.int .i64 0,.int .i64 0,.int .i64 0]),4,32):=by kernel_rfl
structure MadeOk (F:FltM) (r:Re) (st:List Stp):Prop where
 plat:r.plat.length=F.dves.length
 on:r.on.length=F.dves.length
 acks:r.acks=st.map Stp.ack
 keys:st.map (fun x=>(x.vol,x.stripe))=keysTo F.ext.toNat F.vols.length 0
 ok:∀x∈st,StpOk F x
 sec:∀l∈r.plat,∀s∈l,SecOk st s.data.toList
 len:∀l∈r.plat,l.length≤1000
 len5:∀l∈r.plat,l.length≤500
structure StI (F:FltM) (ND I1 I:Nat) (rs:List (Value×List ByteArray)) (st:List Stp) (n:Nat) (f:Int→Int→Option Value) (ext v s:Nat):Prop where
 len:rs.length=ND
 row:∀(i:Nat) (x:Value×List ByteArray),rs[i]?=some x→x.2.length+I1≤I+1∧∀s∈x.2,SecOk st s.data.toList
 keys:st.map (fun x=>(x.vol,x.stripe))=keysTo ext v s
 ok:∀x∈st,StpOk F x
 data:DataOk st f
 n:n≤st.length
theorem IntS.form3{w:World} {R:Nat→Prop} {v:Value} {xs:List Int} (h:IntS w R v xs):∃A n c,v=.slice A n c:=by
 obtain⟨A,c,e,-⟩:=h.1
 exact⟨A,_,c,e⟩
theorem LS.form3{w:World} {R:Nat→Prop} {v:Value} {l:List Nat} (h:LS w R v l):∃A n c,v=.slice A n c:=by
 obtain⟨A,c,e,-⟩:=h.form
 exact⟨A,_,c,e⟩
def PolQ(w:World) (g k m:Nat):Prop:=(∃cs,w.heap[g]?=some (.cells cs 63 (0,0)))∧w.cell? ⟨g,0+1,none⟩=some (.int .i64 (k:Int))∧w.cell? ⟨g,0+2,none⟩=some (.int .i64 (m:Int))
theorem PolQ.cells{w:World} {g k m:Nat} (h:PolQ w g k m):w.cell? ⟨g,1,none⟩=some (.int .i64 (k:Int))∧w.cell? ⟨g,2,none⟩=some (.int .i64 (m:Int))∧g<w.heap.size:=by
 obtain⟨⟨cs,h1⟩,h2,h3⟩:=h
 exact⟨h2,h3,(Array.getElem?_eq_some_iff.1 h1).1⟩
theorem PolQ.hot{w w':World} {g k m:Nat} (h:PolQ w g k m) {hot:List (Option Nat)} (hh:HotBy hot w w') (hn:some g∉hot):PolQ w' g k m:=by
 have hb:=hh.block g h.cells.2.2 hn
 obtain⟨⟨cs,h1⟩,h2,h3⟩:=h
 exact⟨⟨cs,hb.trans h1⟩,(World.cell?_of_block (w:=w) hb).trans h2,(World.cell?_of_block (w:=w) hb).trans h3⟩
theorem PolQ.hotT{w w':World} {g k m:Nat} (h:PolQ w g k m) {o:Option Nat} (hh:HotBy [o] w w') (ho:∀b,o=some b→∃cs T,w.heap[b]?=some (.cells cs T (0,0))∧T≠63):PolQ w' g k m:=h.hot hh (fun e=>by
 simp at e
 obtain⟨cs,T,h1,h2⟩:=ho g e.symm
 obtain⟨⟨cs',h3⟩,-⟩:=h
 exact h2 (cells_ty h1 h3))
theorem setCells_type{b:Nat} {T:TypeId}:∀(vs:List Value) (o:Nat) (w:World),(∃cs,w.heap[b]?=some (.cells cs T (0,0)))→∃cs,(w.setCells b o vs).heap[b]?=some (.cells cs T (0,0))
 | [],o,w,h=>h
 | v :: vs,o,w,⟨cs,h⟩=>setCells_type vs (o+1) (w.setCell ⟨b,o,none⟩ v) ⟨_,heap_setCell_same w b o _ _ v h⟩
theorem there_of_block{w:World} {b:Nat} {cs:Array Value} {T:TypeId} {n:Nat} (h:w.heap[b]?=some (.cells cs T (0,0))) (hn:n≤cs.size):w.there b 0 n:=fun j hj=>by
 rw[Nat.zero_add]
 exact⟨by rw[cell_of_row _ _ _ _ _ _ h,Array.getElem?_eq_getElem (by omega)];rfl,frozen_of_row _ _ _ _ _ h⟩
theorem hot_setCells:∀(w:World) (b:Nat) (vs:List Value) (o:Nat),HotBy [some b] w (w.setCells b o vs)
 | w,b,[],o=>HotBy.refl _ _
 | w,b,v :: vs,o=>(HotBy.setCell [some b] w ⟨b,o,none⟩ v (by simp)).trans (hot_setCells (w.setCell ⟨b,o,none⟩ v) b vs (o+1))
theorem keysTo_not(ext v s:Nat):(v,s)∉keysTo ext v s:=by
 unfold keysTo
 intro h
 rcases List.mem_append.1 h with h | h
 ·obtain⟨a,ha,hb⟩:=List.mem_flatMap.1 h
  obtain⟨b,hb1,hb2⟩:=List.mem_map.1 hb
  have:=List.mem_range.1 ha
  injection hb2 with e1 e2
  omega
 ·obtain⟨b,hb1,hb2⟩:=List.mem_map.1 h
  have:=List.mem_range.1 hb1
  injection hb2 with e1 e2
  omega
theorem DataOk.push{st:List Stp} {f:Int→Int→Option Value} {ext v s:Nat} (h:DataOk st f) (hk:st.map (fun x=>(x.vol,x.stripe))=keysTo ext v s) {x:Stp} (hv:x.vol=v) (hs:x.stripe=s):DataOk (st++[x]) (upd f (v:Int) (s:Int) (.string ⟨(x.rows.flatten).toArray⟩)):=fun y hy=>by
 rcases List.mem_append.1 hy with hy | hy
 ·have hne:¬(((y.vol:Nat):Int)=(v:Int)∧((y.stripe:Nat):Int)=(s:Int)):=fun e=>by
   have h1:y.vol=v:=by omega
   have h2:y.stripe=s:=by omega
   have h3:(y.vol,y.stripe)∈st.map (fun x=>(x.vol,x.stripe)):=List.mem_map.2 ⟨y,hy,rfl⟩
   rw[hk,h1,h2] at h3
   exact keysTo_not ext v s h3
  rw[upd_other hne]
  exact h y hy
 ·rw[List.mem_singleton.1 hy,hv,hs,upd_same]
structure RowJ (ND I1 J lo hi:Nat) (st:List Stp) (rs:List (Value×List ByteArray)):Prop where
 len:rs.length=ND
 row:∀(i:Nat) (x:Value×List ByteArray),rs[i]?=some x→x.2.length+I1≤J+1∧(∀s∈x.2,SecOk st s.data.toList)∧∀b,x.1.ownBlock=some b→b<lo∨hi≤b
def PieceB(w:World) (g:Nat) (p:Pc):Prop:=w.heap[g]?=some (.cells #[.int .i64 p.vol,.int .i64 p.frag,.int .i64 p.stripe,.int .i64 p.gen,.int .i64 p.ver,.string ⟨p.data.toArray⟩] 84 (0,0))
theorem PieceB.lt{w:World} {g:Nat} {p:Pc} (h:PieceB w g p):g<w.heap.size:=(Array.getElem?_eq_some_iff.1 h).1
theorem PieceB.cells{w:World} {g:Nat} {p:Pc} (h:PieceB w g p):w.cell? ⟨g,0,none⟩=some (.int .i64 p.vol)∧w.cell? ⟨g,1,none⟩=some (.int .i64 p.frag)∧w.cell? ⟨g,2,none⟩=some (.int .i64 p.stripe)∧w.cell? ⟨g,3,none⟩=some (.int .i64 p.gen)∧w.cell? ⟨g,4,none⟩=some (.int .i64 p.ver)∧w.cell? ⟨g,5,none⟩=some (.string ⟨p.data.toArray⟩)∧(∀i,w.frozen? ⟨g,i,none⟩=false):=by
 refine⟨?_,?_,?_,?_,?_,?_,fun i=>frozen_of_row _ _ _ _ _ h⟩ <;> (rw[cell_of_row _ _ _ _ _ _ h];rfl)
theorem six_cells{w:World} {g:Nat} {a b c d e f:Value} {T:TypeId} (h:w.heap[g]?=some (.cells #[a,b,c,d,e,f] T (0,0))):w.cell? ⟨g,0,none⟩=some a∧w.cell? ⟨g,1,none⟩=some b∧w.cell? ⟨g,2,none⟩=some c∧w.cell? ⟨g,3,none⟩=some d∧w.cell? ⟨g,4,none⟩=some e∧w.cell? ⟨g,5,none⟩=some f∧(∀i,w.frozen? ⟨g,i,none⟩=false):=by
 refine⟨?_,?_,?_,?_,?_,?_,fun i=>frozen_of_row _ _ _ _ _ h⟩ <;> (rw[cell_of_row _ _ _ _ _ _ h];rfl)
theorem PieceB.hot{w w':World} {g:Nat} {p:Pc} (h:PieceB w g p) {hot:List (Option Nat)} (hh:HotBy hot w w') (hn:some g∉hot):PieceB w' g p:=(hh.block g h.lt hn).trans h
theorem PieceB.six{w:World} {g:Nat} {a b c d e f:Value} (h:w.heap[g]?=some (.cells #[a,b,c,d,e,f] 84 (0,0))) (p:Pc):PieceB ((((((w.setCell ⟨g,0,none⟩ (.int .i64 p.vol)).setCell ⟨g,1,none⟩ (.int .i64 p.frag)).setCell ⟨g,2,none⟩ (.int .i64 p.stripe)).setCell ⟨g,3,none⟩ (.int .i64 p.gen)).setCell ⟨g,4,none⟩ (.int .i64 p.ver)).setCell ⟨g,5,none⟩ (.string ⟨p.data.toArray⟩)) g p :=
 heap_setCell_same _ g 5 _ _ _ (heap_setCell_same _ g 4 _ _ _ (heap_setCell_same _ g 3 _ _ _ (heap_setCell_same _ g 2 _ _ _ (heap_setCell_same _ g 1 _ _ _ (heap_setCell_same w g 0 _ _ _ h)))))
theorem InP.six{gT:Nat} {vt:Value} {wr0 w1:World} {I:Nat} (h:InP gT vt wr0 w1 I) (hT:gT<wr0.heap.size) {g:Nat} (hg:wr0.heap.size≤g) (a b c d e f:Value):InP gT vt wr0 ((((((w1.setCell ⟨g,0,none⟩ a).setCell ⟨g,1,none⟩ b).setCell ⟨g,2,none⟩ c).setCell ⟨g,3,none⟩ d).setCell ⟨g,4,none⟩ e).setCell ⟨g,5,none⟩ f) I :=
 (((((h.set hT g 0 a hg).set hT g 1 b hg).set hT g 2 c hg).set hT g 3 d hg).set hT g 4 e hg).set hT g 5 f hg
theorem encB_length{p:Pc} (h:p.data.length=16):(encB p).length=36:=by
 unfold encB sealB headB
 simp[beTo_length,h]
theorem InP.next_big{w0 wr0 w1 WA:World} {R:Nat→Prop} {gT:Nat} {vt:Value} {xs:List Int} {gF:Nat} {I:Nat} (S:StatA w0 R gT vt xs WA gF) (h0:HotBy [some gT,some gF] WA wr0) (h:InP gT vt wr0 w1 I) (hI:I≤1000000000) (n:Nat) (h1:1≤n) (h2:n≤4294967296) (nv:Int) (hn:nv=(n:Int)) :
  Calls Tryz.prog 18 #[.pointer (some ⟨gT,0,none⟩),.int .i64 nv] w1 fun e w'=>∃r:Nat,e=.returned (.int .i64 (r:Int))∧r<n∧InP gT vt wr0 w' (I+1)∧HotBy [some gT] w1 w':=by
 subst hn
 refine(next_hot w0 R gT vt xs S.hx S.hR w1 (S.w0 (h0.trans (h.hot.more (fun x hx _=>by simp at hx ⊢;exact .inl hx)))) I h.tape (by omega) n h1 (by omega)).mono ?_
 rintro e w' ⟨r,rfl,hr,hT,hg⟩
 have hh:HotBy [some gT] w1 w':=HotBy.grown hg (.inl (by simp))
 exact⟨r,rfl,hr,⟨hT,h.hot.trans hh⟩,hh⟩
theorem size_flt:(Tryz.prog.info? 37).map (·.size)=some 7:=by kernel_rfl
theorem size_rea:(Tryz.prog.info? 27).map (·.size)=some 3:=by kernel_rfl
theorem PieceB.elder{w:World} {g:Nat} {p:Pc} (h:PieceB w g p) (x:Int) (l:List UInt8):PieceB ((w.setCell ⟨g,4,none⟩ (.int .i64 x)).setCell ⟨g,5,none⟩ (.string ⟨l.toArray⟩)) g ⟨p.vol,p.frag,p.stripe,p.gen,x,l⟩:=heap_setCell_same _ g 5 _ _ _ (heap_setCell_same w g 4 _ _ _ h)
theorem cat_flat(t:Mat) (l:List UInt8):(⟨t.flatten.toArray⟩:ByteArray)++⟨l.toArray⟩=⟨(t++[l]).flatten.toArray⟩:=by
 rw[ByteArray.mk_append_mk]
 congr 1
 apply Array.ext'
 simp
theorem wide_sum:∀(t:Mat) (n:Nat),Wide t n→(List.map List.length t).sum=t.length * n
 | [],n,_=>by simp
 | r :: t,n,h=>by
  have h1:=wide_sum t n (fun x hx=>h x (List.mem_cons_of_mem _ hx))
  have h2:=h r (List.mem_cons_self ..)
  simp only[List.map_cons,List.sum_cons,List.length_cons,h1,h2,Nat.succ_mul]
  omega
theorem InP.drew{gT:Nat} {vt:Value} {wr0 w1:World} {I:Nat} (h:InP gT vt wr0 w1 I):InP gT vt wr0 w1.drew I:=⟨h.tape,h.hot.drew⟩
theorem MadeT.drew{gT:Nat} {vt:Value} {WM:World} {gR gM:Nat} {w:World} {I:Nat} {c0 c1 c2 vp vo va:Value} {rs:List (Value×List ByteArray)} {on:List Bool} {acks:List Ac} {n:Nat} {f:Int→Int→Option Value} (h:MadeT gT vt WM gR gM w I c0 c1 c2 vp vo va rs on acks n f):MadeT gT vt WM gR gM w.drew I c0 c1 c2 vp vo va rs on acks n f:=h.inP (InP.start h.tape).drew
theorem keysTo_le(ext v s:Nat) (he:ext≤2) (hv:v≤2) (hs:s≤2):(keysTo ext v s).length≤100:=by
 have h:∀v,((List.range v).flatMap (fun v=>(List.range ext).map fun s=>(v,s))).length=v * ext:=by
  intro v
  induction v with
  | zero=>simp
  | succ v ih=>rw[List.range_succ,List.flatMap_append,List.length_append,ih];simp[Nat.succ_mul]
 unfold keysTo
 rw[List.length_append,h]
 have:v * ext≤2 * 2:=Nat.mul_le_mul hv he
 simp;omega
theorem keysTo_mem{ext v a b:Nat} (h:(a,b)∈keysTo ext v 0):a<v∧b<ext:=by
 unfold keysTo at h
 rcases List.mem_append.1 h with h | h
 ·obtain⟨c,hc,hd⟩:=List.mem_flatMap.1 h
  obtain⟨d,hd1,hd2⟩:=List.mem_map.1 hd
  have h1:=List.mem_range.1 hc
  have h2:=List.mem_range.1 hd1
  injection hd2 with e1 e2
  omega
 ·simp at h
def w_cell_pol(w:World) (b o v p:Nat):Prop:=w.cell? ⟨b,o+v * 2+1,none⟩=some (.int .i64 (p:Int))
def MadePost(w:World) (e:Ending) (w':World):Prop :=
 ∃vl vm vd vv vp vo F r0 r1 r2 r gM n f st,e=.returned (.tuple #[.agg #[.int .i64 F.ext,vl,vm,vd,vv,vp,vo],.agg #[r0,r1,r2],.map (some gM)])∧FleetS w' (Fr w.heap.size w'.heap.size) vl vm vd vv vp vo F∧FleetOk 2 F ∧
  ReS w' (Fr w.heap.size w'.heap.size) r0 r1 r2 r∧MadeOk F r st∧MapKV w' 74 gM n f∧DataOk st f∧w.heap.size≤gM∧Below w.heap.size w w'
theorem run_copy{P:Program} (w:World) (t ty e:TypeId) (i:TypeInfo) (z:Value) (size bytes:Nat) (ht:P.underlying t=some (.slice e)) (hi:P.info? e=some i) (hz:i.zero=some z)
  (hsize:i.size=size) (hby:i.bytes=bytes) (hzs:z.cells.size=size) (hsz:0<size) (n:Nat) (A:Option Addr) (c:Nat) (cs:List Value) (hl:cs.length=n * size)
  (hc:0<n→∃b off,A=some ⟨b,off,none⟩∧∀j u,cs[j]?=some u→w.cell? ⟨b,off+j,none⟩=some u) (h1:∀u∈cs,u.oneCell'=true) (hn:n≤maxLen) (hbytes:n * bytes≤140737488355328) :
  ∃v' w',(Builtin.append_ #[t,t] ty #[.slice none 0 0,.slice A n c]).run P w=.ok v' w'∧w'.ownsRow w.heap.size e size v' n cs∧Below w.heap.size w w'∧(∀b,v'.ownBlock=some b→w.heap.size≤b):=by
 have hbl:∀{w':World},w.grownBy w' none→Below w.heap.size w w':=fun hg=>⟨hg.os,hg.tape,hg.output,hg.size,fun b hb=>hg.block b hb (by simp)⟩
 cases A with
 | none =>
  have h0:n=0:=by
   rcases Nat.eq_zero_or_pos n with h | h
   ·exact h
   ·obtain⟨b,off,e,-⟩:=hc h
    cases e
  subst h0
  have e:cs=[]:=List.eq_nil_of_length_eq_zero (by omega)
  subst e
  refine⟨.slice none 0 0,w,?_,World.ownsRow_nil _ _ _ _,Below.refl _ _,fun b h=>by cases h⟩
  simp[Builtin.append_,run_underlying ht,sizeOf,typeInfo,hi,Builtin.lenOf,Builtin.firstCells]
 | some ad =>
  have hnews:∀j u,cs[j]?=some u→w.cell? (ad.add j)=some u:=fun j u hu=>by
   have hjl:=(List.getElem?_eq_some_iff.1 hu).1
   have hpos:0<n:=by
    rcases Nat.eq_zero_or_pos n with h | h
    ·subst h;omega
    ·exact h
   obtain⟨b,off,e,hcell⟩:=hc hpos
   injection e with e
   subst e
   have hadd:(⟨b,off,none⟩:Addr).add j=⟨b,off+j,none⟩:=by unfold Addr.add;split <;> simp_all
   rw[hadd];exact hcell j u hu
  obtain⟨v',w',hr,h2,h3,h4,h5⟩:=run_append_own_at (P:=P) w w.heap.size t ty e i z size bytes ht hi hz hsize hby hzs hsz (.slice none 0 0) 0 [] (World.ownsRow_nil _ _ _ _) ad n c cs hl hnews h1 (by rw[Nat.zero_add];exact hn) (by rw[Nat.zero_add];exact hbytes) (Nat.le_refl _)
  rw[Nat.zero_add,List.nil_append] at h2
  refine⟨v',w',hr,h2,hbl h3,fun b hb=>?_⟩
  rcases h5 with h | h
  ·rw[h] at hb;cases hb
  ·rw[h] at hb;injection hb with hb;omega
theorem step_copy{ops:Array Oper} {o:Oper} {a:Act} {K:Act→World→Prop} {Q:Exit→Act→World→Prop} {E:Prop} {w:World} (hgd:o.guard=none) (s x:Operand) (t:TypeId)
  (ho:o.op=.call { callee:=.builtin .append,args:=#[s,x],argTypes:=#[t,t] }) (e:TypeId) (i:TypeInfo) (z:Value) (size bytes:Nat) (ht:Tryz.prog.underlying t=some (.slice e)) (hi:Tryz.prog.info? e=some i) (hz:i.zero=some z)
  (hsize:i.size=size) (hby:i.bytes=bytes) (hzs:z.cells.size=size) (hsz:0<size) (n:Nat) (A:Option Addr) (c:Nat) (cs:List Value) (hs:a.eval s=.slice none 0 0) (hx:a.eval x=.slice A n c) (hl:cs.length=n * size)
  (hc:0<n→∃b off,A=some ⟨b,off,none⟩∧∀j u,cs[j]?=some u→w.cell? ⟨b,off+j,none⟩=some u) (h1:∀u∈cs,u.oneCell'=true) (hn:n≤maxLen) (hbytes:n * bytes≤140737488355328)
  (h:∀v' w',w'.ownsRow w.heap.size e size v' n cs→Below w.heap.size w w'→(∀b,v'.ownBlock=some b→w.heap.size≤b)→K (a.put o.dst v') w') :
  if Region.wanted o (yielded ops a.tmps)=true then Oper.wp Tryz.prog o a w K Q else E:=by
 have hw:Region.wanted o (yielded ops a.tmps)=true:=by simp[Region.wanted,hgd]
 rw[if_pos hw]
 obtain⟨v',w',hr,h2,h3,h4⟩:=run_copy (P:=Tryz.prog) w t o.type e i z size bytes ht hi hz hsize hby hzs hsz n A c cs hl hc h1 hn hbytes
 unfold Oper.wp execOp
 simp only[ho,resolve,invoke,builtin,Sem.run_bind,Sem.run_pure,Result.andThen_ok,List.map_toArray,List.map_cons,List.map_nil,hs,hx,hr]
 exact h v' w' h2 h3 h4
theorem flat4_length(l:List Ac):(l.flatMap acC).length=l.length * 4:=by
 induction l with
 | nil=>rfl
 | cons x xs ih=>rw[List.flatMap_cons,List.length_append,ih,List.length_cons];show 4+_=_;omega
theorem flat4_one{l:List Ac} {u:Value} (h:u∈l.flatMap acC):u.oneCell'=true:=by
 obtain⟨x,-,hx⟩:=List.mem_flatMap.1 h
 simp[acC] at hx
 rcases hx with rfl | rfl | rfl | rfl <;> rfl
theorem flat4_at{l:List Ac} {j:Nat} {u:Value} (h:(l.flatMap acC)[j]?=some u):∃a,l[j / 4]?=some a∧(acC a)[j % 4]?=some u:=by
 induction l generalizing j with
 | nil=>simp at h
 | cons x xs ih =>
  rw[List.flatMap_cons] at h
  rcases Nat.lt_or_ge j 4 with h4 | h4
  ·rw[List.getElem?_append_left (by show j<4;omega)] at h
   exact⟨x,by rw[Nat.div_eq_of_lt h4];rfl,by rw[Nat.mod_eq_of_lt h4];exact h⟩
  ·rw[List.getElem?_append_right (by show 4≤j;omega)] at h
   obtain⟨a,h1,h2⟩:=ih h
   have e4:(acC x).length=4:=rfl
   rw[e4] at h1 h2
   refine⟨a,?_,?_⟩
   ·rw[show j / 4=(j - 4) / 4+1 by omega,List.getElem?_cons_succ];exact h1
   ·rw[show j % 4=(j - 4) % 4 by omega];exact h2
theorem row1_cells{α:Type} {K:World→(Nat→Prop)→List Value→α→Prop} {f:α→Value} (hK:∀w R cs a,K w R cs a→cs=[f a]) {w:World} {R:Nat→Prop} {A:Option Addr} {n c:Nat} {l:List α} (h:SlS 1 K w R (.slice A n c) l) (hn:0<n) :
  ∃b off,A=some ⟨b,off,none⟩∧R b∧∀j u,(l.map f)[j]?=some u→w.cell? ⟨b,off+j,none⟩=some u:=by
 obtain⟨A',c',e,h1,h2,h3⟩:=h
 injection e with e1 e2 e3
 subst e1
 subst e2
 obtain⟨b,off,rfl,hR,hc⟩:=h3 hn
 refine⟨b,off,rfl,hR,fun j u hu=>?_⟩
 rw[List.getElem?_map] at hu
 cases hx:l[j]? with
 | none=>rw[hx] at hu;cases hu
 | some x =>
  rw[hx] at hu
  injection hu with hu
  obtain⟨cs,_,h5,h6⟩:=hc j x hx
  have:=hK _ _ _ _ h6
  subst this
  have h7:=h5 0 _ rfl
  rw[Nat.mul_one,Nat.add_zero] at h7
  rw[←hu];exact h7
theorem row4_cells{w:World} {R:Nat→Prop} {A:Option Addr} {n c:Nat} {l:List Ac} (h:SlS 4 AcK w R (.slice A n c) l) (hn:0<n) :
  ∃b off,A=some ⟨b,off,none⟩∧R b∧∀j u,(l.flatMap acC)[j]?=some u→w.cell? ⟨b,off+j,none⟩=some u:=by
 obtain⟨A',c',e,h1,h2,h3⟩:=h
 injection e with e1 e2 e3
 subst e1
 subst e2
 obtain⟨b,off,rfl,hR,hc⟩:=h3 hn
 refine⟨b,off,rfl,hR,fun j u hu=>?_⟩
 obtain⟨a,h4,h5⟩:=flat4_at hu
 obtain⟨cs,_,h6,h7⟩:=hc _ a h4
 have h8:cs=acC a:=h7.1
 subst h8
 have h9:=h6 _ _ h5
 rw[show off+j / 4 * 4+j % 4=off+j by omega] at h9
 exact h9
theorem size_al(w:World) (o:Obj):(w.alloc o).heap.size=w.heap.size+1:=by simp
theorem cpt_store{W0 w6:World} {gX:Nat} {vo va:Value} {on:List Bool} {acks:List Ac} (hb:Below W0.heap.size W0 w6) (hX:w6.heap[gX]?=some (.cells #[.slice none 0 0,.slice none 0 0,.slice none 0 0] 27 (0,0))) (hg:W0.heap.size≤gX)
  (ho:w6.ownsRow W0.heap.size 4 1 vo on.length (on.map Value.bool)) (ha:w6.ownsRow W0.heap.size 53 4 va acks.length (acks.flatMap acC)) :
  CpT W0 gX (((w6.setCell ⟨gX,0,none⟩ (.slice none 0 0)).setCell ⟨gX,1,none⟩ vo).setCell ⟨gX,2,none⟩ va) (.slice none 0 0) vo va [] on acks:=by
 have hh:HotBy [some gX] w6 (((w6.setCell ⟨gX,0,none⟩ (.slice none 0 0)).setCell ⟨gX,1,none⟩ vo).setCell ⟨gX,2,none⟩ va):=((HotBy.setCell _ _ _ _ (by simp)).trans (HotBy.setCell _ _ _ _ (by simp))).trans (HotBy.setCell _ _ _ _ (by simp))
 exact⟨below_hotNew hb hh (fun x hx=>by simp at hx;rw[hx];exact hg),store3 hX,RowsQ.nil _ _,own_hot ho hh (fun b hb e=>by simp at e;subst e;exact own_nty ho hX (by decide) hb),own_hot ha hh (fun b hb e=>by simp at e;subst e;exact own_nty ha hX (by decide) hb),hg⟩
theorem copy_any(vp vo va:Value) (r:Re) (w:World) (h:ReS w (Bl w.heap.size) vp vo va r) (hp:r.plat.length≤1000) (hl:∀l∈r.plat,l.length≤1000) (ho:r.on.length≤1000000) (hac:r.acks.length≤1000000) :
  Calls Tryz.prog 17 #[.agg #[vp,vo,va]] w fun e w'=>∃vp' vo' va' rs,e=.returned (.agg #[vp',vo',va'])∧RowsQ w' w.heap.size vp' rs∧rs.map (·.2)=r.plat ∧
   w'.ownsRow w.heap.size 4 1 vo' r.on.length (r.on.map Value.bool)∧w'.ownsRow w.heap.size 53 4 va' r.acks.length (r.acks.flatMap acC)∧Below w.heap.size w w':=by
 obtain⟨Ap,cp,rfl,-,hmp⟩:=h.1.form
 obtain⟨Ao,co,rfl,-,hmo⟩:=h.2.1.form
 obtain⟨Aa,ca,rfl,-,hma⟩:=h.2.2.form
 have HR:=zh h
 have HPL:=zh hl
 obtain⟨NP,hNP⟩:=zx r.plat.length
 obtain⟨NO,hNO⟩:=zx r.on.length
 obtain⟨NA,hNA⟩:=zx r.acks.length
 rw[←hNP] at HR hp hmp ⊢
 rw[←hNO] at HR ho hmo ⊢
 rw[←hNA] at HR hac hma ⊢
 obtain⟨W0,hW0⟩:=zx ((w.alloc (.cells #[.slice Ap NP cp,.slice Ao NO co,.slice Aa NA ca] 27)).alloc (.cells #[.slice none 0 0,.slice none 0 0,.slice none 0 0] 27))
 obtain⟨y,hy⟩:=zx w.heap.size
 obtain⟨gO,hgO⟩:=zx (w.heap.size+1)
 have hb0:Below w.heap.size w W0:=by rw[hW0];exact((Below.refl _ _).alloc (Nat.le_refl _) _).alloc (by simp) _
 have hyk:W0.heap[y]?=some (.cells #[.slice Ap NP cp,.slice Ao NO co,.slice Aa NA ca] 27 (0,0)):=by
  rw[hW0,hy];exact(Below.heap_alloc _ _ _ (by simp)).trans (heap_alloc_new w _)
 have hok:W0.heap[gO]?=some (.cells #[.slice none 0 0,.slice none 0 0,.slice none 0 0] 27 (0,0)):=by
  rw[hW0];exact heap_alloc_at _ _ _ (by rw[hgO];simp)
 have hyl:y<W0.heap.size:=(Array.getElem?_eq_some_iff.1 hyk).1
 have hol:gO<W0.heap.size:=(Array.getElem?_eq_some_iff.1 hok).1
 have HS1:=zh (fun(w':World) (hb:Below W0.heap.size W0 w')=>(show w'.cell? ⟨y,0,none⟩=some (.slice Ap NP cp)∧w'.cell? ⟨y,1,none⟩=some (.slice Ao NO co)∧w'.cell? ⟨y,2,none⟩=some (.slice Aa NA ca)∧Below W0.heap.size W0 w' from by
  obtain⟨c0,c1,c2,-⟩:=cells3 ((hb.block y hyl).trans hyk)
  exact⟨c0,c1,c2,hb⟩))
 have HOK:=zh (fun(w':World) (hb:Below W0.heap.size W0 w')=>(hb.block gO hol).trans hok)
 have hsame:∀(w':World) (hb:Below W0.heap.size W0 w') (b o:Nat) (u:Value),w.cell? ⟨b,o,none⟩=some u→b<w.heap.size→w'.cell? ⟨b,o,none⟩=some u:=fun w' hb b o u hu hbl =>
  ((hb0.trans (hb.mono hb0.size)).cell (p:=⟨b,o,none⟩) hbl).trans hu
 have HCB:=zh (fun(w':World) (hb:Below W0.heap.size W0 w') (hn:0<NO)=>(show ∃b off,Ao=some ⟨b,off,none⟩∧∀j u,(r.on.map Value.bool)[j]?=some u→w'.cell? ⟨b,off+j,none⟩=some u from by
  obtain⟨b,off,e,hR,hc⟩:=row1_cells (f:=Value.bool) (fun _ _ _ _ h=>h) HR.out.2.1 hn
  exact⟨b,off,e,fun j u hu=>hsame w' hb b _ u (hc j u hu) hR⟩))
 have HCA:=zh (fun(w':World) (hb:Below W0.heap.size W0 w') (hn:0<NA)=>(show ∃b off,Aa=some ⟨b,off,none⟩∧∀j u,(r.acks.flatMap acC)[j]?=some u→w'.cell? ⟨b,off+j,none⟩=some u from by
  obtain⟨b,off,e,hR,hc⟩:=row4_cells HR.out.2.2 hn
  exact⟨b,off,e,fun j u hu=>hsame w' hb b _ u (hc j u hu) hR⟩))
 have HW0:=zh hW0
 have HY:=zh (And.intro hy hgO)
 have HB0:=zh hb0
 have HNP:=zh hNP
 have HNO:=zh hNO
 have HNA:=zh hNA
 have HMX:=zh (show NO≤maxLen∧NA≤maxLen from⟨hmo,hma⟩)
 have HSM:=zh (show NP≤1000∧NO≤1000000∧NA≤1000000 from⟨hp,ho,hac⟩)
 obtain⟨i0,hi0,hz0,hz1,hz2⟩:=info_parts info_bool
 obtain⟨j0,hj0,hy0,hy1,hy2⟩:=info_parts info_ack
 clear h hl hp ho hac hmp hmo hma hNP hNO hNA hW0 hy hgO hb0 hyk hok hyl hol hsame
 go_enter Tryz.func17,Tryz.ntmps17
 go_upto_region 1 with fail
 rw[←HW0.out,←HY.out.2,←HY.out.1]
 go_cut [3] from 5 to 11 (fun v3 wc=>∃(gX:Nat) (vo' va':Value),v3=.pointer (some ⟨gX,0,none⟩)∧Hid (CpT W0 gX wc (.slice none 0 0) vo' va' [] r.on r.acks))
 case first =>
  refine region_tail (S:=(fun w'=>w'.cell? ⟨y,0,none⟩=some (.slice Ap NP cp)∧w'.cell? ⟨y,1,none⟩=some (.slice Ao NO co)∧w'.cell? ⟨y,2,none⟩=some (.slice Aa NA ca)∧Below W0.heap.size W0 w')) [8] (by kernel_rfl) (HS1.out _ (Below.refl _ _).drew) (fun hHeld=>?_)
  refine tk 0 5 ?_
  refine tk 1 6 ?_
  refine tk 3 8 ?_
  refine tk 4 9 ?_
  refine readyT (rs:=[2,7]) (by kernel_rfl) (by simp) ?_
  refine AllReadyT.cons rfl (fun K hK=>?_) ?_
  ·refine step_copy rfl (.const (.slice none 0 0)) (.tmp 6) _ rfl 4 i0 _ 1 1 Tryz.underlying24 hi0 hz0 hz1 hz2 rfl (by decide) NO Ao co (r.on.map Value.bool) (by rfl) (by rfl) (by rw[List.length_map,←HNO.out];omega) (HCB.out _ hHeld.2.2.2) (fun u hu=>by obtain⟨x,-,rfl⟩:=List.mem_map.1 hu;rfl) (HMX.out.1) (by have:=HSM.out;omega) ?_
   intro vo' w5 ho5 hb5 hn5
   obtain⟨A5,c5,rfl⟩:=own_form ho5
   have h5s:W0.heap.size≤w5.heap.size:=by first | exact hb5.size | exact Nat.le_trans (show W0.heap.size≤(W0.alloc (.cells #[.slice none 0 0,.slice none 0 0,.slice none 0 0] 27)).heap.size from by simp) hb5.size
   have ho5':w5.ownsRow W0.heap.size 4 1 (.slice A5 NO c5) r.on.length (r.on.map Value.bool):=by rw[←HNO.out];first | exact own_base ho5 (Nat.le_refl _) | exact own_base ho5 (show W0.heap.size≤(W0.alloc (.cells #[.slice none 0 0,.slice none 0 0,.slice none 0 0] 27)).heap.size from by simp)
   try have hX5:=(hb5.block _ (Array.getElem?_eq_some_iff.1 hX).1).trans hX
   refine hK.out _ _ ?_ (fun hHeld=>?_)
   ·(first|assumption|exact HS1.out _ (hHeld.2.2.2.trans (hb6.mono hHeld.2.2.2.size))|exact HS1.out _ (hHeld.2.2.2.trans (hb5.mono hHeld.2.2.2.size))|exact HS1.out _ (hHeld.2.2.2.alloc hHeld.2.2.2.size _))
   clear hK K
   (try simp only[Act.put,z1,z2,z3])
   refine readyT (rs:=[5,7]) (by kernel_rfl) (by simp) ?_
   refine AllReadyT.cons rfl (fun K hK=>?_) ?_
   ·refine step_copy rfl (.const (.slice none 0 0)) (.tmp 9) _ rfl 53 j0 _ 4 32 Tryz.underlying25 hj0 hy0 hy1 hy2 rfl (by decide) NA Aa ca (r.acks.flatMap acC) (by rfl) (by rfl) (by rw[flat4_length,←HNA.out]) (HCA.out _ hHeld.2.2.2) (fun u hu=>flat4_one hu) (HMX.out.2) (by have:=HSM.out;omega) ?_
    intro va' w6 ho6 hb6 hn6
    obtain⟨A6,c6,rfl⟩:=own_form ho6
    have ho6':w6.ownsRow W0.heap.size 53 4 (.slice A6 NA c6) r.acks.length (r.acks.flatMap acC):=by rw[←HNA.out];first | exact own_base ho6 h5s | exact own_base ho6 (Nat.le_trans h5s (show w5.heap.size≤(w5.alloc (.cells #[.slice none 0 0,.slice none 0 0,.slice none 0 0] 27)).heap.size from by simp))
    first|have hX6:=(hb6.block _ (Array.getElem?_eq_some_iff.1 hX5).1).trans hX5|have hX6:=(hb6.block _ (Array.getElem?_eq_some_iff.1 hX).1).trans hX|skip
    refine hK.out _ _ ?_ (fun hHeld=>?_)
    ·(first|assumption|exact HS1.out _ (hHeld.2.2.2.trans (hb6.mono hHeld.2.2.2.size))|exact HS1.out _ (hHeld.2.2.2.trans (hb5.mono hHeld.2.2.2.size))|exact HS1.out _ (hHeld.2.2.2.alloc hHeld.2.2.2.size _))
    clear hK K
    (try simp only[Act.put,z1,z2,z3])
    refine tk 6 11 ?_
    refine readyT (rs:=[7]) (by kernel_rfl) (by simp) ?_
    refine AllReadyT.cons rfl (fun K hK=>?_) ?_
    ·go_simp
     first|have hX:=heap_alloc_new w6 (.cells #[.slice none 0 0,.slice none 0 0,.slice none 0 0] 27)|have hX:=heap_alloc_new w5 (.cells #[.slice none 0 0,.slice none 0 0,.slice none 0 0] 27)|have hX:=heap_alloc_new W0.drew (.cells #[.slice none 0 0,.slice none 0 0,.slice none 0 0] 27)
     refine hK.out _ _ ?_ (fun hHeld=>?_)
     ·(first|assumption|exact HS1.out _ (hHeld.2.2.2.trans (hb6.mono hHeld.2.2.2.size))|exact HS1.out _ (hHeld.2.2.2.trans (hb5.mono hHeld.2.2.2.size))|exact HS1.out _ (hHeld.2.2.2.alloc hHeld.2.2.2.size _))
     clear hK K
     (try simp only[Act.put,z1,z2,z3])
     refine readyT (rs:=[8]) (by kernel_rfl) (by simp) ?_
     refine AllReadyT.consT rfl rfl (fun K hK=>?_) ?_
     ·go_simp
      refine hK.out _ _ ?_
      clear hK K
      (try simp only[Act.put,z1,z2,z3])
      refine doneT (by kernel_rfl) ?_ _
      go_wp2_with fail
      go_meet
      exact⟨_,_,_,rfl,((⟨(((Below.refl W0.heap.size W0).drew.trans (hb5.trans (hb6.mono hb5.size)))).alloc (((Below.refl W0.heap.size W0).drew.trans (hb5.trans (hb6.mono hb5.size)))).size _,heap_alloc_new w6 _,RowsQ.nil _ _,((own_below ho5' hb6)).alloc _,(ho6').alloc _,(((Below.refl W0.heap.size W0).drew.trans (hb5.trans (hb6.mono hb5.size)))).size⟩:CpT W0 w6.heap.size _ _ _ _ [] r.on r.acks))⟩
     exact AllReadyT.nil
    exact AllReadyT.nil
   refine AllReadyT.cons rfl (fun K hK=>?_) ?_
   ·go_simp
    first|have hX:=heap_alloc_new w6 (.cells #[.slice none 0 0,.slice none 0 0,.slice none 0 0] 27)|have hX:=heap_alloc_new w5 (.cells #[.slice none 0 0,.slice none 0 0,.slice none 0 0] 27)|have hX:=heap_alloc_new W0.drew (.cells #[.slice none 0 0,.slice none 0 0,.slice none 0 0] 27)
    refine hK.out _ _ ?_ (fun hHeld=>?_)
    ·(first|assumption|exact HS1.out _ (hHeld.2.2.2.trans (hb6.mono hHeld.2.2.2.size))|exact HS1.out _ (hHeld.2.2.2.trans (hb5.mono hHeld.2.2.2.size))|exact HS1.out _ (hHeld.2.2.2.alloc hHeld.2.2.2.size _))
    clear hK K
    (try simp only[Act.put,z1,z2,z3])
    refine readyT (rs:=[5]) (by kernel_rfl) (by simp) ?_
    refine AllReadyT.cons rfl (fun K hK=>?_) ?_
    ·refine step_copy rfl (.const (.slice none 0 0)) (.tmp 9) _ rfl 53 j0 _ 4 32 Tryz.underlying25 hj0 hy0 hy1 hy2 rfl (by decide) NA Aa ca (r.acks.flatMap acC) (by rfl) (by rfl) (by rw[flat4_length,←HNA.out]) (HCA.out _ hHeld.2.2.2) (fun u hu=>flat4_one hu) (HMX.out.2) (by have:=HSM.out;omega) ?_
     intro va' w6 ho6 hb6 hn6
     obtain⟨A6,c6,rfl⟩:=own_form ho6
     have ho6':w6.ownsRow W0.heap.size 53 4 (.slice A6 NA c6) r.acks.length (r.acks.flatMap acC):=by rw[←HNA.out];first | exact own_base ho6 h5s | exact own_base ho6 (Nat.le_trans h5s (show w5.heap.size≤(w5.alloc (.cells #[.slice none 0 0,.slice none 0 0,.slice none 0 0] 27)).heap.size from by simp))
     first|have hX6:=(hb6.block _ (Array.getElem?_eq_some_iff.1 hX5).1).trans hX5|have hX6:=(hb6.block _ (Array.getElem?_eq_some_iff.1 hX).1).trans hX|skip
     refine hK.out _ _ ?_ (fun hHeld=>?_)
     ·(first|assumption|exact HS1.out _ (hHeld.2.2.2.trans (hb6.mono hHeld.2.2.2.size))|exact HS1.out _ (hHeld.2.2.2.trans (hb5.mono hHeld.2.2.2.size))|exact HS1.out _ (hHeld.2.2.2.alloc hHeld.2.2.2.size _))
     clear hK K
     (try simp only[Act.put,z1,z2,z3])
     refine tk 6 11 ?_
     refine readyT (rs:=[8]) (by kernel_rfl) (by simp) ?_
     refine AllReadyT.consT rfl rfl (fun K hK=>?_) ?_
     ·obtain⟨z0,z1,z2,z3,z4,z5⟩:=cells3 hX6
      go_simp
      refine hK.out _ _ ?_
      clear hK K
      (try simp only[Act.put,z1,z2,z3])
      refine doneT (by kernel_rfl) ?_ _
      go_wp2_with fail
      go_meet
      exact⟨_,_,_,rfl,cpt_store (((Below.refl W0.heap.size W0).drew.trans (hb5.trans ((((Below.refl w5.heap.size w5).alloc (Nat.le_refl _) (.cells #[.slice none 0 0,.slice none 0 0,.slice none 0 0] 27)).trans (hb6.mono (show w5.heap.size≤(w5.alloc (.cells #[.slice none 0 0,.slice none 0 0,.slice none 0 0] 27)).heap.size from by simp))).mono hb5.size)))) hX6 (by have h5:=hb5.size;have h6:=hb6.size;(try simp only[size_al] at h5);(try simp only[size_al] at h6);(try simp only[size_al]);have hd:W0.drew.heap.size=W0.heap.size:=rfl;omega) ((own_below ho5' (((Below.refl w5.heap.size w5).alloc (Nat.le_refl _) (.cells #[.slice none 0 0,.slice none 0 0,.slice none 0 0] 27)).trans (hb6.mono (show w5.heap.size≤(w5.alloc (.cells #[.slice none 0 0,.slice none 0 0,.slice none 0 0] 27)).heap.size from by simp))))) (ho6')⟩
     exact AllReadyT.nil
    exact AllReadyT.nil
   exact AllReadyT.nil
  refine AllReadyT.cons rfl (fun K hK=>?_) ?_
  ·go_simp
   first|have hX:=heap_alloc_new w6 (.cells #[.slice none 0 0,.slice none 0 0,.slice none 0 0] 27)|have hX:=heap_alloc_new w5 (.cells #[.slice none 0 0,.slice none 0 0,.slice none 0 0] 27)|have hX:=heap_alloc_new W0.drew (.cells #[.slice none 0 0,.slice none 0 0,.slice none 0 0] 27)
   refine hK.out _ _ ?_ (fun hHeld=>?_)
   ·(first|assumption|exact HS1.out _ (hHeld.2.2.2.trans (hb6.mono hHeld.2.2.2.size))|exact HS1.out _ (hHeld.2.2.2.trans (hb5.mono hHeld.2.2.2.size))|exact HS1.out _ (hHeld.2.2.2.alloc hHeld.2.2.2.size _))
   clear hK K
   (try simp only[Act.put,z1,z2,z3])
   refine readyT (rs:=[2]) (by kernel_rfl) (by simp) ?_
   refine AllReadyT.cons rfl (fun K hK=>?_) ?_
   ·refine step_copy rfl (.const (.slice none 0 0)) (.tmp 6) _ rfl 4 i0 _ 1 1 Tryz.underlying24 hi0 hz0 hz1 hz2 rfl (by decide) NO Ao co (r.on.map Value.bool) (by rfl) (by rfl) (by rw[List.length_map,←HNO.out];omega) (HCB.out _ hHeld.2.2.2) (fun u hu=>by obtain⟨x,-,rfl⟩:=List.mem_map.1 hu;rfl) (HMX.out.1) (by have:=HSM.out;omega) ?_
    intro vo' w5 ho5 hb5 hn5
    obtain⟨A5,c5,rfl⟩:=own_form ho5
    have h5s:W0.heap.size≤w5.heap.size:=by first | exact hb5.size | exact Nat.le_trans (show W0.heap.size≤(W0.alloc (.cells #[.slice none 0 0,.slice none 0 0,.slice none 0 0] 27)).heap.size from by simp) hb5.size
    have ho5':w5.ownsRow W0.heap.size 4 1 (.slice A5 NO c5) r.on.length (r.on.map Value.bool):=by rw[←HNO.out];first | exact own_base ho5 (Nat.le_refl _) | exact own_base ho5 (show W0.heap.size≤(W0.alloc (.cells #[.slice none 0 0,.slice none 0 0,.slice none 0 0] 27)).heap.size from by simp)
    try have hX5:=(hb5.block _ (Array.getElem?_eq_some_iff.1 hX).1).trans hX
    refine hK.out _ _ ?_ (fun hHeld=>?_)
    ·(first|assumption|exact HS1.out _ (hHeld.2.2.2.trans (hb6.mono hHeld.2.2.2.size))|exact HS1.out _ (hHeld.2.2.2.trans (hb5.mono hHeld.2.2.2.size))|exact HS1.out _ (hHeld.2.2.2.alloc hHeld.2.2.2.size _))
    clear hK K
    (try simp only[Act.put,z1,z2,z3])
    refine readyT (rs:=[5]) (by kernel_rfl) (by simp) ?_
    refine AllReadyT.cons rfl (fun K hK=>?_) ?_
    ·refine step_copy rfl (.const (.slice none 0 0)) (.tmp 9) _ rfl 53 j0 _ 4 32 Tryz.underlying25 hj0 hy0 hy1 hy2 rfl (by decide) NA Aa ca (r.acks.flatMap acC) (by rfl) (by rfl) (by rw[flat4_length,←HNA.out]) (HCA.out _ hHeld.2.2.2) (fun u hu=>flat4_one hu) (HMX.out.2) (by have:=HSM.out;omega) ?_
     intro va' w6 ho6 hb6 hn6
     obtain⟨A6,c6,rfl⟩:=own_form ho6
     have ho6':w6.ownsRow W0.heap.size 53 4 (.slice A6 NA c6) r.acks.length (r.acks.flatMap acC):=by rw[←HNA.out];first | exact own_base ho6 h5s | exact own_base ho6 (Nat.le_trans h5s (show w5.heap.size≤(w5.alloc (.cells #[.slice none 0 0,.slice none 0 0,.slice none 0 0] 27)).heap.size from by simp))
     first|have hX6:=(hb6.block _ (Array.getElem?_eq_some_iff.1 hX5).1).trans hX5|have hX6:=(hb6.block _ (Array.getElem?_eq_some_iff.1 hX).1).trans hX|skip
     refine hK.out _ _ ?_ (fun hHeld=>?_)
     ·(first|assumption|exact HS1.out _ (hHeld.2.2.2.trans (hb6.mono hHeld.2.2.2.size))|exact HS1.out _ (hHeld.2.2.2.trans (hb5.mono hHeld.2.2.2.size))|exact HS1.out _ (hHeld.2.2.2.alloc hHeld.2.2.2.size _))
     clear hK K
     (try simp only[Act.put,z1,z2,z3])
     refine tk 6 11 ?_
     refine readyT (rs:=[8]) (by kernel_rfl) (by simp) ?_
     refine AllReadyT.consT rfl rfl (fun K hK=>?_) ?_
     ·have hX7:w6.heap[W0.heap.size]?=some (.cells #[.slice none 0 0,.slice none 0 0,.slice none 0 0] 27 (0,0)):=hX6
      obtain⟨z0,z1,z2,z3,z4,z5⟩:=cells3 hX7
      go_simp
      refine hK.out _ _ ?_
      clear hK K
      (try simp only[Act.put,z1,z2,z3])
      refine doneT (by kernel_rfl) ?_ _
      go_wp2_with fail
      go_meet
      exact⟨_,_,_,rfl,cpt_store ((((Below.refl W0.heap.size W0).drew.alloc (Nat.le_refl _) (.cells #[.slice none 0 0,.slice none 0 0,.slice none 0 0] 27)).trans ((hb5.trans (hb6.mono hb5.size)).mono (show W0.heap.size≤(W0.alloc (.cells #[.slice none 0 0,.slice none 0 0,.slice none 0 0] 27)).heap.size from by simp)))) hX6 (by have h5:=hb5.size;have h6:=hb6.size;(try simp only[size_al] at h5);(try simp only[size_al] at h6);(try simp only[size_al]);have hd:W0.drew.heap.size=W0.heap.size:=rfl;omega) ((own_below ho5' hb6)) (ho6')⟩
     exact AllReadyT.nil
    exact AllReadyT.nil
   exact AllReadyT.nil
  exact AllReadyT.nil
 case rest =>
  obtain⟨gX,vo',va',rfl,HCP⟩:=hcut
  go_wp2_with fail
  go_loopg [4] NP (fun z v4 wr=>∃(i:Nat) (vp':Value) (rs:List (Value×List ByteArray)),v4=.int .i64 (i:Int)∧z=NP - i∧i≤NP∧Hid (CpT W0 gX wr vp' vo' va' rs r.on r.acks)∧Hid (rs.map (·.2)=r.plat.take i))
  case atStart=>exact⟨0,_,[],rfl,rfl,Nat.zero_le _,HCP.out,rfl⟩
  case round =>
   clear HCP
   obtain⟨i,vp',rs,rfl,rfl,hi,HCP,HRS⟩:=hrel
   obtain⟨s0,s1,s2,-⟩:=HS1.out wr HCP.out.hot
   by_cases hlt:i<NP
   ·-- L1{
    have hil:i<r.plat.length:=by rw[←HNP.out];exact hlt
    obtain⟨b,off,cs,hAp,hRb,-,hcs,v,hcv,hsl⟩:=HR.out.1.at_ hil
    subst hAp
    subst hcv
    have hc0:=hcs 0 _ rfl
    rw[Nat.mul_one,Nat.add_zero] at hc0
    have c25:=(((HB0.out.trans (HCP.out.hot.mono HB0.out.size)).cell (p:=⟨b,off+i,none⟩) hRb).trans hc0)
    obtain⟨l,hl⟩:=zx (r.plat[i])
    rw[←hl] at hsl
    obtain⟨Al,cl,hv,-,hml⟩:=hsl.form
    subst hv
    obtain⟨NL,hNL⟩:=zx l.length
    rw[←hNL] at c25 hc0
    have HSL:=zh hsl
    have HLS:=zh (show ∀s∈l,s.size≤maxLen from fun s hs=>by
     obtain⟨k,hk⟩:=List.getElem?_of_mem hs
     obtain⟨A',c',e,h1,h2,h3⟩:=hsl
     have hkl:=(List.getElem?_eq_some_iff.1 hk).1
     obtain⟨b',off',-,-,hc⟩:=h3 (by omega)
     obtain⟨cs',-,-,h4⟩:=hc k s hk
     exact h4.2)
    have HNL:=zh (show NL=l.length∧NL≤1000 from⟨hNL,by rw[hNL,hl];exact HPL.out _ (List.getElem_mem hil)⟩)
    have HCL:=zh (fun(w':World) (hb:Below W0.heap.size W0 w') (hn:0<NL)=>(show ∃b off,Al=some ⟨b,off,none⟩∧∀j u,(l.map Value.string)[j]?=some u→w'.cell? ⟨b,off+j,none⟩=some u from by
     obtain⟨b,off,e,hR,hc⟩:=row1_cells (f:=Value.string) (fun _ _ _ _ h=>h.1) HSL.out (by rw[←HNL.out.1];exact hn)
     exact⟨b,off,e,fun j u hu=>(((HB0.out.trans (hb.mono HB0.out.size)).cell (p:=⟨b,off+j,none⟩) hR).trans (hc j u hu))⟩))
    obtain⟨x0,x1,x2,xf,hXl⟩:=HCP.out.cells
    have f0:=xf 0
    have HTK:=zh (show r.plat.take (i+1)=r.plat.take i++[l] from by rw[hl];exact List.take_succ_eq_append_getElem hil)
    have HRL:=zh (show rs.length=i from by have h1:=congrArg List.length HRS.out;rw[List.length_map,List.length_take] at h1;omega)
    obtain⟨Av,nv,cv,hvf⟩:∃A n c,vp'=.slice A n c:=by obtain⟨A,c,e⟩:=own_form HCP.out.plat.top;exact⟨A,_,c,e⟩
    have hnv:nv=i:=by
     obtain⟨A,c,e⟩:=own_form HCP.out.plat.top
     rw[hvf] at e
     injection e with e1 e2 e3
     rw[e2,HRL.out]
    subst hvf
    subst hnv
    have hiN:(nv:Int)<(NP:Int):=by omega
    have HLT:=zh hlt
    have HXL:=zh hXl
    have HWS:=zh (HCP.out.hot.size)
    have HS5:=zh (show wr.drew.cell? ⟨y,0,none⟩=some (.slice (some ⟨b,off,none⟩) NP cp)∧wr.drew.cell? ⟨gX,0,none⟩=some (.slice Av nv cv)∧wr.drew.cell? ⟨b,off+nv,none⟩=some (.slice Al NL cl)∧wr.drew.frozen? ⟨gX,0,none⟩=false from⟨s0,x0,c25,f0⟩)
    have HB25:=zh (fun(w':World) (hb:Below W0.heap.size W0 w')=>(show w'.cell? ⟨b,off+nv,none⟩=some (.slice Al NL cl) from((HB0.out.trans (hb.mono HB0.out.size)).cell (p:=⟨b,off+nv,none⟩) hRb).trans hc0))
    have HRB:=zh (show y<W0.heap.size∧b<W0.heap.size from⟨World.block_lt_of_cell? W0 _ (HS1.out W0 (Below.refl _ _)).1,Nat.lt_of_lt_of_le hRb HB0.out.size⟩)
    obtain⟨k0,hk0,hs0,hs1,hs2⟩:=info_parts info_str
    obtain⟨m0,hm0,ht0,ht1,ht2⟩:=info_parts info_strs
    clear hil hRb hcs hc0 c25 hl hsl hml hNL s1 s2 x0 x1 x2 xf hXl f0
    go_upto_region 5 with fail
    clear s0
    refine region_tail (S:=(fun w'=>w'.cell? ⟨y,0,none⟩=some (.slice (some ⟨b,off,none⟩) NP cp)∧w'.cell? ⟨gX,0,none⟩=some (.slice Av nv cv)∧w'.cell? ⟨b,off+nv,none⟩=some (.slice Al NL cl)∧w'.frozen? ⟨gX,0,none⟩=false)) [11] (by kernel_rfl) HS5.out (fun hHeld=>?_)
    refine tk 0 19 ?_
    refine tk 1 20 ?_
    refine tk 2 21 ?_
    refine tk 3 22 ?_
    refine tk 4 23 ?_
    refine tk 5 24 ?_
    refine tk 6 25 ?_
    refine readyT (rs:=[7]) (by kernel_rfl) (by simp) ?_
    refine AllReadyT.cons rfl (fun K hK=>?_) ?_
    ·refine step_copy rfl (.const (.slice none 0 0)) (.tmp 25) _ rfl 9 k0 _ 1 16 Tryz.underlying50 hk0 hs0 hs1 hs2 rfl (by decide) NL Al cl (l.map Value.string) (by rfl) (by rfl) (by rw[List.length_map,←HNL.out.1];omega) (HCL.out _ (HCP.out.hot.trans ((Below.refl wr.heap.size wr).drew.mono HWS.out))) (fun u hu=>by obtain⟨x,-,rfl⟩:=List.mem_map.1 hu;rfl) (by have:=HNL.out.2;unfold maxLen;omega) (by have:=HNL.out.2;omega) ?_
     intro v5 w5 ho5 hb5 hn5
     obtain⟨A5,c5,rfl⟩:=own_form ho5
     have hw5:Below wr.heap.size wr w5:=(Below.refl wr.heap.size wr).drew.trans hb5
     have hC5:=HCP.out.below hw5
     have hS5':w5.cell? ⟨y,0,none⟩=some (.slice (some ⟨b,off,none⟩) NP cp)∧w5.cell? ⟨gX,0,none⟩=some (.slice Av nv cv)∧w5.cell? ⟨b,off+nv,none⟩=some (.slice Al NL cl)∧w5.frozen? ⟨gX,0,none⟩=false:=⟨(HS1.out w5 hC5.hot).1,hC5.cells.1,HB25.out w5 hC5.hot,hC5.cells.2.2.2.1 0⟩
     refine hK.out _ _ ?_ (fun hHeld=>?_)
     ·assumption
     clear hK K
     (try simp only[Act.put,z1,z2,z3])
     refine readyT (rs:=[8]) (by kernel_rfl) (by simp) ?_
     refine AllReadyT.cons rfl (fun K hK=>?_) ?_
     ·go_simp
      have hC8:=hC5.below ((Below.refl _ _).alloc (Nat.le_refl _) (.cells #[.slice A5 NL c5] 50))
      have hS8:(w5.alloc (.cells #[.slice A5 NL c5] 50)).cell? ⟨y,0,none⟩=some (.slice (some ⟨b,off,none⟩) NP cp)∧(w5.alloc (.cells #[.slice A5 NL c5] 50)).cell? ⟨gX,0,none⟩=some (.slice Av nv cv)∧(w5.alloc (.cells #[.slice A5 NL c5] 50)).cell? ⟨b,off+nv,none⟩=some (.slice Al NL cl)∧(w5.alloc (.cells #[.slice A5 NL c5] 50)).frozen? ⟨gX,0,none⟩=false:=⟨(HS1.out _ hC8.hot).1,hC8.cells.1,HB25.out _ hC8.hot,hC8.cells.2.2.2.1 0⟩
      have htop:=hC8.plat.top
      rw[HRL.out] at htop
      have HTOP:=zh htop
      refine hK.out _ _ ?_ (fun hHeld=>?_)
      ·assumption
      clear hK K
      (try simp only[Act.put,z1,z2,z3])
      refine readyT (rs:=[9]) (by kernel_rfl) (by simp) ?_
      refine AllReadyT.cons rfl (fun K hK=>?_) ?_
      ·refine step_append_lies _ (by rfl) _ _ _ (by rfl) W0.heap.size 50 m0 _ 1 24 Tryz.underlying23 hm0 ht0 ht1 ht2 rfl (by decide) (.slice Av nv cv) nv (rs.map (·.1)) (by rfl) (HTOP.out) ⟨w5.heap.size,0,none⟩ 1 1 [.slice A5 NL c5] (by rfl) (by rfl) (World.news_of_block (cs:=#[.slice A5 NL c5]) (t:=50) (fr:=(0,0)) (heap_alloc_new w5 _)) (by simp[Value.oneCell']) (by omega) (by have:=HSM.out.1;have:=HLT.out;unfold maxLen;omega) (by have:=HSM.out.1;have:=HLT.out;omega) (by have:=HWS.out;have:=hb5.size;have hd:wr.drew.heap.size=wr.heap.size:=rfl;rw[size_al];omega) (w5.heap.size+1) (by simp) ?_
       intro gg cap6 w6 ho6 hg6 hat6 hlt6
       have h6:=hC8.only (HotBy.grown hg6 (.inl (by simp))) 50 (own_ho hC8.plat.top)
       have hX6:=h6.2.1 (by decide)
       have hz6:w6.frozen? ⟨gX,0,none⟩=false:=frozen_of_row _ _ _ _ _ hX6
       have hS9:w6.cell? ⟨y,0,none⟩=some (.slice (some ⟨b,off,none⟩) NP cp)∧w6.cell? ⟨gX,0,none⟩=some (.slice Av nv cv)∧w6.cell? ⟨b,off+nv,none⟩=some (.slice Al NL cl)∧w6.frozen? ⟨gX,0,none⟩=false:=⟨(HS1.out _ h6.1).1,by rw[cell_of_row _ _ _ _ _ _ hX6];rfl,HB25.out _ h6.1,hz6⟩
       refine hK.out _ _ ?_ (fun hHeld=>?_)
       ·assumption
       clear hK K
       (try simp only[Act.put,z1,z2,z3])
       refine tk 10 29 ?_
       refine readyT (rs:=[11]) (by kernel_rfl) (by simp) ?_
       refine AllReadyT.consT rfl rfl (fun K hK=>?_) ?_
       ·go_simp
        refine hK.out _ _ ?_
        clear hK K
        (try simp only[Act.put,z1,z2,z3])
        refine doneT (by kernel_rfl) ?_ _
        have hsm:=HSM.out.1
        go_wp2_with fail
        have hv5:=own_base (B':=W0.heap.size) ho5 HWS.out
        have hv8:(w5.alloc (.cells #[.slice A5 NL c5] 50)).ownsRow W0.heap.size 9 1 (.slice A5 NL c5) l.length (l.map Value.string):=by rw[←HNL.out.1];exact hv5.alloc _
        have HPU:=zh (hC8.pushP (vp':=.slice (some ⟨gg,0,none⟩) (nv+1) cap6) hv8 (fun b e i x hx e2=>by
         have h1:=((HCP.out.plat.row i x hx).lt b e2).2
         have h2:=hn5 b e
         have hd:wr.drew.heap.size=wr.heap.size:=rfl
         omega) HLS.out hg6 (by rw[HRL.out];exact ho6))
        go_roundg (NP - (nv+1))
        case measure=>have:=HLT.out;omega
        case rel=>exact⟨nv+1,_,_,by go_num,rfl,by have:=HLT.out;omega,HPU.out,by rw[List.map_append,HRS.out,HTK.out];rfl⟩
       exact AllReadyT.nil
      exact AllReadyT.nil
     exact AllReadyT.nil
    exact AllReadyT.nil
   ·-- L2{
    obtain rfl:NP=i:=by omega
    obtain⟨x0,x1,x2,xf,hXl⟩:=HCP.out.cells
    obtain⟨z0,z1,z2,z3,z4,z5⟩:=cells3 (HOK.out wr HCP.out.hot)
    have HZO:=zh (HOK.out wr HCP.out.hot)
    obtain⟨A5,c5,hv5⟩:=own_form HCP.out.ons
    obtain⟨A6,c6,hv6⟩:=own_form HCP.out.aks
    obtain⟨A7,c7,hv7⟩:=own_form HCP.out.plat.top
    subst hv5
    subst hv6
    subst hv7
    clear xf hXl s1 s2
    go_wp2_with fail
    obtain⟨WZ,hWZ⟩:=zx ((((wr.setCell ⟨gO,0,none⟩ (.slice A7 rs.length c7)).setCell ⟨gO,1,none⟩ (.slice A5 r.on.length c5)).setCell ⟨gO,2,none⟩ (.slice A6 r.acks.length c6)):World)
    have hz:=store3 (x:=.slice A7 rs.length c7) (y:=.slice A5 r.on.length c5) (z:=.slice A6 r.acks.length c6) HZO.out
    rw[←hWZ] at hz ⊢
    have hh:HotBy [some gO] wr WZ:=by rw[hWZ];exact((HotBy.setCell _ _ _ _ (by simp)).trans (HotBy.setCell _ _ _ _ (by simp))).trans (HotBy.setCell _ _ _ _ (by simp))
    obtain⟨n0,n1,n2,-⟩:=cells3 hz
    refine bodyPost_ret (v:=.agg #[.slice A7 rs.length c7,.slice A5 r.on.length c5,.slice A6 r.acks.length c6]) ?_ rfl ?_
    ·simp[results,Tryz.results17,go_sem,n0,n1,n2]
    ·have hb0:=HB0.out.size
     have hot:∀{e:TypeId} {s m:Nat} {v:Value} {xs:List Value},wr.ownsRow W0.heap.size e s v m xs→27≠e→WZ.ownsRow w.heap.size e s v m xs:=fun h1 h2 =>
      own_base (own_hot h1 hh (fun b hb e=>by simp at e;subst e;exact own_nty h1 HZO.out h2 hb)) hb0
     refine⟨_,_,_,rs,rfl,⟨hot HCP.out.plat.top (by decide),fun i x hx=>hot (HCP.out.plat.row i x hx) (by decide),HCP.out.plat.apart,HCP.out.plat.size⟩,?_,by rw[HNO.out];exact hot HCP.out.ons (by decide),by rw[HNA.out];exact hot HCP.out.aks (by decide),?_⟩
     ·rw[HRS.out];exact List.take_of_length_le (by rw[←HNP.out];exact Nat.le_refl _)
     ·exact below_hotNew (HB0.out.trans (HCP.out.hot.mono hb0)) hh (fun x hx=>by simp at hx;have:=HY.out;omega)
end Go.Proofs.YtmehadfhcdpfcaaGreat
