/- What a law reads of a reality under edits, and an append that leaves the old row readable. -/
import Derived.Test.YtmehadfhcdpfcaaGreatMg11
import Derived.Test.YtmehadfhcdpfcaaGreatMg19
import Derived.Test.YtmehadfhcdpfcaaGreatMg18
import Derived.Test.YtmehadfhcdpfcaaGreatMg01
import Derived.Test.YtmehadfhcdpfcaaGreatMg04
import Derived.Test.YtmehadfhcdpfcaaGreatMg07
set_option maxRecDepth 100000
set_option maxHeartbeats 12800000
namespace Go.Proofs.YtmehadfhcdpfcaaGreat
open Go.RowKit
set_option linter.unusedVariables false
set_option linter.unusedSimpArgs false
theorem step_app_both{ops:Array Oper} {o:Oper} {a:Act} {K:Act→World→Prop} {Q:Exit→Act→World→Prop} {E:Prop} {w:World} (x0:ByteArray) (s x:Operand) (hgd:o.guard=none) (ho:o.op=.call { callee:=.builtin .append,args:=#[s,x],argTypes:=#[50,50] })
  (base:Nat) (v:Value) (n:Nat) (xs:List Value) (hs:a.eval s=v) (hown:w.ownsRow base 9 1 v n xs) (g:Nat) (hx:a.eval x=.slice (some ⟨g,0,none⟩) 1 1) (hgw:g=w.heap.size) (hn:n+1≤16777216) (hbase:base≤w.heap.size)
  (h:∀v' w',w'.ownsRow base 9 1 v' (n+1) (xs++[.string x0])→(w.alloc (.cells #[.string x0] 9)).grownBy w' v.ownBlock→w'.ownsRow base 9 1 v n xs→(v'.ownBlock=v.ownBlock∨v'.ownBlock=some (w.heap.size+1))→K (a.put o.dst v') w') :
  if Region.wanted o (yielded ops a.tmps)=true then Oper.wp Tryz.prog o a (w.alloc (.cells #[.string x0] 9)) K Q else E:=by
 subst hgw
 have hw:Region.wanted o (yielded ops a.tmps)=true:=by simp[Region.wanted,hgd]
 rw[if_pos hw]
 obtain⟨v',w',hr,h2,h3,h4⟩:=run_app_old base x0 v n xs o.type hown hn hbase
 obtain⟨i0,hi0,hz0,hz1,hz2⟩:=info_parts info_strV
 obtain⟨v2,w2,hr2,-,-,-,h5⟩:=run_append_own_at (P:=Tryz.prog) (w.alloc (.cells #[.string x0] 9)) base 50 o.type 9 i0 _ 1 16 Tryz.underlying50 hi0 hz0 hz1 hz2 rfl (by omega) v n xs (hown.alloc _) ⟨w.heap.size,0,none⟩ 1 1 [.string x0] rfl (cell_one_new w _ _) (by intro u hu;rw[List.mem_singleton.1 hu];rfl) (by unfold maxLen;omega) (by omega) (by simp;omega)
 rw[hr] at hr2
 injection hr2 with e1 e2
 subst e1
 subst e2
 unfold Oper.wp execOp
 simp only[ho,resolve,invoke,builtin,Sem.run_bind,Sem.run_pure,Result.andThen_ok,List.map_toArray,List.map_cons,List.map_nil,hs,hx,hr]
 refine h v' w' h2 h3 h4 ?_
 rcases h5 with h5 | h5
 ·exact .inl h5
 ·exact .inr (by rw[h5];simp)
section
variable {WM : World} {gX : Nat} {w w' : World} {vp vo va : Value} {rs : List (Value × List ByteArray)} {on : List Bool} {acks : List Ac}
theorem CpT.look{gv ND cw d gi Ld cd i:Nat} {l:List ByteArray} {X:ByteArray} (h:CpT WM gX w (.slice (some ⟨gv,0,none⟩) ND cw) vo va rs on acks) (hN:rs.length=ND) (hd:rs[d]?=some (.slice (some ⟨gi,0,none⟩) Ld cd,l)) (hL:l.length=Ld) (hi:l[i]?=some X) :
  w.cell? ⟨gv,d,none⟩=some (.slice (some ⟨gi,0,none⟩) Ld cd)∧w.frozen? ⟨gv,d,none⟩=false∧w.cell? ⟨gi,i,none⟩=some (.string X)∧w.frozen? ⟨gi,i,none⟩=false:=by
 have ht:=h.plat.top
 rw[hN] at ht
 have hr:=h.plat.row d _ hd
 simp only at hr
 rw[hL] at hr
 have hdl:d<ND:=by rw[←hN];exact(List.getElem?_eq_some_iff.1 hd).1
 have hil:i<Ld:=by rw[←hL];exact(List.getElem?_eq_some_iff.1 hi).1
 exact⟨by rw[ht.cellAt d (by omega),List.getElem?_map,hd];rfl,ht.frozenAt d,by rw[hr.cellAt i (by omega),List.getElem?_map,hi];rfl,hr.frozenAt i⟩
theorem CpT.drive{gv ND cw d:Nat} {x:Value×List ByteArray} (h:CpT WM gX w (.slice (some ⟨gv,0,none⟩) ND cw) vo va rs on acks) (hN:rs.length=ND) (hd:rs[d]?=some x):w.cell? ⟨gv,d,none⟩=some x.1∧w.frozen? ⟨gv,d,none⟩=false:=by
 have ht:=h.plat.top
 rw[hN] at ht
 have hdl:d<ND:=by rw[←hN];exact(List.getElem?_eq_some_iff.1 hd).1
 exact⟨by rw[ht.cellAt d (by omega),List.getElem?_map,hd];rfl,ht.frozenAt d⟩
theorem CpT.after(h:CpT WM gX w vp vo va rs on acks) {t:Nat} {x0:Value×List ByteArray} (ht:rs[t]?=some x0) (hg:w.grownBy w' x0.1.ownBlock) (ho:w'.ownsRow WM.heap.size 9 1 x0.1 x0.2.length (x0.2.map Value.string)):CpT WM gX w' vp vo va rs on acks:=by
 have hh:HotBy [x0.1.ownBlock] w w':=HotBy.grown hg (.inl (by simp))
 obtain⟨h3,h4,-,h6,h7⟩:=h.only hh 9 (own_ho (h.plat.row t x0 ht))
 refine⟨h3,h4 (by decide),⟨own_hot h.plat.top hh (fun b hb e=>by simp at e;exact h.plat.top_row ht hb e.symm),fun i x hx=>?_,h.plat.apart,h.plat.size⟩,h6 (by decide),h7 (by decide),h.gX1⟩
 by_cases e:t=i
 ·subst e
  rw[ht] at hx
  injection hx with hx
  subst hx
  exact ho
 ·exact own_hot (h.plat.row i x hx) hh (fun b hb e2=>by simp at e2;exact h.plat.apart i t x x0 b (fun e3=>e e3.symm) hx ht hb e2.symm)
theorem own_block{B:Nat} {e:TypeId} {s n:Nat} {v:Value} {xs:List Value} (h:w.ownsRow B e s v n xs) (hn:0<n):∃g c,v=.slice (some ⟨g,0,none⟩) n c:=by
 rcases h.2 with ⟨_,e2⟩ | ⟨g,cap,cur,e2,_⟩
 ·omega
 ·exact⟨g,cap,e2⟩
end
theorem flat4_ver{l:List Ac} {j:Nat} {a:Ac} (h:l[j]?=some a):(l.flatMap acC)[j * 4+2]?=some (.int .i64 a.ver):=by
 induction l generalizing j with
 | nil=>simp at h
 | cons x xs ih =>
  rw[List.flatMap_cons]
  cases j with
  | zero =>
   simp at h;subst h
   rfl
  | succ j =>
   rw[List.getElem?_append_right (by show 4≤_;omega)]
   have:=ih (by simpa using h)
   rw[show(j+1) * 4+2 - (acC x).length=j * 4+2 by show _ - 4=_;omega]
   exact this
theorem CpT.ack{WM:World} {gX:Nat} {w:World} {vp vo:Value} {rs:List (Value×List ByteArray)} {on:List Bool} {acks:List Ac} {ga NA ca j:Nat} {a:Ac} (h:CpT WM gX w vp vo (.slice (some ⟨ga,0,none⟩) NA ca) rs on acks) (hN:acks.length=NA) (hj:acks[j]?=some a) :
  w.cell? ⟨ga,j * 4+2,none⟩=some (.int .i64 a.ver)∧w.frozen? ⟨ga,j * 4+2,none⟩=false:=by
 have ht:=h.aks
 rw[hN] at ht
 have hjl:j<NA:=by rw[←hN];exact(List.getElem?_eq_some_iff.1 hj).1
 exact⟨by rw[ht.cellAt (j * 4+2) (by omega),flat4_ver hj],ht.frozenAt _⟩
theorem CpT.up{WM:World} {gX:Nat} {w:World} {vp va:Value} {rs:List (Value×List ByteArray)} {on:List Bool} {acks:List Ac} {go NO co j:Nat} {b:Bool} (h:CpT WM gX w vp (.slice (some ⟨go,0,none⟩) NO co) va rs on acks) (hN:on.length=NO) (hj:on[j]?=some b) :
  w.cell? ⟨go,j,none⟩=some (.bool b)∧w.frozen? ⟨go,j,none⟩=false:=by
 have ht:=h.ons
 rw[hN] at ht
 have hjl:j<NO:=by rw[←hN];exact(List.getElem?_eq_some_iff.1 hj).1
 exact⟨by rw[ht.cellAt j (by omega),List.getElem?_map,hj];rfl,ht.frozenAt _⟩
def heldP(P:List (List ByteArray)) (s:ByteArray):Prop:=∃(j:Nat) (l:List ByteArray) (k:Nat),P[j]?=some l∧l[k]?=some s
theorem heldP_mem{P:List (List ByteArray)} {s:ByteArray}:heldP P s↔∃l∈P,s∈l:=by
 constructor
 ·rintro ⟨j,l,k,h1,h2⟩
  exact⟨l,List.mem_of_getElem? h1,List.mem_of_getElem? h2⟩
 ·rintro ⟨l,h1,h2⟩
  obtain⟨j,hj⟩:=List.getElem?_of_mem h1
  obtain⟨k,hk⟩:=List.getElem?_of_mem h2
  exact⟨j,l,k,hj,hk⟩
theorem held_add{P:List (List ByteArray)} {d t i:Nat} {ld lt:List ByteArray} {x:ByteArray} (hd:P[d]?=some ld) (ht:P[t]?=some lt) (hx:ld[i]?=some x) (s:ByteArray):heldP (P.set t (lt++[x])) s↔heldP P s:=by
 constructor
 ·rintro ⟨j,l,k,h1,h2⟩
  rcases getSome_set h1 with ⟨rfl,rfl⟩ | ⟨_,h3⟩
  ·rcases Nat.lt_or_ge k lt.length with h4 | h4
   ·rw[List.getElem?_append_left h4] at h2
    exact⟨t,lt,k,ht,h2⟩
   ·rw[List.getElem?_append_right h4] at h2
    have e:s=x:=by
     have:=List.mem_of_getElem? h2
     simpa using this
    rw[e];exact⟨d,ld,i,hd,hx⟩
  ·exact⟨j,l,k,h3,h2⟩
 ·rintro ⟨j,l,k,h1,h2⟩
  by_cases e:t=j
  ·subst e
   rw[ht] at h1
   injection h1 with h1
   subst h1
   exact⟨t,lt++[x],k,List.getElem?_set_self (List.getElem?_eq_some_iff.1 ht).1,by rw[List.getElem?_append_left (List.getElem?_eq_some_iff.1 h2).1];exact h2⟩
  ·exact⟨j,l,k,by rw[List.getElem?_set_ne e];exact h1,h2⟩
theorem held_move{P:List (List ByteArray)} {d t i:Nat} {ld lt l1:List ByteArray} {x z:ByteArray} (hd:P[d]?=some ld) (ht:P[t]?=some lt) (hx:ld[i]?=some x) (h1:(P.set t (lt++[x]))[d]?=some l1) (s:ByteArray) (hs:s≠z):heldP ((P.set t (lt++[x])).set d (l1.set i z)) s↔heldP P s:=by
 rw[←held_add hd ht hx s]
 have hat:(P.set t (lt++[x]))[t]?=some (lt++[x]):=List.getElem?_set_self (List.getElem?_eq_some_iff.1 ht).1
 have hil:=(List.getElem?_eq_some_iff.1 hx).1
 have hl1:l1[i]?=some x:=by
  by_cases e:t=d
  ·subst e
   rw[hat] at h1
   injection h1 with h1
   rw[hd] at ht
   injection ht with ht
   subst ht
   rw[←h1,List.getElem?_append_left hil];exact hx
  ·rw[List.getElem?_set_ne e,hd] at h1
   injection h1 with h1
   rw[←h1];exact hx
 -- what is not at the changed place is still there
 have keep:∀(j:Nat) (l:List ByteArray) (k:Nat),(P.set t (lt++[x]))[j]?=some l→l[k]?=some s→¬(j=d∧k=i)→heldP ((P.set t (lt++[x])).set d (l1.set i z)) s:=by
  intro j l k h2 h3 hn
  by_cases e:d=j
  ·subst e
   rw[h1] at h2
   injection h2 with h2
   subst h2
   exact⟨d,l1.set i z,k,List.getElem?_set_self (List.getElem?_eq_some_iff.1 h1).1,by rw[List.getElem?_set_ne (fun e=>hn ⟨rfl,e.symm⟩)];exact h3⟩
  ·exact⟨j,l,k,by rw[List.getElem?_set_ne e];exact h2,h3⟩
 constructor
 ·rintro ⟨j,l,k,h2,h3⟩
  rcases getSome_set h2 with ⟨rfl,rfl⟩ | ⟨_,h4⟩
  ·rcases getSome_set h3 with ⟨_,rfl⟩ | ⟨_,h5⟩
   ·exact absurd rfl hs
   ·exact⟨d,l1,k,h1,h5⟩
  ·exact⟨j,l,k,h4,h3⟩
 ·rintro ⟨j,l,k,h2,h3⟩
  by_cases e:j=d∧k=i
  ·obtain⟨rfl,rfl⟩:=e
   rw[h1] at h2
   injection h2 with h2
   subst h2
   rw[hl1] at h3
   injection h3 with h3
   subst h3
   refine keep t (lt++[x]) lt.length hat (by rw[List.getElem?_append_right (Nat.le_refl _),Nat.sub_self];rfl) ?_
   rintro ⟨e1,e2⟩
   subst e1
   rw[hd] at ht
   injection ht with ht
   subst ht
   omega
  ·exact keep j l k h2 h3 e
def SameHeld(r x:Re):Prop:=x.acks=r.acks∧∀s:ByteArray,s.data.toList≠blankB→(heldP x.plat s↔heldP r.plat s)
theorem SameHeld.refl(r:Re):SameHeld r r:=⟨rfl,fun _ _=>Iff.rfl⟩
theorem SameHeld.trans{a b c:Re} (h:SameHeld a b) (k:SameHeld b c):SameHeld a c:=⟨k.1.trans h.1,fun s hs=>(k.2 s hs).trans (h.2 s hs)⟩
theorem SameHeld.symm{a b:Re} (h:SameHeld a b):SameHeld b a:=⟨h.1.symm,fun s hs=>(h.2 s hs).symm⟩
theorem good_blank(acks:List Ac) (s:ByteArray) (h:s.data.toList=blankB):goodP acks s=none:=by
 unfold goodP
 rw[if_neg]
 rintro ⟨h1,-⟩
 rw[decEr_blank (by rw[h];simp[blankB]) h] at h1
 exact absurd h1 (by decide)
theorem pieces_held(r:Re) (p:Pc):(∃f∈pieces r,f.p=p)↔∃s,heldP r.plat s∧goodP r.acks s=some p:=by
 unfold pieces piecesTo
 constructor
 ·rintro ⟨f,hf,rfl⟩
  rw[List.mem_flatMap] at hf
  obtain⟨d,hd,hf⟩:=hf
  unfold drvP at hf
  rw[List.mem_filterMap] at hf
  obtain⟨s,hs,e⟩:=hf
  rw[Option.map_eq_some_iff] at e
  obtain⟨p,hp,rfl⟩:=e
  have hdl:d<r.plat.length:=by simpa using hd
  refine⟨s,heldP_mem.2 ⟨r.plat[d],List.getElem_mem hdl,?_⟩,hp⟩
  rw[List.getD_eq_getElem?_getD,List.getElem?_eq_getElem hdl] at hs
  exact hs
 ·rintro ⟨s,⟨j,l,k,h1,h2⟩,hp⟩
  refine⟨⟨j,p⟩,?_,rfl⟩
  rw[List.mem_flatMap]
  refine⟨j,by simpa using (List.getElem?_eq_some_iff.1 h1).1,?_⟩
  unfold drvP
  rw[List.mem_filterMap]
  refine⟨s,?_,by rw[hp];rfl⟩
  rw[List.getD_eq_getElem?_getD,h1]
  exact List.mem_of_getElem? h2
theorem SameHeld.piece{r x:Re} (h:SameHeld r x) (p:Pc):(∃f∈pieces x,f.p=p)↔∃f∈pieces r,f.p=p:=by
 rw[pieces_held,pieces_held,h.1]
 constructor
 ·rintro ⟨s,h1,h2⟩
  refine⟨s,(h.2 s (fun e=>?_)).1 h1,h2⟩
  rw[good_blank _ _ e] at h2
  cases h2
 ·rintro ⟨s,h1,h2⟩
  refine⟨s,(h.2 s (fun e=>?_)).2 h1,h2⟩
  rw[good_blank _ _ e] at h2
  cases h2
theorem src_any(r:Re) (v f s:Int):0≤srcI r (pieces r) v f s false↔∃p:Pc,isB p v f s=true∧∃g∈pieces r,g.p=p:=by
 rw[srcI_has,List.any_eq_true]
 constructor
 ·rintro ⟨g,hg,e⟩
  unfold srcB at e
  rw[Bool.and_eq_true] at e
  exact⟨g.p,e.1,g,hg,rfl⟩
 ·rintro ⟨p,hp,g,hg,rfl⟩
  refine⟨g,hg,?_⟩
  unfold srcB
  rw[hp];rfl
theorem SameHeld.int{r x:Re} (h:SameHeld r x) (v s:Int):intI x v s false=intI r v s false:=by
 unfold intI intTo
 congr 1
 funext i
 have e:(0≤srcI x (pieces x) v (i:Int) s false)↔(0≤srcI r (pieces r) v (i:Int) s false):=by
  rw[src_any,src_any]
  constructor
  ·rintro ⟨p,h1,h2⟩;exact⟨p,h1,(h.piece p).1 h2⟩
  ·rintro ⟨p,h1,h2⟩;exact⟨p,h1,(h.piece p).2 h2⟩
 by_cases hc:0≤srcI r (pieces r) v (i:Int) s false
 ·rw[if_pos hc,if_pos (e.2 hc)]
 ·rw[if_neg hc,if_neg (fun h2=>hc (e.1 h2))]
theorem SameHeld.cnt{r x:Re} (h:SameHeld r x) (v s:Nat) (n:Int):cntI x v s false n=cntI r v s false n:=by
 unfold cntI
 rw[h.int]
theorem SameHeld.harm{F:FltM} {r x:Re} (h:SameHeld r x) (ext NV:Nat):harmB F r x ext NV=true:=harm_true fun v s _ _=>by
 cases hv:verOf r.acks (v:Int) (s:Int) with
 | none=>exact harm_none hv
 | some y =>
  rw[harm_old hv (by rw[h.1];exact hv),List.all_eq_true]
  intro i hi
  exact decide_eq_true (by rw[h.int];exact hi)
theorem SameHeld.lost{F:FltM} {r x:Re} (h:SameHeld r x) (ext v s:Nat):keyL F x (condR true) ext v s=keyL F r (condR true) ext v s:=by
 unfold keyL
 congr 1
 funext y
 unfold keyP
 rw[h.1,h.cnt]
 unfold condR
 rfl
theorem SameHeld.move{r:Re} {P:List (List ByteArray)} {on:List Bool} {d t i:Nat} {ld lt l1:List ByteArray} {x z:ByteArray} (h:SameHeld r ⟨P,on,r.acks⟩) (hd:P[d]?=some ld) (ht:P[t]?=some lt) (hx:ld[i]?=some x) (h1:(P.set t (lt++[x]))[d]?=some l1) (hz:z.data.toList=blankB) :
  SameHeld r ⟨(P.set t (lt++[x])).set d (l1.set i z),on,r.acks⟩ :=
 ⟨rfl,fun s hs=>(held_move hd ht hx h1 s (fun e=>hs (by rw[e];exact hz))).trans (h.2 s hs)⟩
theorem SameHeld.copy{r:Re} {P:List (List ByteArray)} {on:List Bool} {d t i:Nat} {ld lt:List ByteArray} {x:ByteArray} (h:SameHeld r ⟨P,on,r.acks⟩) (hd:P[d]?=some ld) (ht:P[t]?=some lt) (hx:ld[i]?=some x) :
  SameHeld r ⟨P.set t (lt++[x]),on,r.acks⟩ :=
 ⟨rfl,fun s hs=>(held_add hd ht hx s).trans (h.2 s hs)⟩

def awP:Pc:=⟨1,2,0,9,5,[48,49,50,51,52,53,54,55,56,57,97,98,99,100,101,102]⟩
def awR(s:ByteArray):Re:=⟨[[],[s]],[false,false],[⟨1,0,5,0⟩]⟩
theorem aw_valid:validP awP=true:=by decide
theorem aw_len:(encB awP).length=36:=by kernel_rfl
theorem aw_good1:goodI (awR ⟨(encB awP).toArray⟩) 1 2 0=[1]:=by kernel_rfl
theorem aw_good2:goodI (awR ⟨(encB awP).toArray⟩) 1 1 0=[]:=by kernel_rfl
theorem aw_int1:intI (awR ⟨(encB awP).toArray⟩) 1 0 false=[2]:=by kernel_rfl
theorem aw_int2:intI (awR ⟨(encB awP).toArray⟩) 1 0 true=[]:=by kernel_rfl
theorem aw_one{α:Type} {x y:α} {k:Nat} (h:[x][k]?=some y):k=0∧y=x:=by
 match k with
 | 0=>simp at h;exact⟨rfl,h.symm⟩
 | k+1=>simp at h
theorem aw_two{α:Type} {x1 x2 y:α} {k:Nat} (h:[x1,x2][k]?=some y):(k=0∧y=x1)∨(k=1∧y=x2):=by
 match k with
 | 0=>simp at h;exact .inl ⟨rfl,h.symm⟩
 | 1=>simp at h;exact .inr ⟨rfl,h.symm⟩
 | k+2=>simp at h
theorem aw_four{α:Type} {x1 x2 x3 x4 y:α} {k:Nat} (h:[x1,x2,x3,x4][k]?=some y):(k=0∧y=x1)∨(k=1∧y=x2)∨(k=2∧y=x3)∨(k=3∧y=x4):=by
 match k with
 | 0=>simp at h;exact .inl ⟨rfl,h.symm⟩
 | 1=>simp at h;exact .inr (.inl ⟨rfl,h.symm⟩)
 | 2=>simp at h;exact .inr (.inr (.inl ⟨rfl,h.symm⟩))
 | 3=>simp at h;exact .inr (.inr (.inr ⟨rfl,h.symm⟩))
 | k+4=>simp at h
theorem aw_re(W:World) (s:ByteArray) (n1 n2 n3 n4:Nat) (hs:s.size=36) (h1:W.cell? ⟨n1,0,none⟩=some (.string s)) (h20:W.cell? ⟨n2,0,none⟩=some (.slice none 0 0)) (h21:W.cell? ⟨n2,1,none⟩=some (.slice (some ⟨n1,0,none⟩) 1 1))
  (h30:W.cell? ⟨n3,0,none⟩=some (.bool false)) (h31:W.cell? ⟨n3,1,none⟩=some (.bool false)) (h40:W.cell? ⟨n4,0,none⟩=some (.int .i64 1)) (h41:W.cell? ⟨n4,1,none⟩=some (.int .i64 0)) (h42:W.cell? ⟨n4,2,none⟩=some (.int .i64 5)) (h43:W.cell? ⟨n4,3,none⟩=some (.int .i64 0)) :
  ReS W (Bl W.heap.size) (.slice (some ⟨n2,0,none⟩) 2 2) (.slice (some ⟨n3,0,none⟩) 2 2) (.slice (some ⟨n4,0,none⟩) 1 1) (awR s):=by
 refine⟨⟨_,2,rfl,Nat.le_refl _,by unfold maxLen;simp[awR],fun _=>⟨n2,0,rfl,block_lt_of_cell h20,fun k a hk=>?_⟩⟩,⟨_,2,rfl,Nat.le_refl _,by unfold maxLen;simp[awR],fun _=>⟨n3,0,rfl,block_lt_of_cell h30,fun k a hk=>?_⟩⟩,⟨_,1,rfl,Nat.le_refl _,by unfold maxLen;simp[awR],fun _=>⟨n4,0,rfl,block_lt_of_cell h40,fun k a hk=>?_⟩⟩⟩
 ·rcases aw_two hk with ⟨rfl,rfl⟩ | ⟨rfl,rfl⟩
  ·exact⟨[_],rfl,fun i c hc=>by obtain⟨rfl,rfl⟩:=aw_one hc;exact h20,_,rfl,Row.nil _ _ _⟩
  ·refine⟨[_],rfl,fun i c hc=>by obtain⟨rfl,rfl⟩:=aw_one hc;exact h21,_,rfl,_,1,rfl,Nat.le_refl _,by unfold maxLen;simp,fun _=>⟨n1,0,rfl,block_lt_of_cell h1,fun k a hk=>?_⟩⟩
   obtain⟨rfl,rfl⟩:=aw_one hk
   exact⟨[_],rfl,fun i c hc=>by obtain⟨rfl,rfl⟩:=aw_one hc;exact h1,rfl,by rw[hs];unfold maxLen;decide⟩
 ·rcases aw_two hk with ⟨rfl,rfl⟩ | ⟨rfl,rfl⟩
  ·exact⟨[_],rfl,fun i c hc=>by obtain⟨rfl,rfl⟩:=aw_one hc;exact h30,rfl⟩
  ·exact⟨[_],rfl,fun i c hc=>by obtain⟨rfl,rfl⟩:=aw_one hc;exact h31,rfl⟩
 ·obtain⟨rfl,rfl⟩:=aw_one hk
  refine⟨[_,_,_,_],rfl,fun i c hc=>?_,rfl,by unfold I64;decide,by unfold I64;decide,by unfold I64;decide,by unfold I64;decide⟩
  rcases aw_four hc with ⟨rfl,rfl⟩ | ⟨rfl,rfl⟩ | ⟨rfl,rfl⟩ | ⟨rfl,rfl⟩
  ·exact h40
  ·exact h41
  ·exact h42
  ·exact h43
theorem aw_new(w:World) (cs:Array Value) (t:TypeId) (b i:Nat) (h:b=w.heap.size):(w.alloc (.cells cs t)).cell? ⟨b,i,none⟩=cs[i]?:=by
 subst h
 exact cell_of_row _ _ _ _ _ _ (heap_alloc_new w (.cells cs t))
theorem aw_old(w:World) (o:Obj) (b i:Nat) (h:b<w.heap.size):(w.alloc o).cell? ⟨b,i,none⟩=w.cell? ⟨b,i,none⟩:=World.cell?_of_block (w:=w) (Below.heap_alloc w o b h)
theorem aw_lit{w:World} {g:Nat} {x:Int} (h:w.cell? ⟨g,0,none⟩=some (.int .i64 x)) (hx:I64 x):IntS w (Bl w.heap.size) (.slice (some ⟨g,0,none⟩) 1 1) [x] :=
 ⟨⟨_,1,rfl,Nat.le_refl _,by unfold maxLen;simp,fun _=>⟨g,0,rfl,block_lt_of_cell h,fun k a hk=>by obtain⟨rfl,rfl⟩:=aw_one hk;exact h⟩⟩,fun y hy=>by rw[List.mem_singleton.1 hy];exact hx⟩
theorem awake_any(w:World):Calls Tryz.prog 10 #[] w fun e w'=>e=.returned (.bool true)∧Below w.heap.size w w':=by
 have henc:=fun w=>refsenc_any awP w (by unfold PcI I64 maxLen;decide) (by decide)
 rw[show encS awP=encB awP by unfold encS;rw[if_pos aw_valid],show encE awP=0 by unfold encE;rw[if_pos aw_valid]] at henc
 have hsz:(⟨(encB awP).toArray⟩:ByteArray).size=36:=by rw[size_of];exact aw_len
 have hg1:=aw_good1
 have hg2:=aw_good2
 have hi1:=aw_int1
 have hi2:=aw_int2
 obtain⟨X,hX⟩:∃X:ByteArray,X=⟨(encB awP).toArray⟩:=⟨_,rfl⟩
 rw[←hX] at henc hsz hg1 hg2 hi1 hi2
 have HEN:=zh henc
 have HSZ:=zh hsz
 have HG1:=zh hg1
 have HG2:=zh hg2
 have HI1:=zh hi1
 have HI2:=zh hi2
 clear henc hsz hg1 hg2 hi1 hi2 hX
 go_enter Tryz.func10,Tryz.ntmps10
 go_wp2_with fail
 refine(HEN.out _).mono ?_
 rintro e w1 ⟨rfl,hb1⟩
 go_wp2_with fail
 obtain⟨n,hn⟩:=zx w1.heap.size
 rw[←hn]
 obtain⟨W,hW⟩:=zx ((((((w1.alloc (.cells #[.string X] 9)).alloc (.cells #[.slice none 0 0,.slice (some ⟨n,0,none⟩) 1 1] 50)).alloc (.cells #[.bool false,.bool false] 4)).alloc (.cells #[.int .i64 1,.int .i64 0,.int .i64 5,.int .i64 0] 53)).alloc (.cells #[.slice (some ⟨n+1,0,none⟩) 2 2,.slice (some ⟨n+1+1,0,none⟩) 2 2,.slice (some ⟨n+1+1+1,0,none⟩) 1 1] 27)))
 rw[←hW]
 have hre:=aw_re W X n (n+1) (n+1+1) (n+1+1+1) HSZ.out (by rw[hW,hn];rw[aw_old _ _ _ _ (by first | (simp;done) | (simp;omega)),aw_old _ _ _ _ (by first | (simp;done) | (simp;omega)),aw_old _ _ _ _ (by first | (simp;done) | (simp;omega)),aw_old _ _ _ _ (by first | (simp;done) | (simp;omega)),aw_new _ _ _ _ _ (by simp)];rfl) (by rw[hW,hn];rw[aw_old _ _ _ _ (by first | (simp;done) | (simp;omega)),aw_old _ _ _ _ (by first | (simp;done) | (simp;omega)),aw_old _ _ _ _ (by first | (simp;done) | (simp;omega)),aw_new _ _ _ _ _ (by simp)];rfl) (by rw[hW,hn];rw[aw_old _ _ _ _ (by first | (simp;done) | (simp;omega)),aw_old _ _ _ _ (by first | (simp;done) | (simp;omega)),aw_old _ _ _ _ (by first | (simp;done) | (simp;omega)),aw_new _ _ _ _ _ (by simp)];rfl) (by rw[hW,hn];rw[aw_old _ _ _ _ (by first | (simp;done) | (simp;omega)),aw_old _ _ _ _ (by first | (simp;done) | (simp;omega)),aw_new _ _ _ _ _ (by simp)];rfl) (by rw[hW,hn];rw[aw_old _ _ _ _ (by first | (simp;done) | (simp;omega)),aw_old _ _ _ _ (by first | (simp;done) | (simp;omega)),aw_new _ _ _ _ _ (by simp)];rfl) (by rw[hW,hn];rw[aw_old _ _ _ _ (by first | (simp;done) | (simp;omega)),aw_new _ _ _ _ _ (by simp)];rfl) (by rw[hW,hn];rw[aw_old _ _ _ _ (by first | (simp;done) | (simp;omega)),aw_new _ _ _ _ _ (by simp)];rfl) (by rw[hW,hn];rw[aw_old _ _ _ _ (by first | (simp;done) | (simp;omega)),aw_new _ _ _ _ _ (by simp)];rfl) (by rw[hW,hn];rw[aw_old _ _ _ _ (by first | (simp;done) | (simp;omega)),aw_new _ _ _ _ _ (by simp)];rfl)
 have hbW:Below w1.heap.size w1 W:=by rw[hW];exact(((((Below.refl _ _).alloc (Nat.le_refl _) _).alloc (by simp) _).alloc (by simp;omega) _).alloc (by simp;omega) _).alloc (by simp;omega) _
 obtain⟨q,hq⟩:=zx (n+1+1+1+1)
 rw[←hq]
 have c0:W.cell? ⟨q,0,none⟩=some (.slice (some ⟨n+1,0,none⟩) 2 2):=by rw[hW,hq,hn];rw[aw_new _ _ _ _ _ (by simp)];rfl
 have c1:W.cell? ⟨q,1,none⟩=some (.slice (some ⟨n+1+1,0,none⟩) 2 2):=by rw[hW,hq,hn];rw[aw_new _ _ _ _ _ (by simp)];rfl
 have c2:W.cell? ⟨q,2,none⟩=some (.slice (some ⟨n+1+1+1,0,none⟩) 1 1):=by rw[hW,hq,hn];rw[aw_new _ _ _ _ _ (by simp)];rfl
 obtain⟨v1,hv1⟩:=zx (Value.slice (some ⟨n+1,0,none⟩) 2 2)
 obtain⟨v2,hv2⟩:=zx (Value.slice (some ⟨n+1+1,0,none⟩) 2 2)
 obtain⟨v3,hv3⟩:=zx (Value.slice (some ⟨n+1+1+1,0,none⟩) 1 1)
 have hs1:=block_lt_of_cell c0
 have HH:=zh (show HeldR W q _ _ _ W from⟨c0,c1,c2,Below.refl _ _⟩)
 rw[←hv1,←hv2,←hv3] at hre HH ⊢
 rw[←hv1] at c0
 rw[←hv2] at c1
 rw[←hv3] at c2
 have HRE:=zh hre
 have HB:=zh (hb1.trans (hbW.mono hb1.size))
 have HQ:=zh hs1
 clear hW hbW hb1 hn hq hv1 hv2 hv3 hre hs1
 refine(good_any v1 v2 v3 (awR X) 1 2 0 W HRE.out (by simp[awR]) (by simp[awR]) (by simp[awR]) (by unfold I64;decide) (by unfold I64;decide)).mono ?_
 rintro e w2 ⟨u,rfl,hO,hb2⟩
 have HH2:=zh (HH.out.below hb2 HQ.out)
 rw[HG1.out] at hO
 have hx2:=hO.intS (by simp[I64])
 obtain⟨A2,c2',rfl⟩:=hO.form
 have HX2:=zh hx2
 clear hO hx2 hb2 c0 c1 c2
 obtain⟨W2,hW2⟩:=zx (w2.alloc (.cells #[.int .i64 1] 3))
 have hl2:=aw_lit (w:=W2) (g:=w2.heap.size) (x:=1) (by rw[hW2];simp) (by unfold I64;decide)
 have hk2:Below w2.heap.size w2 W2:=by rw[hW2];exact(Below.refl _ _).alloc (Nat.le_refl _) _
 have hx2':=HX2.out.keep (w':=W2) (fun b hb=>hk2.block b hb.2)
 have HSI:=zh (sameints_any _ _ _ _ _ W2 hx2' hl2)
 have HH3:=zh (HH2.out.below hk2 HQ.out)
 clear hl2 hk2 hx2'
 go_wp2_with fail
 rw[←hW2]
 clear hW2
 refine HSI.out.mono ?_
 rintro e w3 ⟨rfl,k,rfl⟩
 have HH4:=zh (HH3.out.below (Below.drewN' (Below.refl _ _) k) HQ.out)
 obtain⟨W4,hW4⟩:=zx (W2.drewN k)
 rw[←hW4] at HH4 ⊢
 clear hW4
 obtain⟨d0,d1,d2,hb4⟩:=HH4.out
 have HRE4:=zh (HRE.out.below hb4)
 clear hb4
 go_wp2_with fail
 refine(Intact_any v1 v2 v3 (awR X) 1 0 false W4 HRE4.out (by simp[awR]) (by simp[awR]) (by simp[awR]) (by unfold I64;decide) (by unfold I64;decide)).mono ?_
 rintro e w5 ⟨u,rfl,hO,hb5⟩
 have HH5:=zh (HH4.out.below hb5 HQ.out)
 rw[HI1.out] at hO
 have hx5:=hO.intS (by simp[I64])
 obtain⟨A5,c5',rfl⟩:=hO.form
 have HX5:=zh hx5
 clear hO hx5 hb5 d0 d1 d2
 obtain⟨W5,hW5⟩:=zx (w5.alloc (.cells #[.int .i64 2] 3))
 have hl2:=aw_lit (w:=W5) (g:=w5.heap.size) (x:=2) (by rw[hW5];simp) (by unfold I64;decide)
 have hk2:Below w5.heap.size w5 W5:=by rw[hW5];exact(Below.refl _ _).alloc (Nat.le_refl _) _
 have hx2':=HX5.out.keep (w':=W5) (fun b hb=>hk2.block b hb.2)
 have HSI2:=zh (sameints_any _ _ _ _ _ W5 hx2' hl2)
 have HH6:=zh (HH5.out.below hk2 HQ.out)
 clear hl2 hk2 hx2'
 go_wp2_with fail
 rw[←hW5]
 clear hW5
 refine HSI2.out.mono ?_
 rintro e w6 ⟨rfl,k6,rfl⟩
 have HH7:=zh (HH6.out.below (Below.drewN' (Below.refl _ _) k6) HQ.out)
 obtain⟨W7,hW7⟩:=zx (W5.drewN k6)
 rw[←hW7] at HH7 ⊢
 clear hW7
 obtain⟨d0,d1,d2,hb7⟩:=HH7.out
 have HRE7:=zh (HRE.out.below hb7)
 clear hb7
 go_wp2_with fail
 refine(Intact_any v1 v2 v3 (awR X) 1 0 true W7 HRE7.out (by simp[awR]) (by simp[awR]) (by simp[awR]) (by unfold I64;decide) (by unfold I64;decide)).mono ?_
 rintro e w8 ⟨u,rfl,hO,hb8⟩
 have HH8:=zh (HH7.out.below hb8 HQ.out)
 rw[HI2.out] at hO
 obtain⟨A8,c8',rfl⟩:=hO.form
 clear hO hb8 d0 d1 d2
 obtain⟨d0,d1,d2,hb8⟩:=HH8.out
 have HRE8:=zh (HRE.out.below hb8)
 clear hb8
 go_wp2_with fail
 refine(good_any v1 v2 v3 (awR X) 1 1 0 w8 HRE8.out (by simp[awR]) (by simp[awR]) (by simp[awR]) (by unfold I64;decide) (by unfold I64;decide)).mono ?_
 rintro e w9 ⟨u,rfl,hO,hb9⟩
 rw[HG2.out] at hO
 obtain⟨A9,c9',rfl⟩:=hO.form
 have HB9:=zh (HH8.out.bl.trans (hb9.mono HH8.out.bl.size))
 clear hO hb9 d0 d1 d2
 go_wp2_with fail
 go_ret
 exact⟨rfl,HB.out.trans (HB9.out.mono HB.out.size)⟩
def HeldL(W0:World) (g p q:Nat) (a b c d e f h y0 y1 y2 z0 z1 z2:Value) (w':World):Prop :=
 w'.cell? ⟨g,0,none⟩=some a∧w'.cell? ⟨g,1,none⟩=some b∧w'.cell? ⟨g,2,none⟩=some c∧w'.cell? ⟨g,3,none⟩=some d∧w'.cell? ⟨g,4,none⟩=some e∧w'.cell? ⟨g,5,none⟩=some f∧w'.cell? ⟨g,6,none⟩=some h ∧
 w'.cell? ⟨p,0,none⟩=some y0∧w'.cell? ⟨p,1,none⟩=some y1∧w'.cell? ⟨p,2,none⟩=some y2∧w'.cell? ⟨q,0,none⟩=some z0∧w'.cell? ⟨q,1,none⟩=some z1∧w'.cell? ⟨q,2,none⟩=some z2∧Below W0.heap.size W0 w'
theorem HeldL.bl{W0 wc:World} {g p q:Nat} {a b c d e f h y0 y1 y2 z0 z1 z2:Value} (k:HeldL W0 g p q a b c d e f h y0 y1 y2 z0 z1 z2 wc):Below W0.heap.size W0 wc:=k.2.2.2.2.2.2.2.2.2.2.2.2.2
theorem HeldL.below{W0 wc w2:World} {g p q:Nat} {a b c d e f h y0 y1 y2 z0 z1 z2:Value} (k:HeldL W0 g p q a b c d e f h y0 y1 y2 z0 z1 z2 wc) (hb:Below wc.heap.size wc w2) (hg:g<W0.heap.size) (hp:p<W0.heap.size) (hq:q<W0.heap.size):HeldL W0 g p q a b c d e f h y0 y1 y2 z0 z1 z2 w2:=by
 have hs:=k.bl.size
 have hB:=k.bl
 obtain⟨c0,c1,c2,c3,c4,c5,c6,d0,d1,d2,e0,e1,e2,-⟩:=k
 have m:∀b,b<W0.heap.size→∀i x,wc.cell? ⟨b,i,none⟩=some x→w2.cell? ⟨b,i,none⟩=some x:=fun b h1 i x hx=>(hb.cell (p:=⟨b,i,none⟩) (Nat.lt_of_lt_of_le h1 hs)).trans hx
 exact⟨m g hg _ _ c0,m g hg _ _ c1,m g hg _ _ c2,m g hg _ _ c3,m g hg _ _ c4,m g hg _ _ c5,m g hg _ _ c6,m p hp _ _ d0,m p hp _ _ d1,m p hp _ _ d2,m q hq _ _ e0,m q hq _ _ e1,m q hq _ _ e2,hB.trans (hb.mono hs)⟩
theorem info_re:(Tryz.prog.info? 27).map (fun i=>(i.zero,i.size,i.bytes))=some (some (.agg #[.slice none 0 0,.slice none 0 0,.slice none 0 0]),3,72):=by kernel_rfl
theorem list_copy{ops:Array Oper} {rest:List Oper} {o:Oper} {a:Act} {Q:Exit→Act→World→Prop} {w:World} (s x:Operand) (hgd:o.guard=none) (ho:o.op=.call { callee:=.builtin .append,args:=#[s,x],argTypes:=#[22,22] })
  (n:Nat) (A:Option Addr) (c:Nat) (xs:List Int) (hs:a.eval s=.slice none 0 0) (hx:a.eval x=.slice A n c) (hl:xs.length=n)
  (hc:0<n→∃b off,A=some ⟨b,off,none⟩∧∀j u,(xs.map (Value.int .i64))[j]?=some u→w.cell? ⟨b,off+j,none⟩=some u) (hn:n≤1000)
  (h:∀v' w',OwnI w' w.heap.size v' xs→Below w.heap.size w w'→wpList Tryz.prog ops Q rest (a.put o.dst v') w'):wpList Tryz.prog ops Q (o :: rest) a w:=by
 obtain⟨i0,hi0,hz0,hz1,hz2⟩:=info_parts info_int2
 obtain⟨v',w',hr,h2,h3,h4⟩:=run_copy (P:=Tryz.prog) w 22 o.type 3 i0 _ 1 8 Tryz.underlying22 hi0 hz0 hz1 hz2 rfl (by omega) n A c (xs.map (Value.int .i64)) (by rw[List.length_map];omega) hc (fun u hu=>by obtain⟨y,-,rfl⟩:=List.mem_map.1 hu;rfl) (by unfold maxLen;omega) (by omega)
 refine wpList_plain hgd fun K hK=>?_
 unfold Oper.wp execOp
 simp only[ho,resolve,invoke,builtin,Sem.run_bind,Sem.run_pure,Result.andThen_ok,List.map_toArray,List.map_cons,List.map_nil,hs,hx,hr]
 refine hK _ _ (h v' w' ?_ h3)
 unfold OwnI
 rw[hl];exact h2
theorem ints_cells{w:World} {R:Nat→Prop} {A:Option Addr} {n c:Nat} {xs:List Int} (h:IntS w R (.slice A n c) xs) (hn:0<n) :
  ∃b off,A=some ⟨b,off,none⟩∧R b∧∀j u,(xs.map (Value.int .i64))[j]?=some u→w.cell? ⟨b,off+j,none⟩=some u:=by
 obtain⟨⟨A',c',e,h1,h2,h3⟩,h4⟩:=h
 injection e with e1 e2 e3
 subst e1
 subst e2
 obtain⟨b,off,rfl,hR,hc⟩:=h3 hn
 refine⟨b,off,rfl,hR,fun j u hu=>?_⟩
 rw[List.getElem?_map] at hu
 cases hx:xs[j]? with
 | none=>rw[hx] at hu;cases hu
 | some x =>
  rw[hx] at hu
  injection hu with hu
  rw[←hu];exact hc j x hx
structure Stt where
 p:Value
 o:Value
 a:Value
 x:Re
def sttC(s:Stt):List Value:=[s.p,s.o,s.a]
structure StsS (w:World) (B:Nat) (v:Value) (L:List Stt):Prop where
 row:w.ownsRow B 27 3 v L.length (L.flatMap sttC)
 each:∀s∈L,ReS w (fun b=>b<w.heap.size∧v.ownBlock≠some b) s.p s.o s.a s.x
 one:∀s∈L,s.p.oneCell'=true∧s.o.oneCell'=true∧s.a.oneCell'=true
theorem StsS.below{w w':World} {B:Nat} {v:Value} {L:List Stt} (h:StsS w B v L) (hb:Below w.heap.size w w'):StsS w' B v L :=
 ⟨own_below h.row hb,fun s hs=>((h.each s hs).keep (fun b hx=>hb.block b hx.1)).mono (fun b hx=>⟨Nat.lt_of_lt_of_le hx.1 hb.size,hx.2⟩),h.one⟩
theorem StsS.push{w w':World} {B:Nat} {v v':Value} {L:List Stt} {s:Stt} (h:StsS w B v L) (hs:ReS w (fun b=>b<w.heap.size∧v.ownBlock≠some b) s.p s.o s.a s.x) (h1:s.p.oneCell'=true∧s.o.oneCell'=true∧s.a.oneCell'=true)
  (ho:w'.ownsRow B 27 3 v' (L.length+1) (L.flatMap sttC++sttC s)) (hg:w.grownBy w' v.ownBlock) (hat:v'.ownBlock=v.ownBlock∨∃g,v'.ownBlock=some g∧w.heap.size≤g):StsS w' B v' (L++[s]):=by
 have hk:∀{u:Stt},ReS w (fun b=>b<w.heap.size∧v.ownBlock≠some b) u.p u.o u.a u.x→ReS w' (fun b=>b<w'.heap.size∧v'.ownBlock≠some b) u.p u.o u.a u.x:=fun hu =>
  (hu.keep (fun b hx=>hg.block b hx.1 (fun e=>hx.2 e.symm))).mono (fun b hx=>⟨Nat.lt_of_lt_of_le hx.1 hg.size,fun e=>by
   rcases hat with h2 | ⟨g,h2,h3⟩
   ·rw[h2] at e;exact hx.2 e
   ·rw[h2] at e;injection e with e;have:=hx.1;omega⟩)
 refine⟨by rw[List.length_append,List.flatMap_append];simpa using ho,fun u hu=>?_,fun u hu=>?_⟩
 ·rcases List.mem_append.1 hu with h2 | h2
  ·exact hk (h.each u h2)
  ·rw[List.mem_singleton.1 h2];exact hk hs
 ·rcases List.mem_append.1 hu with h2 | h2
  ·exact h.one u h2
  ·rw[List.mem_singleton.1 h2];exact h1
theorem flat3_at{L:List Stt} {j:Nat} {s:Stt} (h:L[j]?=some s):(L.flatMap sttC)[j * 3]?=some s.p∧(L.flatMap sttC)[j * 3+1]?=some s.o∧(L.flatMap sttC)[j * 3+2]?=some s.a:=by
 induction L generalizing j with
 | nil=>simp at h
 | cons x xs ih =>
  rw[List.flatMap_cons]
  cases j with
  | zero =>
   simp at h;subst h
   exact⟨rfl,rfl,rfl⟩
  | succ j =>
   obtain⟨h1,h2,h3⟩:=ih (by simpa using h)
   refine⟨?_,?_,?_⟩
   ·rw[List.getElem?_append_right (by show 3≤_;omega),show(j+1) * 3 - (sttC x).length=j * 3 by show _ - 3=_;omega];exact h1
   ·rw[List.getElem?_append_right (by show 3≤_;omega),show(j+1) * 3+1 - (sttC x).length=j * 3+1 by show _ - 3=_;omega];exact h2
   ·rw[List.getElem?_append_right (by show 3≤_;omega),show(j+1) * 3+2 - (sttC x).length=j * 3+2 by show _ - 3=_;omega];exact h3
theorem StsS.cells{w:World} {B g n c j:Nat} {L:List Stt} {s:Stt} (h:StsS w B (.slice (some ⟨g,0,none⟩) n c) L) (hn:L.length=n) (hj:L[j]?=some s) :
  w.cell? ⟨g,j * 3,none⟩=some s.p∧w.cell? ⟨g,j * 3+1,none⟩=some s.o∧w.cell? ⟨g,j * 3+2,none⟩=some s.a:=by
 have hr:=h.row
 rw[hn] at hr
 have hjl:j<n:=by rw[←hn];exact(List.getElem?_eq_some_iff.1 hj).1
 obtain⟨h1,h2,h3⟩:=flat3_at hj
 exact⟨by rw[hr.cellAt (j * 3) (by omega)];exact h1,by rw[hr.cellAt (j * 3+1) (by omega)];exact h2,by rw[hr.cellAt (j * 3+2) (by omega)];exact h3⟩
theorem app_st{ops:Array Oper} {rest:List Oper} {o:Oper} {a:Act} {Q:Exit→Act→World→Prop} {w:World} (u:Stt) (s x:Operand) (hgd:o.guard=none) (ho:o.op=.call { callee:=.builtin .append,args:=#[s,x],argTypes:=#[76,76] })
  (base:Nat) (v:Value) (L:List Stt) (hs:a.eval s=v) (hown:StsS w base v L) (g:Nat) (hx:a.eval x=.slice (some ⟨g,0,none⟩) 1 1) (hc:w.heap[g]?=some (.cells #[u.p,u.o,u.a] 27 (0,0))) (h1:u.p.oneCell'=true∧u.o.oneCell'=true∧u.a.oneCell'=true) (hu:ReS w (fun b=>b<w.heap.size∧v.ownBlock≠some b) u.p u.o u.a u.x)
  (hn:L.length+1≤1000) (hbase:base≤w.heap.size)
  (h:∀v' w',StsS w' base v' (L++[u])→w.grownBy w' v.ownBlock→wpList Tryz.prog ops Q rest (a.put o.dst v') w'):wpList Tryz.prog ops Q (o :: rest) a w:=by
 obtain⟨i0,hi0,hz0,hz1,hz2⟩:=info_parts info_re
 refine wpList_append_own_at (P:=Tryz.prog) _ hgd s x _ ho base _ i0 _ 3 72 Tryz.underlying76 hi0 hz0 hz1 hz2 rfl (by omega) v L.length (L.flatMap sttC) hs hown.row ⟨g,0,none⟩ 1 1 (sttC u) hx (by rfl) (World.news_of_block (cs:=#[u.p,u.o,u.a]) hc) (fun y hy=>by
  simp[sttC] at hy
  rcases hy with rfl | rfl | rfl
  ·exact h1.1
  ·exact h1.2.1
  ·exact h1.2.2) (by unfold maxLen;omega) (by omega) hbase (fun v' w' h2 h3 _ h5=>h v' w' (hown.push hu h1 h2 h3 ?_) h3)
 rcases h5 with h5 | h5
 ·exact .inl h5
 ·exact .inr ⟨_,h5,Nat.le_refl _⟩
structure SttOk (r:Re) (ND n:Nat) (x:Re):Prop where
 same:SameHeld r x
 plat:x.plat.length=ND
 on:x.on=r.on
 len:∀l∈x.plat,l.length≤500+5 * n
end Go.Proofs.YtmehadfhcdpfcaaGreat
