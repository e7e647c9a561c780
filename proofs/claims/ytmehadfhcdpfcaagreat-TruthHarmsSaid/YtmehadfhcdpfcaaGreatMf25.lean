/- What a law reads of a reality under edits, and an append that leaves the old row readable. -/
import Derived.Test.YtmehadfhcdpfcaaGreatMf12
import Derived.Test.YtmehadfhcdpfcaaGreatMf24
import Derived.Test.YtmehadfhcdpfcaaGreatMf23
import Derived.Test.YtmehadfhcdpfcaaGreatMf01
import Derived.Test.YtmehadfhcdpfcaaGreatMf05
import Derived.Test.YtmehadfhcdpfcaaGreatMf08
set_option maxRecDepth 100000
set_option maxHeartbeats 12800000
namespace Go.Proofs.YtmehadfhcdpfcaaGreat
open Go.RowKit
set_option linter.unusedVariables false
set_option linter.unusedSimpArgs false
theorem step_app_both{ops:Array Oper} {o:Oper} {a:Act} {K:Act→World→Prop} {Q:Exit→Act→World→Prop} {E:Prop} {w:World} (x0:ByteArray) (s x:Operand) (hgd:o.guard=none) (ho:o.op=.call { callee:=.builtin .append,args:=#[s,x],argTypes:=#[50,50] })
  (base:Nat) (v:Value) (n:Nat) (xs:List Value) (hs:a.eval s=v) (hown:w.ownsRow base 9 1 v n xs) (g:Nat) (hx:a.eval x=.slice (some ⟨g,0,none⟩) 1 1) (hgw:g=w.heap.size) (hn:n+1≤16777216) (hbase:base≤w.heap.size)
  (h:∀v' w',w'.ownsRow base 9 1 v' (n+1) (xs++[.string x0])→(w.alloc (.cells #[.string x0] 9)).grownBy w' v.ownBlock→w'.ownsRow base 9 1 v n xs→(v'.ownBlock=v.ownBlock∨v'.ownBlock=some (w.heap.size+1))→K (a.put o.dst v') w') :
  if Region.wanted o (yielded ops a.tmps)=true then Oper.wp Tryz.prog o a (w.alloc (.cells #[.string x0] 9)) K Q else E:=by
 subst hgw
 have hw:Region.wanted o (yielded ops a.tmps)=true:=by simp[Region.wanted,hgd]
 rw[if_pos hw]
 obtain⟨v',w',hr,h2,h3,h4⟩:=run_app_old base x0 v n xs o.type hown hn hbase
 obtain⟨i0,hi0,hz0,hz1,hz2⟩:=info_parts info_strV
 obtain⟨v2,w2,hr2,-,-,-,h5⟩:=run_append_own_at (P:=Tryz.prog) (w.alloc (.cells #[.string x0] 9)) base 50 o.type 9 i0 _ 1 16 Tryz.underlying50 hi0 hz0 hz1 hz2 rfl (by omega) v n xs (hown.alloc _) ⟨w.heap.size,0,none⟩ 1 1 [.string x0] rfl (cell_one_new w _ _) (by intro u hu;rw[List.mem_singleton.1 hu];rfl) (by unfold maxLen;omega) (by omega) (by simp;omega)
 rw[hr] at hr2
 injection hr2 with e1 e2
 subst e1
 subst e2
 unfold Oper.wp execOp
 simp only[ho,resolve,invoke,builtin,Sem.run_bind,Sem.run_pure,Result.andThen_ok,List.map_toArray,List.map_cons,List.map_nil,hs,hx,hr]
 refine h v' w' h2 h3 h4 ?_
 rcases h5 with h5 | h5
 ·exact .inl h5
 ·exact .inr (by rw[h5];simp)
section
variable {WM : World} {gX : Nat} {w w' : World} {vp vo va : Value} {rs : List (Value × List ByteArray)} {on : List Bool} {acks : List Ac}
theorem CpT.look{gv ND cw d gi Ld cd i:Nat} {l:List ByteArray} {X:ByteArray} (h:CpT WM gX w (.slice (some ⟨gv,0,none⟩) ND cw) vo va rs on acks) (hN:rs.length=ND) (hd:rs[d]?=some (.slice (some ⟨gi,0,none⟩) Ld cd,l)) (hL:l.length=Ld) (hi:l[i]?=some X) :
  w.cell? ⟨gv,d,none⟩=some (.slice (some ⟨gi,0,none⟩) Ld cd)∧w.frozen? ⟨gv,d,none⟩=false∧w.cell? ⟨gi,i,none⟩=some (.string X)∧w.frozen? ⟨gi,i,none⟩=false:=by
 have ht:=h.plat.top
 rw[hN] at ht
 have hr:=h.plat.row d _ hd
 simp only at hr
 rw[hL] at hr
 have hdl:d<ND:=by rw[←hN];exact(List.getElem?_eq_some_iff.1 hd).1
 have hil:i<Ld:=by rw[←hL];exact(List.getElem?_eq_some_iff.1 hi).1
 exact⟨by rw[ht.cellAt d (by omega),List.getElem?_map,hd];rfl,ht.frozenAt d,by rw[hr.cellAt i (by omega),List.getElem?_map,hi];rfl,hr.frozenAt i⟩
theorem CpT.drive{gv ND cw d:Nat} {x:Value×List ByteArray} (h:CpT WM gX w (.slice (some ⟨gv,0,none⟩) ND cw) vo va rs on acks) (hN:rs.length=ND) (hd:rs[d]?=some x):w.cell? ⟨gv,d,none⟩=some x.1∧w.frozen? ⟨gv,d,none⟩=false:=by
 have ht:=h.plat.top
 rw[hN] at ht
 have hdl:d<ND:=by rw[←hN];exact(List.getElem?_eq_some_iff.1 hd).1
 exact⟨by rw[ht.cellAt d (by omega),List.getElem?_map,hd];rfl,ht.frozenAt d⟩
theorem CpT.after(h:CpT WM gX w vp vo va rs on acks) {t:Nat} {x0:Value×List ByteArray} (ht:rs[t]?=some x0) (hg:w.grownBy w' x0.1.ownBlock) (ho:w'.ownsRow WM.heap.size 9 1 x0.1 x0.2.length (x0.2.map Value.string)):CpT WM gX w' vp vo va rs on acks:=by
 have hh:HotBy [x0.1.ownBlock] w w':=HotBy.grown hg (.inl (by simp))
 obtain⟨h3,h4,-,h6,h7⟩:=h.only hh 9 (own_ho (h.plat.row t x0 ht))
 refine⟨h3,h4 (by decide),⟨own_hot h.plat.top hh (fun b hb e=>by simp at e;exact h.plat.top_row ht hb e.symm),fun i x hx=>?_,h.plat.apart,h.plat.size⟩,h6 (by decide),h7 (by decide),h.gX1⟩
 by_cases e:t=i
 ·subst e
  rw[ht] at hx
  injection hx with hx
  subst hx
  exact ho
 ·exact own_hot (h.plat.row i x hx) hh (fun b hb e2=>by simp at e2;exact h.plat.apart i t x x0 b (fun e3=>e e3.symm) hx ht hb e2.symm)
theorem own_block{B:Nat} {e:TypeId} {s n:Nat} {v:Value} {xs:List Value} (h:w.ownsRow B e s v n xs) (hn:0<n):∃g c,v=.slice (some ⟨g,0,none⟩) n c:=by
 rcases h.2 with ⟨_,e2⟩ | ⟨g,cap,cur,e2,_⟩
 ·omega
 ·exact⟨g,cap,e2⟩
end
theorem flat4_ver{l:List Ac} {j:Nat} {a:Ac} (h:l[j]?=some a):(l.flatMap acC)[j * 4+2]?=some (.int .i64 a.ver):=by
 induction l generalizing j with
 | nil=>simp at h
 | cons x xs ih =>
  rw[List.flatMap_cons]
  cases j with
  | zero =>
   simp at h;subst h
   rfl
  | succ j =>
   rw[List.getElem?_append_right (by show 4≤_;omega)]
   have:=ih (by simpa using h)
   rw[show(j+1) * 4+2 - (acC x).length=j * 4+2 by show _ - 4=_;omega]
   exact this
theorem CpT.ack{WM:World} {gX:Nat} {w:World} {vp vo:Value} {rs:List (Value×List ByteArray)} {on:List Bool} {acks:List Ac} {ga NA ca j:Nat} {a:Ac} (h:CpT WM gX w vp vo (.slice (some ⟨ga,0,none⟩) NA ca) rs on acks) (hN:acks.length=NA) (hj:acks[j]?=some a) :
  w.cell? ⟨ga,j * 4+2,none⟩=some (.int .i64 a.ver)∧w.frozen? ⟨ga,j * 4+2,none⟩=false:=by
 have ht:=h.aks
 rw[hN] at ht
 have hjl:j<NA:=by rw[←hN];exact(List.getElem?_eq_some_iff.1 hj).1
 exact⟨by rw[ht.cellAt (j * 4+2) (by omega),flat4_ver hj],ht.frozenAt _⟩
theorem CpT.up{WM:World} {gX:Nat} {w:World} {vp va:Value} {rs:List (Value×List ByteArray)} {on:List Bool} {acks:List Ac} {go NO co j:Nat} {b:Bool} (h:CpT WM gX w vp (.slice (some ⟨go,0,none⟩) NO co) va rs on acks) (hN:on.length=NO) (hj:on[j]?=some b) :
  w.cell? ⟨go,j,none⟩=some (.bool b)∧w.frozen? ⟨go,j,none⟩=false:=by
 have ht:=h.ons
 rw[hN] at ht
 have hjl:j<NO:=by rw[←hN];exact(List.getElem?_eq_some_iff.1 hj).1
 exact⟨by rw[ht.cellAt j (by omega),List.getElem?_map,hj];rfl,ht.frozenAt _⟩
theorem wrap_i(n:Int):I64 (IntKind.i64.wrap n):=by
 rw[IntKind.wrap_i64]
 unfold I64
 omega
theorem set_len{α:Type} {P:α→Prop} {l:List α} {i:Nat} {a:α} (h:∀x∈l,P x) (ha:P a):∀x∈l.set i a,P x:=fun x hx=>by
 rcases List.mem_or_eq_of_mem_set hx with h1 | rfl
 ·exact h x h1
 ·exact ha
theorem harmless_empty(x0 x1 x2 y0 y1 y2:Value) (w:World) :
  Calls Tryz.prog 20 #[.agg #[.int .i64 0,.slice none 0 0,.slice none 0 0,.slice none 0 0,.slice none 0 0,.slice none 0 0,.slice none 0 0],.agg #[x0,x1,x2],.agg #[y0,y1,y2]] w fun e w'=>e=.returned (.bool false)∧Below w.heap.size w w':=by
 obtain⟨W0,hW0⟩:=zx (((w.alloc (.cells #[.int .i64 0,.slice none 0 0,.slice none 0 0,.slice none 0 0,.slice none 0 0,.slice none 0 0,.slice none 0 0] 37)).alloc (.cells #[x0,x1,x2] 27)).alloc (.cells #[y0,y1,y2] 27))
 obtain⟨z,hz⟩:=zx w.heap.size
 have hb0:Below w.heap.size w W0:=by rw[hW0];exact(((Below.refl _ _).alloc (Nat.le_refl _) _).alloc (by simp) _).alloc (by simp;omega) _
 have hzk:W0.heap[z]?=some (.cells #[.int .i64 0,.slice none 0 0,.slice none 0 0,.slice none 0 0,.slice none 0 0,.slice none 0 0,.slice none 0 0] 37 (0,0)):=by
  rw[hW0,hz];exact(Below.heap_alloc _ _ _ (by simp;omega)).trans ((Below.heap_alloc _ _ _ (by simp)).trans (heap_alloc_new w _))
 obtain⟨c0,c1,c2,c3,c4,c5,c6⟩:=cells7 hzk
 have HV:=zh (fvalidate_empty W0)
 have HW0:=zh hW0
 have HZ:=zh hz
 have HB0:=zh hb0
 clear hW0 hz hb0 hzk
 go_enter Tryz.func20,Tryz.ntmps20
 go_upto_region 1 with fail
 rw[←HW0.out,←HZ.out]
 go_wp2_with fail
 refine HV.out.mono ?_
 rintro e w1 ⟨rfl,hb1⟩
 have HB1:=zh hb1
 clear c0 c1 c2 c3 c4 c5 c6 hb1
 go_wp2_with fail
 go_ret
 exact⟨rfl,HB0.out.trans (HB1.out.mono HB0.out.size)⟩
theorem rharmless_any(N:Nat) (hN:N≤12) (vl vm vd vv vp vo x0 x1 xa y0 y1 ya:Value) (F:FltM) (b a:Re) (w:World) (hf:FleetS w (Bl w.heap.size) vl vm vd vv vp vo F) (hok:FleetOk N F)
  (hB:ReS w (Bl w.heap.size) x0 x1 xa b) (hp1:b.plat.length≤1000) (hl1:∀l∈b.plat,l.length≤1000)
  (hA:ReS w (Bl w.heap.size) y0 y1 ya a) (hp2:a.plat.length≤1000) (hl2:∀l∈a.plat,l.length≤1000) :
  Calls Tryz.prog 21 #[.agg #[.int .i64 F.ext,vl,vm,vd,vv,vp,vo],.agg #[x0,x1,xa],.agg #[y0,y1,ya]] w fun e w'=>e=.returned (.bool (harmB F b a F.ext.toNat F.vols.length))∧Below w.heap.size w w':=by
 obtain⟨pb,pof,ob,oof,cp,co,rfl,rfl,hRp,hRo,hPA⟩:=polAt hf hok
 obtain⟨Aa,ca,rfl,-,hma⟩:=hB.2.2.form
 obtain⟨Ab,cb,rfl,-,hmb⟩:=hA.2.2.form
 have HVA:=zh (fun(w':World) (hb:Below w.heap.size w w')=>rvalidate_any N hN vl vm vd vv _ _ F w' (hf.below hb) hok)
 have HIB:=zh (fun w1 h1=>pieces_any x0 x1 (.slice Aa b.acks.length ca) b w1 h1 hp1 hl1)
 have HIA:=zh (fun w1 h1=>pieces_any y0 y1 (.slice Ab a.acks.length cb) a w1 h1 hp2 hl2)
 have HRB:=zh (fun(w':World) (hb:Below w.heap.size w w')=>hB.below hb)
 have HRA:=zh (fun(w':World) (hb:Below w.heap.size w w')=>hA.below hb)
 have HPB:=zh (pieces_drive b (by omega))
 have HPC:=zh (pieces_drive a (by omega))
 obtain⟨EX,hEX,hEX1,hEX2⟩:∃n:Nat,F.ext=(n:Int)∧1≤n∧n≤2:=by rcases hok.ext with e | e <;> rw[e] <;> first | exact⟨1,rfl,by omega,by omega⟩ | exact⟨2,rfl,by omega,by omega⟩
 have hno:F.vols.length≤12:=by have:=hok.volN;omega
 rw[hEX] at HVA ⊢
 rw[show((EX:Int)).toNat=EX from by omega]
 obtain⟨NO,hNO⟩:=zx F.vols.length
 obtain⟨NP,hNP⟩:=zx F.pols.length
 obtain⟨NA,hNA⟩:=zx b.acks.length
 obtain⟨NB,hNB⟩:=zx a.acks.length
 have hnp:NP≤2:=by rw[hNP];exact hok.polN
 rw[←hNO] at hno HVA ⊢
 rw[←hNP] at HVA ⊢
 rw[←hNA] at HIB HRB hma ⊢
 rw[←hNB] at HIA HRA hmb ⊢
 have HKQ:=zh (fun v (hv:v<NO)=>kmq_ok hok (show v<F.vols.length from by rw[←hNO];exact hv))
 have HPA:=zh hPA
 have HNN:=zh (show NO=F.vols.length∧NP=F.pols.length∧NO≤12∧NP≤2 from⟨hNO,hNP,hno,hnp⟩)
 have HNA:=zh hNA
 have HNB:=zh hNB
 have HBB:=zh (show pb<w.heap.size∧ob<w.heap.size from⟨hRp,hRo⟩)
 obtain⟨W0,hW0⟩:=zx (((w.alloc (.cells #[.int .i64 (EX:Int),vl,vm,vd,vv,.slice (some ⟨pb,pof,none⟩) NP cp,.slice (some ⟨ob,oof,none⟩) NO co] 37)).alloc (.cells #[x0,x1,.slice Aa NA ca] 27)).alloc (.cells #[y0,y1,.slice Ab NB cb] 27))
 obtain⟨z,hz⟩:=zx w.heap.size
 obtain⟨q1,hq1⟩:=zx (w.heap.size+1)
 obtain⟨q2,hq2⟩:=zx (w.heap.size+1+1)
 have hb0:Below w.heap.size w W0:=by rw[hW0];exact(((Below.refl _ _).alloc (Nat.le_refl _) _).alloc (by simp) _).alloc (by simp;omega) _
 have hqk2:W0.heap[q2]?=some (.cells #[y0,y1,.slice Ab NB cb] 27 (0,0)):=by
  rw[hW0];exact heap_alloc_at _ _ _ (by rw[hq2];simp)
 have hqk1:W0.heap[q1]?=some (.cells #[x0,x1,.slice Aa NA ca] 27 (0,0)):=by
  rw[hW0];exact(Below.heap_alloc _ _ _ (by rw[hq1];simp)).trans (heap_alloc_at _ _ _ (by rw[hq1];simp))
 have hzk:W0.heap[z]?=some (.cells #[.int .i64 (EX:Int),vl,vm,vd,vv,.slice (some ⟨pb,pof,none⟩) NP cp,.slice (some ⟨ob,oof,none⟩) NO co] 37 (0,0)):=by
  rw[hW0,hz];exact(Below.heap_alloc _ _ _ (by simp;omega)).trans ((Below.heap_alloc _ _ _ (by simp)).trans (heap_alloc_new w _))
 have hzl:z<W0.heap.size:=(Array.getElem?_eq_some_iff.1 hzk).1
 have hql1:q1<W0.heap.size:=(Array.getElem?_eq_some_iff.1 hqk1).1
 have hql2:q2<W0.heap.size:=(Array.getElem?_eq_some_iff.1 hqk2).1
 have HC:=zh (fun(w':World) (hb:Below W0.heap.size W0 w')=>cells7 ((hb.block z hzl).trans hzk))
 have HQ:=zh (fun(w':World) (hb:Below W0.heap.size W0 w')=>And.intro (cells3v ((hb.block q1 hql1).trans hqk1)) (cells3v ((hb.block q2 hql2).trans hqk2)))
 have HQ3:=zh (fun(wa:World) (ha:Below W0.heap.size W0 wa) {w':World} (hb:Below wa.heap.size wa w')=>(show w'.cell? ⟨q1,0,none⟩=some x0∧w'.cell? ⟨q1,1,none⟩=some x1∧w'.cell? ⟨q1,2,none⟩=some (.slice Aa NA ca)∧w'.cell? ⟨q2,0,none⟩=some y0∧w'.cell? ⟨q2,1,none⟩=some y1∧w'.cell? ⟨q2,2,none⟩=some (.slice Ab NB cb)∧Below wa.heap.size wa w' from by
  have h1:=cells3v (((ha.trans (hb.mono ha.size)).block q1 hql1).trans hqk1)
  have h2:=cells3v (((ha.trans (hb.mono ha.size)).block q2 hql2).trans hqk2)
  exact⟨h1.1,h1.2.1,h1.2.2,h2.1,h2.2.1,h2.2.2,hb⟩))
 have HW0:=zh hW0
 have HZ:=zh (And.intro hz (And.intro hq1 hq2))
 have HB0:=zh hb0
 obtain⟨c0,c1,c2,c3,c4,c5,c6⟩:=HC.out W0 (Below.refl _ _)
 have HEXB:=zh (And.intro hEX1 hEX2)
 clear hf hok hB hA hPA hRp hRo hW0 hz hq1 hq2 hb0 hqk1 hqk2 hzk hzl hql1 hql2 hEX hNO hNP hNA hNB hnp hEX1 hno hp1 hl1 hp2 hl2 hma hmb
 go_enter Tryz.func21,Tryz.ntmps21
 go_wp2_with fail
 rw[←HW0.out,←HZ.out.2.2,←HZ.out.2.1,←HZ.out.1]
 refine(HVA.out _ HB0.out).mono ?_
 rintro e w1 ⟨rfl,hb1⟩
 have HB1:=zh hb1
 clear c0 c1 c2 c3 c4 c5 c6 hb1
 go_upto_region 3 with fail
 refine region_tail (S:=(fun w'=>w'.cell? ⟨q1,0,none⟩=some x0∧w'.cell? ⟨q1,1,none⟩=some x1∧w'.cell? ⟨q1,2,none⟩=some (.slice Aa NA ca)∧w'.cell? ⟨q2,0,none⟩=some y0∧w'.cell? ⟨q2,1,none⟩=some y1∧w'.cell? ⟨q2,2,none⟩=some (.slice Ab NB cb)∧Below w1.heap.size w1 w')) [] (by kernel_rfl) (HQ3.out w1 HB1.out (Below.refl _ _).drew) (fun hHeld=>?_)
 refine tk 0 22 ?_
 refine tk 2 24 ?_
 refine readyT (rs:=[1]) (by kernel_rfl) (by simp) ?_
 refine AllReadyT.cons rfl (fun K hK=>?_) ?_
 ·go_simp
  (go_at_call 45;refine(HIB.out _ (HRB.out _ (HB0.out.trans ((HB1.out.trans (hHeld.2.2.2.2.2.2.mono HB1.out.size)).mono HB0.out.size)))).mono ?_;rintro e w2 ⟨vf1,rfl,hof1,hb2⟩)
  go_wp2_with fail
  have hb2':=hHeld.2.2.2.2.2.2.trans (hb2.mono hHeld.2.2.2.2.2.2.size)
  refine hK.out _ _ ?_ (fun hHeld=>?_)
  ·(first|exact HQ3.out _ HB1.out (by assumption))
  clear hK K
  (try simp only[Act.put,z1,z2,z3])
  refine readyT (rs:=[3]) (by kernel_rfl) (by simp) ?_
  refine AllReadyT.cons rfl (fun K hK=>?_) ?_
  ·go_simp
   (go_at_call 45;refine(HIA.out _ (HRA.out _ (HB0.out.trans ((HB1.out.trans (hHeld.2.2.2.2.2.2.mono HB1.out.size)).mono HB0.out.size)))).mono ?_;rintro e w3 ⟨vf2,rfl,hof2,hb3⟩)
   go_wp2_with fail
   have hb3':=hHeld.2.2.2.2.2.2.trans (hb3.mono hHeld.2.2.2.2.2.2.size)
   refine hK.out _ _ ?_ (fun hHeld=>?_)
   ·(first|exact HQ3.out _ HB1.out (by assumption))
   clear hK K
   (try simp only[Act.put,z1,z2,z3])
   refine tk 4 7 ?_
   refine tk 5 8 ?_
   refine doneT (by kernel_rfl) ?_ _
   have HF1:=zh (SlS.below fdK (OwnFd.slBl hof1 HPB.out) hb3)
   have HF2:=zh (OwnFd.slBl hof2 HPC.out)
   have HB3:=zh (HB1.out.trans (hHeld.2.2.2.2.2.2.mono HB1.out.size))
   obtain⟨Af1,cf1,hvf1⟩:=own_form hof1
   obtain⟨Af2,cf2,hvf2⟩:=own_form hof2
   clear hHeld hof1 hof2 hb2 hb3 hb2' hb3' hvf1 hvf2
   go_wp2_with fail
   go_loopg [9] NO (fun z v9 wr=>∃v:Nat,v≤NO∧z=NO - v∧v9=.int .i64 (v:Int)∧Hid (∀v' s',v'<v→s'<EX→harmC F b a v' s'=true)∧Hid (Below w3.heap.size w3 wr))
   case atStart=>exact⟨0,by omega,rfl,rfl,fun v' s' h=>absurd h (Nat.not_lt_zero _),Below.refl _ _⟩
   case round =>
    obtain⟨v,hv,rfl,rfl,HAL,HBR⟩:=hrel
    have h0R:=HB3.out.trans (HBR.out.mono HB3.out.size)
    obtain⟨c0,c1,c2,c3,c4,c5,c6⟩:=HC.out wr h0R
    by_cases hlt:v<NO
    ·-- L1{
     obtain⟨hpl,nm,hvol,a0,a4,a5,a6,a7,a8,a9,a10,a11,a12,a13,a14,a15,a16,hpol,hone⟩:=HPA.out v (by rw[←HNN.out.1];exact hlt)
     obtain⟨kk,m1,m2,qq1,qq2⟩:=HKQ.out v hlt
     obtain⟨KK,hK⟩:=zx (kOf F v)
     obtain⟨MM,hMM⟩:=zx (mOf F v)
     obtain⟨QQ,hQ⟩:=zx (qOf F v)
     obtain⟨p,hpp⟩:=zx (volP F v)
     rw[←hK,←hMM,←hQ] at hpol hone
     rw[←hpp] at hvol hpl hpol
     rw[←hK] at kk
     rw[←hMM] at m1 m2
     rw[←hQ,←hK] at qq1
     have hnp:=HNN.out.2.2.2
     have hno:NO≤12:=HNN.out.2.2.1
     have hpn:p<NP:=by rw[HNN.out.2.1];exact hpl
     have HPOV:=zh (fun(w':World) (hb:Below w.heap.size w w')=>(rpolicy_any (EX:Int) KK MM QQ vl vm vd vv a0 a4 a5 a6 a7 a8 a9 a10 a11 a12 a13 a14 a15 a16 nm pb pof ob oof NP NO cp co v p w' hlt hpn (by omega) (by omega) (range_same hvol (hb.block ob HBB.out.2)) (range_same hpol (hb.block pb HBB.out.1)) hone))
     have HKM:=zh (show(KK=1∨KK=2)∧0≤MM∧MM≤2∧KK≤QQ∧KK=kOf F v∧MM=mOf F v∧QQ=qOf F v from⟨kk,m1,m2,qq1,hK,hMM,hQ⟩)
     have HON:=zh hone
     have HLT:=zh hlt
     clear hvol hpol hone kk qq1 qq2 hK hMM hQ hpp hpl m1 m2 hnp hpn
     go_wp2_with fail
     clear c0 c1 c2 c3 c4 c5 c6
     go_loopg [10] EX (fun z v10 wx=>∃s:Nat,s≤EX∧z=EX - s∧v10=.int .i64 (s:Int)∧Hid (∀s',s'<s→harmC F b a v s'=true)∧Hid (Below w3.heap.size w3 wx))
     case atStart=>exact⟨0,by omega,rfl,rfl,fun s' h=>absurd h (Nat.not_lt_zero _),HBR.out⟩
     case round =>
      clear HBR h0R
      obtain⟨s,hs,rfl,rfl,HAS,HBR⟩:=hrel
      have h0x:=HB3.out.trans (HBR.out.mono HB3.out.size)
      have hb0x:=HB0.out.trans (h0x.mono HB0.out.size)
      obtain⟨c0,c1,c2,c3,c4,c5,c6⟩:=HC.out wr h0x
      obtain⟨⟨x0',x1',x2'⟩,⟨y0',y1',y2'⟩⟩:=HQ.out wr h0x
      by_cases hls:s<EX
      ·-- L2{
       have i1:I64 (v:Int):=by have:=HNN.out;unfold I64;omega
       have i2:I64 (s:Int):=by have:=HEXB.out;unfold I64;omega
       have HVE:=zh (version_any (.slice Aa NA ca) b.acks (v:Int) (s:Int) wr _ (HRB.out wr hb0x).2.2 i1 i2)
       have HVF:=zh (version_any (.slice Ab NB cb) a.acks (v:Int) (s:Int) wr _ (HRA.out wr hb0x).2.2 i1 i2)
       have HI64:=zh (And.intro i1 i2)
       have HVS:=zh (And.intro hlt hls)
       have H0X:=zh h0x
       have HB0X:=zh hb0x
       clear i1 i2 h0x hb0x
       cases hvb:verOf b.acks (v:Int) (s:Int) with
       | none =>
        rw[hvb] at HVE
        simp only[Option.getD_none,Option.isSome_none] at HVE
        have HVB:=zh hvb
        clear hvb
        go_wp2_with fail
        refine HVE.out.mono ?_
        rintro e w4 ⟨rfl,rfl⟩
        clear c1 c2 c3 c4 c5 c6 x0' x1' x2' y0' y1' y2'
        go_wp2_with fail
        go_roundg (EX - (s+1))
        case measure=>have:=HVS.out.2;omega
        case rel=>exact⟨s+1,by have:=HVS.out.2;omega,rfl,by go_num,fun s' h=>by
         rcases Nat.lt_or_ge s' s with h1 | h1
         ·exact HAS.out s' h1
         ·obtain rfl:s'=s:=by omega
          exact harm_none HVB.out,HBR.out⟩
       | some xr =>
        rw[hvb] at HVE
        simp only[Option.getD_some,Option.isSome_some] at HVE
        have HVB:=zh hvb
        clear hvb
        have HIA2:=zh (rintact_any y0 y1 (.slice Ab NB cb) vf2 a (pieces a) (v:Int) (s:Int) false wr (HRA.out wr HB0X.out) (SlS.below fdK HF2.out HBR.out))
        obtain⟨LW,hLW⟩:=zx (intI a (v:Int) (s:Int) false)
        rw[show intTo a (pieces a) (v:Int) (s:Int) false 8=LW from by rw[hLW];rfl] at HIA2
        have HLW:=zh hLW
        have h64:∀x∈LW,I64 x:=fun x hx=>by rw[hLW] at hx;have:=intTo_mem x hx;unfold I64;omega
        have H64:=zh h64
        clear hLW h64
        by_cases hsm:verOf a.acks (v:Int) (s:Int)=some xr
        ·-- S{
         rw[hsm] at HVF
         simp only[Option.getD_some,Option.isSome_some] at HVF
         have HSM:=zh hsm
         have hq:(xr==xr)=true:=by simp
         clear hsm
         go_wp2_with fail
         refine HVE.out.mono ?_
         rintro e w4 ⟨rfl,rfl⟩
         go_wp2_with fail
         refine HVF.out.mono ?_
         rintro e w4 ⟨rfl,rfl⟩
         go_wp2_with fail
         refine HIA2.out.mono ?_
         rintro e w4 ⟨u2,rfl,ho2,hb4⟩
         obtain⟨A2,c2',hu2⟩:=ho2.form
         subst hu2
         have HO2:=zh (ho2.intS H64.out)
         have HB4:=zh (HBR.out.trans (hb4.mono HBR.out.size))
         have HB04:=zh (H0X.out.trans (hb4.mono H0X.out.size))
         have hb004:=HB0.out.trans (HB04.out.mono HB0.out.size)
         have HIB2:=zh (rintact_any x0 x1 (.slice Aa NA ca) vf1 b (pieces b) (v:Int) (s:Int) false w4 (HRB.out w4 hb004) (SlS.below fdK HF1.out HB4.out))
         obtain⟨LB,hLB⟩:=zx (intI b (v:Int) (s:Int) false)
         rw[show intTo b (pieces b) (v:Int) (s:Int) false 8=LB from by rw[hLB];rfl] at HIB2
         have HLB:=zh hLB
         have H65:=zh (show ∀x∈LB,I64 x from fun x hx=>by rw[hLB] at hx;have:=intTo_mem x hx;unfold I64;omega)
         have HB004:=zh hb004
         clear hLB ho2 hb4 hb004 c0 c1 c2 c3 c4 c5 c6 x0' x1' x2' y0' y1' y2' HIA2 HVE HVF
         obtain⟨⟨x0',x1',x2'⟩,-⟩:=HQ.out w4 HB04.out
         go_wp2_with fail
         refine HIB2.out.mono ?_
         rintro e w5 ⟨u1,rfl,ho1,hb5⟩
         obtain⟨A1,c1',hu1⟩:=ho1.form
         obtain⟨NI,hNI⟩:=zx LB.length
         rw[←hNI] at hu1
         subst hu1
         have HO1:=zh (ho1.intS H65.out)
         have HO22:=zh (HO2.out.keep (fun b hb=>hb5.block b hb.2))
         have HB5:=zh (HB4.out.trans (hb5.mono HB4.out.size))
         have HB005:=zh (HB004.out.trans (hb5.mono HB004.out.size))
         have HNI:=zh hNI
         have hni8:NI≤8:=by rw[hNI,HLB.out];exact intTo_length
         obtain⟨NW,hNW⟩:=zx LW.length
         rw[←hNW] at HO22 ⊢
         have HHAS:=zh (fun x=>has_any (.slice A2 NW c2') LW x _ w5 HO22.out)
         clear ho1 hb5 hNI hNW x0' x1' x2' HIB2
         go_wp2_with fail
         go_loopg [18] NI (fun z v18 wx=>w5=wx∧∃t:Nat,t≤NI∧z=NI - t∧v18=.int .i64 (t:Int)∧Hid (∀x∈LB.take t,x∈LW))
         case atStart=>exact⟨rfl,0,by omega,rfl,rfl,fun x hx=>by simp at hx⟩
         case round =>
          obtain⟨rfl,t',ht',rfl,rfl,HAM⟩:=hrel
          by_cases hlt2:t'<NI
          ·-- M{
           have hjl2:t'<LB.length:=by rw[←HNI.out];exact hlt2
           obtain⟨eb,eo,rfl,-,hec,-⟩:=HO1.out.at7 (k:=t') hjl2
           obtain⟨x,hx⟩:=zx (LB[t'])
           rw[←hx] at hec
           have HT2:=zh hlt2
           have HTK:=zh (show LB.take (t'+1)=LB.take t'++[x] from by rw[hx];exact List.take_succ_eq_append_getElem hjl2)
           have HMEM:=zh (show x∈LB from by rw[hx];exact List.getElem_mem hjl2)
           have hct:=HHAS.out x
           clear hx hjl2
           by_cases hin:x∈LW
           ·rw[decide_eq_true hin] at hct
            have HCX:=zh hct
            have HIN:=zh hin
            clear hct hin
            go_wp2_with fail
            refine HCX.out.mono ?_
            rintro e w13 ⟨rfl,rfl⟩
            go_wp2_with fail
            go_roundg (NI - (t'+1))
            case measure=>have:=HT2.out;omega
            case rel =>
             refine⟨rfl,t'+1,by have:=HT2.out;omega,rfl,by go_num,?_⟩
             rw[HTK.out]
             intro y hy
             rcases List.mem_append.1 hy with h2 | h2
             ·exact HAM.out y h2
             ·rw[List.mem_singleton.1 h2];exact HIN.out
           ·rw[decide_eq_false hin] at hct
            have HCX:=zh hct
            have HIN:=zh hin
            clear hct hin
            go_wp2_with fail
            refine HCX.out.mono ?_
            rintro e w13 ⟨rfl,rfl⟩
            go_wp2_with fail
            go_ret
            refine⟨?_,HB005.out⟩
            rw[harm_false HVS.out.1 HVS.out.2 (by
             rw[harm_old HVB.out HSM.out,List.all_eq_false]
             refine⟨x,by rw[←HLB.out];exact HMEM.out,?_⟩
             rw[←HLW.out,decide_eq_false HIN.out]
             decide)]
            rfl
          ·-- E{
           obtain rfl:NI=t':=by omega
           go_wp2_with fail
           go_roundg (EX - (s+1))
           case measure=>have:=HVS.out.2;omega
           case rel=>exact⟨s+1,by have:=HVS.out.2;omega,rfl,by go_num,fun s' h=>by
            rcases Nat.lt_or_ge s' s with h1 | h1
            ·exact HAS.out s' h1
            ·obtain rfl:s'=s:=by omega
             rw[harm_old HVB.out HSM.out,List.all_eq_true]
             intro x hx
             have h1:=HAM.out x
             rw[List.take_of_length_le (by rw[HNI.out];exact Nat.le_refl _),HLB.out,HLW.out] at h1
             exact decide_eq_true (h1 hx),HB5.out⟩
        ·-- N{
         have HSM:=zh hsm
         cases hva:verOf a.acks (v:Int) (s:Int) with
         | none =>
          rw[hva] at HVF
          simp only[Option.getD_none,Option.isSome_none] at HVF
          clear hva hsm
          go_wp2_with fail
          refine HVE.out.mono ?_
          rintro e w4 ⟨rfl,rfl⟩
          go_wp2_with fail
          refine HVF.out.mono ?_
          rintro e w4 ⟨rfl,rfl⟩
          go_wp2_with fail
          refine HIA2.out.mono ?_
          rintro e w4 ⟨u2,rfl,ho2,hb4⟩
          obtain⟨A2,c2',hu2⟩:=ho2.form
          subst hu2
          have HO2:=zh (ho2.intS H64.out)
          have HB4:=zh (HBR.out.trans (hb4.mono HBR.out.size))
          have HB04:=zh (H0X.out.trans (hb4.mono H0X.out.size))
          have hb004:=HB0.out.trans (HB04.out.mono HB0.out.size)
          have HPO:=zh (HPOV.out w4 hb004)
          have HB004:=zh hb004
          clear ho2 hb4 hb004 c0 c1 c2 c3 c4 c5 c6 x0' x1' x2' y0' y1' y2' HIA2 HVE HVF
          obtain⟨c0,c1,c2,c3,c4,c5,c6⟩:=HC.out w4 HB04.out
          go_wp2_with fail
          refine HPO.out.mono ?_
          rintro e w5 ⟨rfl,hb5⟩
          have HB5:=zh (HB4.out.trans (hb5.mono HB4.out.size))
          have HB005:=zh (HB004.out.trans (hb5.mono HB004.out.size))
          have HO25:=zh (HO2.out.keep (fun b hb=>hb5.block b hb.2))
          have HZ45:=zh hb5.size
          have HTH:=zh (show(w5.alloc (.cells #[.string ⟨#[]⟩,.int .i64 0,.int .i64 0,.int .i64 0,.int .i64 0,.int .i64 0,.int .i64 0,.int .i64 0,.int .i64 0,.slice none 0 0,.slice none 0 0,.bool false,.slice none 0 0,.slice none 0 0,.bool false,.slice none 0 0,.slice none 0 0] 63)).there w5.heap.size 0 17 from there_new (cs:=#[.string ⟨#[]⟩,.int .i64 0,.int .i64 0,.int .i64 0,.int .i64 0,.int .i64 0,.int .i64 0,.int .i64 0,.int .i64 0,.slice none 0 0,.slice none 0 0,.bool false,.slice none 0 0,.slice none 0 0,.bool false,.slice none 0 0,.slice none 0 0]) (heap_alloc_new w5 _) (Nat.le_refl 17))
          clear hb5 c0 c1 c2 c3 c4 c5 c6
          go_upto_region 16 with (refine wpList_store_mid rfl 63 (.tmp 16) (.tmp 71) rfl w5.heap.size 0 #[a0,.int .i64 KK,.int .i64 MM,.int .i64 QQ,a4,a5,a6,a7,a8,a9,a10,a11,a12,a13,a14,a15,a16] (by rfl) (by rfl) HTH.out size_pol HON.out ?_)
          obtain⟨W6,hW6⟩:=zx (World.setCells (w5.alloc (.cells #[.string ⟨#[]⟩,.int .i64 0,.int .i64 0,.int .i64 0,.int .i64 0,.int .i64 0,.int .i64 0,.int .i64 0,.int .i64 0,.slice none 0 0,.slice none 0 0,.bool false,.slice none 0 0,.slice none 0 0,.bool false,.slice none 0 0,.slice none 0 0] 63)) w5.heap.size 0 [a0,.int .i64 KK,.int .i64 MM,.int .i64 QQ,a4,a5,a6,a7,a8,a9,a10,a11,a12,a13,a14,a15,a16])
          obtain⟨gp,hgp⟩:=zx w5.heap.size
          have hb6:Below w5.heap.size w5 W6:=by rw[hW6];exact below_setCellsV (Nat.le_refl _) _ _ _ ((Below.refl _ _).alloc (Nat.le_refl _) _)
          have hgr:W6.rangeAt gp 0 [a0,.int .i64 KK,.int .i64 MM,.int .i64 QQ,a4,a5,a6,a7,a8,a9,a10,a11,a12,a13,a14,a15,a16]:=by rw[hW6,hgp];exact World.rangeAt_setCells_same _ _ _ _ HTH.out
          rw[←hW6,←hgp]
          have HO26:=zh (HO25.out.keep (fun b hb=>hb6.block b (Nat.lt_of_lt_of_le hb.2 HZ45.out)))
          have HB6:=zh (HB5.out.trans (hb6.mono HB5.out.size))
          have HB006:=zh (HB005.out.trans (hb6.mono HB005.out.size))
          have HS16:=zh (show W6.drew.cell? ⟨gp,1,none⟩=some (.int .i64 KK)∧W6.drew.cell? ⟨gp,2,none⟩=some (.int .i64 MM)∧W6.drew.cell? ⟨gp,3,none⟩=some (.int .i64 QQ) from⟨hgr 1 _ rfl,hgr 2 _ rfl,hgr 3 _ rfl⟩)
          obtain⟨NU,hNU⟩:=zx (cntI a v s false (kOf F v+mOf F v))
          obtain⟨NW,hNW⟩:=zx LW.length
          rw[←hNW] at HO26 ⊢
          have hbl:=rbelow_any (.slice A2 NW c2') LW (KK+MM) _ W6.drew (HO26.out.keep (fun b hb=>rfl))
          rw[show((((LW.filter (fun x=>decide (x<KK+MM))).length:Nat):Int))=NU from by rw[hNU,HLW.out,HKM.out.2.2.2.2.1,HKM.out.2.2.2.2.2.1];rfl] at hbl
          have HBE:=zh hbl
          have HNU:=zh hNU
          have hwr:IntKind.i64.wrap (KK+MM)=KK+MM:=IntWalk.i64_in _ (by have:=HKM.out;omega)
          clear hW6 hgp hb6 hgr hNU hNW hbl HTH
          refine region_tail (S:=(fun w'=>w'.cell? ⟨gp,1,none⟩=some (.int .i64 KK)∧w'.cell? ⟨gp,2,none⟩=some (.int .i64 MM)∧w'.cell? ⟨gp,3,none⟩=some (.int .i64 QQ))) [] (by kernel_rfl) HS16.out (fun hHeld=>?_)
          refine tk 0 72 ?_
          refine tk 1 73 ?_
          refine tk 2 74 ?_
          refine tk 3 75 ?_
          refine tk 4 76 ?_
          refine tk 5 77 ?_
          refine tk 7 79 ?_
          refine tk 8 80 ?_
          refine readyT (rs:=[6]) (by kernel_rfl) (by simp) ?_
          refine AllReadyT.cons rfl (fun K hK=>?_) ?_
          ·go_simp
           (go_at_call 49;refine HBE.out.mono ?_;rintro e w7 ⟨rfl,rfl⟩)
           go_wp2_with fail
           refine hK.out _ _ ?_ (fun hHeld=>?_)
           ·assumption
           clear hK K
           (try simp only[Act.put,z1,z2,z3])
           refine tk 9 81 ?_
           refine doneT (by kernel_rfl) ?_ _
           clear hHeld
           have HBZ:=zh (Below.refl W6.heap.size W6).drew
           by_cases hlq:NU<QQ
           ·-- X{
            have HLQ:=zh hlq
            go_wp2_with fail
            go_ret
            refine⟨?_,HB006.out.trans (HBZ.out.mono HB006.out.size)⟩
            rw[harm_false HVS.out.1 HVS.out.2 (by
             rw[harm_new HVB.out HSM.out,decide_eq_false]
             have h1:=HLQ.out
             rw[HNU.out,HKM.out.2.2.2.2.2.2] at h1
             omega)]
            rfl
           ·-- Y{
            have HLQ:=zh hlq
            go_wp2_with fail
            go_roundg (EX - (s+1))
            case measure=>have:=HVS.out.2;omega
            case rel=>exact⟨s+1,by have:=HVS.out.2;omega,rfl,by go_num,fun s' h=>by
             rcases Nat.lt_or_ge s' s with h1 | h1
             ·exact HAS.out s' h1
             ·obtain rfl:s'=s:=by omega
              rw[harm_new HVB.out HSM.out]
              have h1:=HLQ.out
              rw[HNU.out,HKM.out.2.2.2.2.2.2] at h1
              exact decide_eq_true (by omega),HB6.out.trans (HBZ.out.mono HB6.out.size)⟩
          exact AllReadyT.nil
         | some yr =>
          have hq:(yr==xr)=false:=by
           rw[hva] at hsm
           simpa using hsm
          rw[hva] at HVF
          simp only[Option.getD_some,Option.isSome_some] at HVF
          clear hva hsm
          go_wp2_with fail
          refine HVE.out.mono ?_
          rintro e w4 ⟨rfl,rfl⟩
          go_wp2_with fail
          refine HVF.out.mono ?_
          rintro e w4 ⟨rfl,rfl⟩
          go_wp2_with fail
          refine HIA2.out.mono ?_
          rintro e w4 ⟨u2,rfl,ho2,hb4⟩
          obtain⟨A2,c2',hu2⟩:=ho2.form
          subst hu2
          have HO2:=zh (ho2.intS H64.out)
          have HB4:=zh (HBR.out.trans (hb4.mono HBR.out.size))
          have HB04:=zh (H0X.out.trans (hb4.mono H0X.out.size))
          have hb004:=HB0.out.trans (HB04.out.mono HB0.out.size)
          have HPO:=zh (HPOV.out w4 hb004)
          have HB004:=zh hb004
          clear ho2 hb4 hb004 c0 c1 c2 c3 c4 c5 c6 x0' x1' x2' y0' y1' y2' HIA2 HVE HVF
          obtain⟨c0,c1,c2,c3,c4,c5,c6⟩:=HC.out w4 HB04.out
          go_wp2_with fail
          refine HPO.out.mono ?_
          rintro e w5 ⟨rfl,hb5⟩
          have HB5:=zh (HB4.out.trans (hb5.mono HB4.out.size))
          have HB005:=zh (HB004.out.trans (hb5.mono HB004.out.size))
          have HO25:=zh (HO2.out.keep (fun b hb=>hb5.block b hb.2))
          have HZ45:=zh hb5.size
          have HTH:=zh (show(w5.alloc (.cells #[.string ⟨#[]⟩,.int .i64 0,.int .i64 0,.int .i64 0,.int .i64 0,.int .i64 0,.int .i64 0,.int .i64 0,.int .i64 0,.slice none 0 0,.slice none 0 0,.bool false,.slice none 0 0,.slice none 0 0,.bool false,.slice none 0 0,.slice none 0 0] 63)).there w5.heap.size 0 17 from there_new (cs:=#[.string ⟨#[]⟩,.int .i64 0,.int .i64 0,.int .i64 0,.int .i64 0,.int .i64 0,.int .i64 0,.int .i64 0,.int .i64 0,.slice none 0 0,.slice none 0 0,.bool false,.slice none 0 0,.slice none 0 0,.bool false,.slice none 0 0,.slice none 0 0]) (heap_alloc_new w5 _) (Nat.le_refl 17))
          clear hb5 c0 c1 c2 c3 c4 c5 c6
          go_upto_region 16 with (refine wpList_store_mid rfl 63 (.tmp 16) (.tmp 71) rfl w5.heap.size 0 #[a0,.int .i64 KK,.int .i64 MM,.int .i64 QQ,a4,a5,a6,a7,a8,a9,a10,a11,a12,a13,a14,a15,a16] (by rfl) (by rfl) HTH.out size_pol HON.out ?_)
          obtain⟨W6,hW6⟩:=zx (World.setCells (w5.alloc (.cells #[.string ⟨#[]⟩,.int .i64 0,.int .i64 0,.int .i64 0,.int .i64 0,.int .i64 0,.int .i64 0,.int .i64 0,.int .i64 0,.slice none 0 0,.slice none 0 0,.bool false,.slice none 0 0,.slice none 0 0,.bool false,.slice none 0 0,.slice none 0 0] 63)) w5.heap.size 0 [a0,.int .i64 KK,.int .i64 MM,.int .i64 QQ,a4,a5,a6,a7,a8,a9,a10,a11,a12,a13,a14,a15,a16])
          obtain⟨gp,hgp⟩:=zx w5.heap.size
          have hb6:Below w5.heap.size w5 W6:=by rw[hW6];exact below_setCellsV (Nat.le_refl _) _ _ _ ((Below.refl _ _).alloc (Nat.le_refl _) _)
          have hgr:W6.rangeAt gp 0 [a0,.int .i64 KK,.int .i64 MM,.int .i64 QQ,a4,a5,a6,a7,a8,a9,a10,a11,a12,a13,a14,a15,a16]:=by rw[hW6,hgp];exact World.rangeAt_setCells_same _ _ _ _ HTH.out
          rw[←hW6,←hgp]
          have HO26:=zh (HO25.out.keep (fun b hb=>hb6.block b (Nat.lt_of_lt_of_le hb.2 HZ45.out)))
          have HB6:=zh (HB5.out.trans (hb6.mono HB5.out.size))
          have HB006:=zh (HB005.out.trans (hb6.mono HB005.out.size))
          have HS16:=zh (show W6.drew.cell? ⟨gp,1,none⟩=some (.int .i64 KK)∧W6.drew.cell? ⟨gp,2,none⟩=some (.int .i64 MM)∧W6.drew.cell? ⟨gp,3,none⟩=some (.int .i64 QQ) from⟨hgr 1 _ rfl,hgr 2 _ rfl,hgr 3 _ rfl⟩)
          obtain⟨NU,hNU⟩:=zx (cntI a v s false (kOf F v+mOf F v))
          obtain⟨NW,hNW⟩:=zx LW.length
          rw[←hNW] at HO26 ⊢
          have hbl:=rbelow_any (.slice A2 NW c2') LW (KK+MM) _ W6.drew (HO26.out.keep (fun b hb=>rfl))
          rw[show((((LW.filter (fun x=>decide (x<KK+MM))).length:Nat):Int))=NU from by rw[hNU,HLW.out,HKM.out.2.2.2.2.1,HKM.out.2.2.2.2.2.1];rfl] at hbl
          have HBE:=zh hbl
          have HNU:=zh hNU
          have hwr:IntKind.i64.wrap (KK+MM)=KK+MM:=IntWalk.i64_in _ (by have:=HKM.out;omega)
          clear hW6 hgp hb6 hgr hNU hNW hbl HTH
          refine region_tail (S:=(fun w'=>w'.cell? ⟨gp,1,none⟩=some (.int .i64 KK)∧w'.cell? ⟨gp,2,none⟩=some (.int .i64 MM)∧w'.cell? ⟨gp,3,none⟩=some (.int .i64 QQ))) [] (by kernel_rfl) HS16.out (fun hHeld=>?_)
          refine tk 0 72 ?_
          refine tk 1 73 ?_
          refine tk 2 74 ?_
          refine tk 3 75 ?_
          refine tk 4 76 ?_
          refine tk 5 77 ?_
          refine tk 7 79 ?_
          refine tk 8 80 ?_
          refine readyT (rs:=[6]) (by kernel_rfl) (by simp) ?_
          refine AllReadyT.cons rfl (fun K hK=>?_) ?_
          ·go_simp
           (go_at_call 49;refine HBE.out.mono ?_;rintro e w7 ⟨rfl,rfl⟩)
           go_wp2_with fail
           refine hK.out _ _ ?_ (fun hHeld=>?_)
           ·assumption
           clear hK K
           (try simp only[Act.put,z1,z2,z3])
           refine tk 9 81 ?_
           refine doneT (by kernel_rfl) ?_ _
           clear hHeld
           have HBZ:=zh (Below.refl W6.heap.size W6).drew
           by_cases hlq:NU<QQ
           ·-- X{
            have HLQ:=zh hlq
            go_wp2_with fail
            go_ret
            refine⟨?_,HB006.out.trans (HBZ.out.mono HB006.out.size)⟩
            rw[harm_false HVS.out.1 HVS.out.2 (by
             rw[harm_new HVB.out HSM.out,decide_eq_false]
             have h1:=HLQ.out
             rw[HNU.out,HKM.out.2.2.2.2.2.2] at h1
             omega)]
            rfl
           ·-- Y{
            have HLQ:=zh hlq
            go_wp2_with fail
            go_roundg (EX - (s+1))
            case measure=>have:=HVS.out.2;omega
            case rel=>exact⟨s+1,by have:=HVS.out.2;omega,rfl,by go_num,fun s' h=>by
             rcases Nat.lt_or_ge s' s with h1 | h1
             ·exact HAS.out s' h1
             ·obtain rfl:s'=s:=by omega
              rw[harm_new HVB.out HSM.out]
              have h1:=HLQ.out
              rw[HNU.out,HKM.out.2.2.2.2.2.2] at h1
              exact decide_eq_true (by omega),HB6.out.trans (HBZ.out.mono HB6.out.size)⟩
          exact AllReadyT.nil
      ·-- R2{
       obtain rfl:EX=s:=by omega
       clear c1 c2 c3 c4 c5 c6 x0' x1' x2' y0' y1' y2'
       go_wp2_with fail
       go_roundg (NO - (v+1))
       case measure=>have:=HLT.out;omega
       case rel=>exact⟨v+1,by have:=HLT.out;omega,rfl,by go_num,fun v' s' h1 h2=>by
        rcases Nat.lt_or_ge v' v with h3 | h3
        ·exact HAL.out v' s' h3 h2
        ·obtain rfl:v'=v:=by omega
         exact HAS.out s' h2,HBR.out⟩
    ·-- R1{
     obtain rfl:NO=v:=by omega
     clear c0 c1 c2 c3 c4 c5
     go_wp2_with fail
     go_ret
     refine⟨?_,HB0.out.trans (h0R.mono HB0.out.size)⟩
     rw[harm_true (fun v' s' h1 h2=>HAL.out v' s' h1 h2)];rfl
  exact AllReadyT.nil
 exact AllReadyT.nil

def awP:Pc:=⟨1,2,0,9,5,[48,49,50,51,52,53,54,55,56,57,97,98,99,100,101,102]⟩
def awR(s:ByteArray):Re:=⟨[[],[s]],[false,false],[⟨1,0,5,0⟩]⟩
theorem aw_valid:validP awP=true:=by decide
theorem aw_len:(encB awP).length=36:=by kernel_rfl
theorem aw_good1:goodI (awR ⟨(encB awP).toArray⟩) 1 2 0=[1]:=by kernel_rfl
theorem aw_good2:goodI (awR ⟨(encB awP).toArray⟩) 1 1 0=[]:=by kernel_rfl
theorem aw_int1:intI (awR ⟨(encB awP).toArray⟩) 1 0 false=[2]:=by kernel_rfl
theorem aw_int2:intI (awR ⟨(encB awP).toArray⟩) 1 0 true=[]:=by kernel_rfl
theorem aw_one{α:Type} {x y:α} {k:Nat} (h:[x][k]?=some y):k=0∧y=x:=by
 match k with
 | 0=>simp at h;exact⟨rfl,h.symm⟩
 | k+1=>simp at h
theorem aw_two{α:Type} {x1 x2 y:α} {k:Nat} (h:[x1,x2][k]?=some y):(k=0∧y=x1)∨(k=1∧y=x2):=by
 match k with
 | 0=>simp at h;exact .inl ⟨rfl,h.symm⟩
 | 1=>simp at h;exact .inr ⟨rfl,h.symm⟩
 | k+2=>simp at h
theorem aw_four{α:Type} {x1 x2 x3 x4 y:α} {k:Nat} (h:[x1,x2,x3,x4][k]?=some y):(k=0∧y=x1)∨(k=1∧y=x2)∨(k=2∧y=x3)∨(k=3∧y=x4):=by
 match k with
 | 0=>simp at h;exact .inl ⟨rfl,h.symm⟩
 | 1=>simp at h;exact .inr (.inl ⟨rfl,h.symm⟩)
 | 2=>simp at h;exact .inr (.inr (.inl ⟨rfl,h.symm⟩))
 | 3=>simp at h;exact .inr (.inr (.inr ⟨rfl,h.symm⟩))
 | k+4=>simp at h
theorem aw_re(W:World) (s:ByteArray) (n1 n2 n3 n4:Nat) (hs:s.size=36) (h1:W.cell? ⟨n1,0,none⟩=some (.string s)) (h20:W.cell? ⟨n2,0,none⟩=some (.slice none 0 0)) (h21:W.cell? ⟨n2,1,none⟩=some (.slice (some ⟨n1,0,none⟩) 1 1))
  (h30:W.cell? ⟨n3,0,none⟩=some (.bool false)) (h31:W.cell? ⟨n3,1,none⟩=some (.bool false)) (h40:W.cell? ⟨n4,0,none⟩=some (.int .i64 1)) (h41:W.cell? ⟨n4,1,none⟩=some (.int .i64 0)) (h42:W.cell? ⟨n4,2,none⟩=some (.int .i64 5)) (h43:W.cell? ⟨n4,3,none⟩=some (.int .i64 0)) :
  ReS W (Bl W.heap.size) (.slice (some ⟨n2,0,none⟩) 2 2) (.slice (some ⟨n3,0,none⟩) 2 2) (.slice (some ⟨n4,0,none⟩) 1 1) (awR s):=by
 refine⟨⟨_,2,rfl,Nat.le_refl _,by unfold maxLen;simp[awR],fun _=>⟨n2,0,rfl,block_lt_of_cell h20,fun k a hk=>?_⟩⟩,⟨_,2,rfl,Nat.le_refl _,by unfold maxLen;simp[awR],fun _=>⟨n3,0,rfl,block_lt_of_cell h30,fun k a hk=>?_⟩⟩,⟨_,1,rfl,Nat.le_refl _,by unfold maxLen;simp[awR],fun _=>⟨n4,0,rfl,block_lt_of_cell h40,fun k a hk=>?_⟩⟩⟩
 ·rcases aw_two hk with ⟨rfl,rfl⟩ | ⟨rfl,rfl⟩
  ·exact⟨[_],rfl,fun i c hc=>by obtain⟨rfl,rfl⟩:=aw_one hc;exact h20,_,rfl,Row.nil _ _ _⟩
  ·refine⟨[_],rfl,fun i c hc=>by obtain⟨rfl,rfl⟩:=aw_one hc;exact h21,_,rfl,_,1,rfl,Nat.le_refl _,by unfold maxLen;simp,fun _=>⟨n1,0,rfl,block_lt_of_cell h1,fun k a hk=>?_⟩⟩
   obtain⟨rfl,rfl⟩:=aw_one hk
   exact⟨[_],rfl,fun i c hc=>by obtain⟨rfl,rfl⟩:=aw_one hc;exact h1,rfl,by rw[hs];unfold maxLen;decide⟩
 ·rcases aw_two hk with ⟨rfl,rfl⟩ | ⟨rfl,rfl⟩
  ·exact⟨[_],rfl,fun i c hc=>by obtain⟨rfl,rfl⟩:=aw_one hc;exact h30,rfl⟩
  ·exact⟨[_],rfl,fun i c hc=>by obtain⟨rfl,rfl⟩:=aw_one hc;exact h31,rfl⟩
 ·obtain⟨rfl,rfl⟩:=aw_one hk
  refine⟨[_,_,_,_],rfl,fun i c hc=>?_,rfl,by unfold I64;decide,by unfold I64;decide,by unfold I64;decide,by unfold I64;decide⟩
  rcases aw_four hc with ⟨rfl,rfl⟩ | ⟨rfl,rfl⟩ | ⟨rfl,rfl⟩ | ⟨rfl,rfl⟩
  ·exact h40
  ·exact h41
  ·exact h42
  ·exact h43
theorem aw_new(w:World) (cs:Array Value) (t:TypeId) (b i:Nat) (h:b=w.heap.size):(w.alloc (.cells cs t)).cell? ⟨b,i,none⟩=cs[i]?:=by
 subst h
 exact cell_of_row _ _ _ _ _ _ (heap_alloc_new w (.cells cs t))
theorem aw_old(w:World) (o:Obj) (b i:Nat) (h:b<w.heap.size):(w.alloc o).cell? ⟨b,i,none⟩=w.cell? ⟨b,i,none⟩:=World.cell?_of_block (w:=w) (Below.heap_alloc w o b h)
theorem aw_lit{w:World} {g:Nat} {x:Int} (h:w.cell? ⟨g,0,none⟩=some (.int .i64 x)) (hx:I64 x):IntS w (Bl w.heap.size) (.slice (some ⟨g,0,none⟩) 1 1) [x] :=
 ⟨⟨_,1,rfl,Nat.le_refl _,by unfold maxLen;simp,fun _=>⟨g,0,rfl,block_lt_of_cell h,fun k a hk=>by obtain⟨rfl,rfl⟩:=aw_one hk;exact h⟩⟩,fun y hy=>by rw[List.mem_singleton.1 hy];exact hx⟩
theorem awake_any(w:World):Calls Tryz.prog 10 #[] w fun e w'=>e=.returned (.bool true)∧Below w.heap.size w w':=by
 have henc:=fun w=>refsenc_any awP w (by unfold PcI I64 maxLen;decide) (by decide)
 rw[show encS awP=encB awP by unfold encS;rw[if_pos aw_valid],show encE awP=0 by unfold encE;rw[if_pos aw_valid]] at henc
 have hsz:(⟨(encB awP).toArray⟩:ByteArray).size=36:=by rw[size_of];exact aw_len
 have hg1:=aw_good1
 have hg2:=aw_good2
 have hi1:=aw_int1
 have hi2:=aw_int2
 obtain⟨X,hX⟩:∃X:ByteArray,X=⟨(encB awP).toArray⟩:=⟨_,rfl⟩
 rw[←hX] at henc hsz hg1 hg2 hi1 hi2
 have HEN:=zh henc
 have HSZ:=zh hsz
 have HG1:=zh hg1
 have HG2:=zh hg2
 have HI1:=zh hi1
 have HI2:=zh hi2
 clear henc hsz hg1 hg2 hi1 hi2 hX
 go_enter Tryz.func10,Tryz.ntmps10
 go_wp2_with fail
 refine(HEN.out _).mono ?_
 rintro e w1 ⟨rfl,hb1⟩
 go_wp2_with fail
 obtain⟨n,hn⟩:=zx w1.heap.size
 rw[←hn]
 obtain⟨W,hW⟩:=zx ((((((w1.alloc (.cells #[.string X] 9)).alloc (.cells #[.slice none 0 0,.slice (some ⟨n,0,none⟩) 1 1] 50)).alloc (.cells #[.bool false,.bool false] 4)).alloc (.cells #[.int .i64 1,.int .i64 0,.int .i64 5,.int .i64 0] 53)).alloc (.cells #[.slice (some ⟨n+1,0,none⟩) 2 2,.slice (some ⟨n+1+1,0,none⟩) 2 2,.slice (some ⟨n+1+1+1,0,none⟩) 1 1] 27)))
 rw[←hW]
 have hre:=aw_re W X n (n+1) (n+1+1) (n+1+1+1) HSZ.out (by rw[hW,hn];rw[aw_old _ _ _ _ (by first | (simp;done) | (simp;omega)),aw_old _ _ _ _ (by first | (simp;done) | (simp;omega)),aw_old _ _ _ _ (by first | (simp;done) | (simp;omega)),aw_old _ _ _ _ (by first | (simp;done) | (simp;omega)),aw_new _ _ _ _ _ (by simp)];rfl) (by rw[hW,hn];rw[aw_old _ _ _ _ (by first | (simp;done) | (simp;omega)),aw_old _ _ _ _ (by first | (simp;done) | (simp;omega)),aw_old _ _ _ _ (by first | (simp;done) | (simp;omega)),aw_new _ _ _ _ _ (by simp)];rfl) (by rw[hW,hn];rw[aw_old _ _ _ _ (by first | (simp;done) | (simp;omega)),aw_old _ _ _ _ (by first | (simp;done) | (simp;omega)),aw_old _ _ _ _ (by first | (simp;done) | (simp;omega)),aw_new _ _ _ _ _ (by simp)];rfl) (by rw[hW,hn];rw[aw_old _ _ _ _ (by first | (simp;done) | (simp;omega)),aw_old _ _ _ _ (by first | (simp;done) | (simp;omega)),aw_new _ _ _ _ _ (by simp)];rfl) (by rw[hW,hn];rw[aw_old _ _ _ _ (by first | (simp;done) | (simp;omega)),aw_old _ _ _ _ (by first | (simp;done) | (simp;omega)),aw_new _ _ _ _ _ (by simp)];rfl) (by rw[hW,hn];rw[aw_old _ _ _ _ (by first | (simp;done) | (simp;omega)),aw_new _ _ _ _ _ (by simp)];rfl) (by rw[hW,hn];rw[aw_old _ _ _ _ (by first | (simp;done) | (simp;omega)),aw_new _ _ _ _ _ (by simp)];rfl) (by rw[hW,hn];rw[aw_old _ _ _ _ (by first | (simp;done) | (simp;omega)),aw_new _ _ _ _ _ (by simp)];rfl) (by rw[hW,hn];rw[aw_old _ _ _ _ (by first | (simp;done) | (simp;omega)),aw_new _ _ _ _ _ (by simp)];rfl)
 have hbW:Below w1.heap.size w1 W:=by rw[hW];exact(((((Below.refl _ _).alloc (Nat.le_refl _) _).alloc (by simp) _).alloc (by simp;omega) _).alloc (by simp;omega) _).alloc (by simp;omega) _
 obtain⟨q,hq⟩:=zx (n+1+1+1+1)
 rw[←hq]
 have c0:W.cell? ⟨q,0,none⟩=some (.slice (some ⟨n+1,0,none⟩) 2 2):=by rw[hW,hq,hn];rw[aw_new _ _ _ _ _ (by simp)];rfl
 have c1:W.cell? ⟨q,1,none⟩=some (.slice (some ⟨n+1+1,0,none⟩) 2 2):=by rw[hW,hq,hn];rw[aw_new _ _ _ _ _ (by simp)];rfl
 have c2:W.cell? ⟨q,2,none⟩=some (.slice (some ⟨n+1+1+1,0,none⟩) 1 1):=by rw[hW,hq,hn];rw[aw_new _ _ _ _ _ (by simp)];rfl
 obtain⟨v1,hv1⟩:=zx (Value.slice (some ⟨n+1,0,none⟩) 2 2)
 obtain⟨v2,hv2⟩:=zx (Value.slice (some ⟨n+1+1,0,none⟩) 2 2)
 obtain⟨v3,hv3⟩:=zx (Value.slice (some ⟨n+1+1+1,0,none⟩) 1 1)
 have hs1:=block_lt_of_cell c0
 have HH:=zh (show HeldR W q _ _ _ W from⟨c0,c1,c2,Below.refl _ _⟩)
 rw[←hv1,←hv2,←hv3] at hre HH ⊢
 rw[←hv1] at c0
 rw[←hv2] at c1
 rw[←hv3] at c2
 have HRE:=zh hre
 have HB:=zh (hb1.trans (hbW.mono hb1.size))
 have HQ:=zh hs1
 clear hW hbW hb1 hn hq hv1 hv2 hv3 hre hs1
 refine(good_any v1 v2 v3 (awR X) 1 2 0 W HRE.out (by simp[awR]) (by simp[awR]) (by simp[awR]) (by unfold I64;decide) (by unfold I64;decide)).mono ?_
 rintro e w2 ⟨u,rfl,hO,hb2⟩
 have HH2:=zh (HH.out.below hb2 HQ.out)
 rw[HG1.out] at hO
 have hx2:=hO.intS (by simp[I64])
 obtain⟨A2,c2',rfl⟩:=hO.form
 have HX2:=zh hx2
 clear hO hx2 hb2 c0 c1 c2
 obtain⟨W2,hW2⟩:=zx (w2.alloc (.cells #[.int .i64 1] 3))
 have hl2:=aw_lit (w:=W2) (g:=w2.heap.size) (x:=1) (by rw[hW2];simp) (by unfold I64;decide)
 have hk2:Below w2.heap.size w2 W2:=by rw[hW2];exact(Below.refl _ _).alloc (Nat.le_refl _) _
 have hx2':=HX2.out.keep (w':=W2) (fun b hb=>hk2.block b hb.2)
 have HSI:=zh (sameints_any _ _ _ _ _ W2 hx2' hl2)
 have HH3:=zh (HH2.out.below hk2 HQ.out)
 clear hl2 hk2 hx2'
 go_wp2_with fail
 rw[←hW2]
 clear hW2
 refine HSI.out.mono ?_
 rintro e w3 ⟨rfl,k,rfl⟩
 have HH4:=zh (HH3.out.below (Below.drewN' (Below.refl _ _) k) HQ.out)
 obtain⟨W4,hW4⟩:=zx (W2.drewN k)
 rw[←hW4] at HH4 ⊢
 clear hW4
 obtain⟨d0,d1,d2,hb4⟩:=HH4.out
 have HRE4:=zh (HRE.out.below hb4)
 clear hb4
 go_wp2_with fail
 refine(Intact_any v1 v2 v3 (awR X) 1 0 false W4 HRE4.out (by simp[awR]) (by simp[awR]) (by simp[awR]) (by unfold I64;decide) (by unfold I64;decide)).mono ?_
 rintro e w5 ⟨u,rfl,hO,hb5⟩
 have HH5:=zh (HH4.out.below hb5 HQ.out)
 rw[HI1.out] at hO
 have hx5:=hO.intS (by simp[I64])
 obtain⟨A5,c5',rfl⟩:=hO.form
 have HX5:=zh hx5
 clear hO hx5 hb5 d0 d1 d2
 obtain⟨W5,hW5⟩:=zx (w5.alloc (.cells #[.int .i64 2] 3))
 have hl2:=aw_lit (w:=W5) (g:=w5.heap.size) (x:=2) (by rw[hW5];simp) (by unfold I64;decide)
 have hk2:Below w5.heap.size w5 W5:=by rw[hW5];exact(Below.refl _ _).alloc (Nat.le_refl _) _
 have hx2':=HX5.out.keep (w':=W5) (fun b hb=>hk2.block b hb.2)
 have HSI2:=zh (sameints_any _ _ _ _ _ W5 hx2' hl2)
 have HH6:=zh (HH5.out.below hk2 HQ.out)
 clear hl2 hk2 hx2'
 go_wp2_with fail
 rw[←hW5]
 clear hW5
 refine HSI2.out.mono ?_
 rintro e w6 ⟨rfl,k6,rfl⟩
 have HH7:=zh (HH6.out.below (Below.drewN' (Below.refl _ _) k6) HQ.out)
 obtain⟨W7,hW7⟩:=zx (W5.drewN k6)
 rw[←hW7] at HH7 ⊢
 clear hW7
 obtain⟨d0,d1,d2,hb7⟩:=HH7.out
 have HRE7:=zh (HRE.out.below hb7)
 clear hb7
 go_wp2_with fail
 refine(Intact_any v1 v2 v3 (awR X) 1 0 true W7 HRE7.out (by simp[awR]) (by simp[awR]) (by simp[awR]) (by unfold I64;decide) (by unfold I64;decide)).mono ?_
 rintro e w8 ⟨u,rfl,hO,hb8⟩
 have HH8:=zh (HH7.out.below hb8 HQ.out)
 rw[HI2.out] at hO
 obtain⟨A8,c8',rfl⟩:=hO.form
 clear hO hb8 d0 d1 d2
 obtain⟨d0,d1,d2,hb8⟩:=HH8.out
 have HRE8:=zh (HRE.out.below hb8)
 clear hb8
 go_wp2_with fail
 refine(good_any v1 v2 v3 (awR X) 1 1 0 w8 HRE8.out (by simp[awR]) (by simp[awR]) (by simp[awR]) (by unfold I64;decide) (by unfold I64;decide)).mono ?_
 rintro e w9 ⟨u,rfl,hO,hb9⟩
 rw[HG2.out] at hO
 obtain⟨A9,c9',rfl⟩:=hO.form
 have HB9:=zh (HH8.out.bl.trans (hb9.mono HH8.out.bl.size))
 clear hO hb9 d0 d1 d2
 go_wp2_with fail
 go_ret
 exact⟨rfl,HB.out.trans (HB9.out.mono HB.out.size)⟩
def HeldL(W0:World) (g p q:Nat) (a b c d e f h y0 y1 y2 z0 z1 z2:Value) (w':World):Prop :=
 w'.cell? ⟨g,0,none⟩=some a∧w'.cell? ⟨g,1,none⟩=some b∧w'.cell? ⟨g,2,none⟩=some c∧w'.cell? ⟨g,3,none⟩=some d∧w'.cell? ⟨g,4,none⟩=some e∧w'.cell? ⟨g,5,none⟩=some f∧w'.cell? ⟨g,6,none⟩=some h ∧
 w'.cell? ⟨p,0,none⟩=some y0∧w'.cell? ⟨p,1,none⟩=some y1∧w'.cell? ⟨p,2,none⟩=some y2∧w'.cell? ⟨q,0,none⟩=some z0∧w'.cell? ⟨q,1,none⟩=some z1∧w'.cell? ⟨q,2,none⟩=some z2∧Below W0.heap.size W0 w'
theorem HeldL.bl{W0 wc:World} {g p q:Nat} {a b c d e f h y0 y1 y2 z0 z1 z2:Value} (k:HeldL W0 g p q a b c d e f h y0 y1 y2 z0 z1 z2 wc):Below W0.heap.size W0 wc:=k.2.2.2.2.2.2.2.2.2.2.2.2.2
theorem HeldL.below{W0 wc w2:World} {g p q:Nat} {a b c d e f h y0 y1 y2 z0 z1 z2:Value} (k:HeldL W0 g p q a b c d e f h y0 y1 y2 z0 z1 z2 wc) (hb:Below wc.heap.size wc w2) (hg:g<W0.heap.size) (hp:p<W0.heap.size) (hq:q<W0.heap.size):HeldL W0 g p q a b c d e f h y0 y1 y2 z0 z1 z2 w2:=by
 have hs:=k.bl.size
 have hB:=k.bl
 obtain⟨c0,c1,c2,c3,c4,c5,c6,d0,d1,d2,e0,e1,e2,-⟩:=k
 have m:∀b,b<W0.heap.size→∀i x,wc.cell? ⟨b,i,none⟩=some x→w2.cell? ⟨b,i,none⟩=some x:=fun b h1 i x hx=>(hb.cell (p:=⟨b,i,none⟩) (Nat.lt_of_lt_of_le h1 hs)).trans hx
 exact⟨m g hg _ _ c0,m g hg _ _ c1,m g hg _ _ c2,m g hg _ _ c3,m g hg _ _ c4,m g hg _ _ c5,m g hg _ _ c6,m p hp _ _ d0,m p hp _ _ d1,m p hp _ _ d2,m q hq _ _ e0,m q hq _ _ e1,m q hq _ _ e2,hB.trans (hb.mono hs)⟩
end Go.Proofs.YtmehadfhcdpfcaaGreat
