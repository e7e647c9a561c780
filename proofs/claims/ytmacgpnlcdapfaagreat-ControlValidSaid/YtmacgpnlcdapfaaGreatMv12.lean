/- awake, walked. -/
import Derived.BigQuiet
import Derived.Deep.QuietTactic
import Derived.Deep.MidRow
import Derived.Test.YtmacgpnlcdapfaaGreatMv11
import Derived.Test.YtmacgpnlcdapfaaGreatMv01
import Derived.ArgAppend
set_option linter.unusedSectionVars false
set_option maxRecDepth 100000
set_option maxHeartbeats 12800000
namespace Go.Proofs.YtmacgpnlcdapfaaGreat
open Go.RowKit
set_option linter.unusedVariables false
set_option linter.unusedSimpArgs false
theorem fvalidate_empty(w:World):Calls Tryz.prog 16 #[.agg #[.int .i64 0,.slice none 0 0,.slice none 0 0,.slice none 0 0,.slice none 0 0,.slice none 0 0,.slice none 0 0]] w fun e w'=>e=.returned (.int .i64 1)∧Below w.heap.size w w':=by
 have HI:=zh (fun w=>fin_any 0 1 4 w)
 rw[decide_eq_false (show ¬((1:Int)≤0∧(0:Int)≤4) by omega)] at HI
 go_enter Tryz.func16,Tryz.ntmps16
 go_wp2_with fail
 refine(HI.out _).mono ?_
 rintro e w1 ⟨rfl,rfl⟩
 go_wp2_with fail
 go_ret
 exact⟨rfl,(Below.refl _ _).alloc (Nat.le_refl _) _⟩
theorem read_nil(w:World):Calls Tryz.prog 18 #[.pointer none,.int .i64 0,.int .i64 0] w fun e w'=>e=.returned (.tuple #[.string ⟨#[]⟩,.int .i64 119])∧Below w.heap.size w w':=by
 go_enter Tryz.func18,Tryz.ntmps18
 go_wp2_with fail
 go_ret2
 exact⟨rfl,Below.refl _ _⟩
theorem write_nil(w:World):Calls Tryz.prog 20 #[.pointer none,.int .i64 0,.int .i64 0,.string ⟨#[]⟩] w fun e w'=>e=.returned (.int .i64 119)∧Below w.heap.size w w':=by
 go_enter Tryz.func20,Tryz.ntmps20
 go_wp2_with fail
 go_ret
 exact⟨rfl,((Below.refl _ _).alloc (Nat.le_refl _) _).alloc (by simp) _⟩
theorem start_nil(w:World):Calls Tryz.prog 19 #[.agg #[.int .i64 0,.slice none 0 0,.slice none 0 0,.slice none 0 0,.slice none 0 0,.slice none 0 0,.slice none 0 0,.slice none 0 0,.int .i64 0,.int .i64 0,.int .i64 0,.int .i64 0,.int .i64 0,.int .i64 0],.pointer none] w fun e w'=>e=.returned (.tuple #[.pointer none,.int .i64 1])∧Below w.heap.size w w':=by
 have HVD:=zh (fun w'=>valid_err 0 0 0 0 0 0 0 none none none none none none none 0 0 0 0 0 0 0 0 0 0 0 0 0 0 none w' (fun w'' _=>fvalidate_empty w''))
 go_enter Tryz.func19,Tryz.ntmps19
 go_wp2_with fail
 refine(HVD.out _).mono ?_
 rintro e w2 ⟨rfl,hb2⟩
 have HB2:=zh hb2
 clear hb2
 go_wp2_with fail
 go_ret2
 exact⟨rfl,below_box HB2.out⟩
theorem size_view:(Tryz.prog.info? 103).map (·.size)=some 23:=by kernel_rfl
theorem field_view(w:World):(Instr.field 103 (.agg #[.int .i64 0,.slice none 0 0,.slice none 0 0,.slice none 0 0,.slice none 0 0,.slice none 0 0,.slice none 0 0,.slice none 0 0,.int .i64 0,.int .i64 0,.int .i64 0,.slice none 0 0,.slice none 0 0,.bool true,.bool false,.bool false,.slice none 0 0,.slice none 0 0,.slice none 0 0,.slice none 0 0,.slice none 0 0,.slice none 0 0,.slice none 0 0]) 1).run Tryz.prog w=.ok (.bool true) w:=by kernel_rfl
theorem view_nil(w:World):Calls Tryz.prog 21 #[.pointer none] w fun e w'=>e=.returned (.agg #[.int .i64 0,.slice none 0 0,.slice none 0 0,.slice none 0 0,.slice none 0 0,.slice none 0 0,.slice none 0 0,.slice none 0 0,.int .i64 0,.int .i64 0,.int .i64 0,.slice none 0 0,.slice none 0 0,.bool true,.bool false,.bool false,.slice none 0 0,.slice none 0 0,.slice none 0 0,.slice none 0 0,.slice none 0 0,.slice none 0 0,.slice none 0 0])∧Below w.heap.size w w':=by
 obtain⟨W1,hW1⟩:=zx (w.alloc (.cells #[.int .i64 0,.slice none 0 0,.slice none 0 0,.slice none 0 0,.slice none 0 0,.slice none 0 0,.slice none 0 0,.slice none 0 0,.int .i64 0,.int .i64 0,.int .i64 0,.slice none 0 0,.slice none 0 0,.bool false,.bool false,.bool false,.slice none 0 0,.slice none 0 0,.slice none 0 0,.slice none 0 0,.slice none 0 0,.slice none 0 0,.slice none 0 0] 103))
 obtain⟨gV,hgV⟩:=zx w.heap.size
 have hb1:Below w.heap.size w W1:=by rw[hW1];exact(Below.refl _ _).alloc (Nat.le_refl _) _
 have hk:W1.heap[gV]?=some (.cells #[.int .i64 0,.slice none 0 0,.slice none 0 0,.slice none 0 0,.slice none 0 0,.slice none 0 0,.slice none 0 0,.slice none 0 0,.int .i64 0,.int .i64 0,.int .i64 0,.slice none 0 0,.slice none 0 0,.bool false,.bool false,.bool false,.slice none 0 0,.slice none 0 0,.slice none 0 0,.slice none 0 0,.slice none 0 0,.slice none 0 0,.slice none 0 0] 103 (0,0)):=by rw[hW1,hgV];exact heap_alloc_new _ _
 have HTH:=zh (show W1.there gV 0 23 from there_new hk (Nat.le_refl 23))
 have HW1:=zh hW1
 have HGV:=zh hgV
 obtain⟨W2,hW2⟩:=zx (W1.setCells gV 0 [.int .i64 0,.slice none 0 0,.slice none 0 0,.slice none 0 0,.slice none 0 0,.slice none 0 0,.slice none 0 0,.slice none 0 0,.int .i64 0,.int .i64 0,.int .i64 0,.slice none 0 0,.slice none 0 0,.bool true,.bool false,.bool false,.slice none 0 0,.slice none 0 0,.slice none 0 0,.slice none 0 0,.slice none 0 0,.slice none 0 0,.slice none 0 0])
 have hr2:W2.rangeAt gV 0 [.int .i64 0,.slice none 0 0,.slice none 0 0,.slice none 0 0,.slice none 0 0,.slice none 0 0,.slice none 0 0,.slice none 0 0,.int .i64 0,.int .i64 0,.int .i64 0,.slice none 0 0,.slice none 0 0,.bool true,.bool false,.bool false,.slice none 0 0,.slice none 0 0,.slice none 0 0,.slice none 0 0,.slice none 0 0,.slice none 0 0,.slice none 0 0]:=by rw[hW2];exact World.rangeAt_setCells_same _ _ _ _ HTH.out
 have hg2:=grow_setCells2 (gT:=0) (vs:=[.int .i64 0,.slice none 0 0,.slice none 0 0,.slice none 0 0,.slice none 0 0,.slice none 0 0,.slice none 0 0,.slice none 0 0,.int .i64 0,.int .i64 0,.int .i64 0,.slice none 0 0,.slice none 0 0,.bool true,.bool false,.bool false,.slice none 0 0,.slice none 0 0,.slice none 0 0,.slice none 0 0,.slice none 0 0,.slice none 0 0,.slice none 0 0]) (HotBy.below (hot:=[some 0]) hb1) (show gV≥w.heap.size by omega)
 have hb2:Below w.heap.size w W2:=by
  rw[hW2]
  refine⟨hg2.os,hg2.tape,hg2.output,hg2.size,fun b hb=>?_⟩
  rw[setCells_other2 _ _ _ _ (show b≠gV by omega)]
  exact hb1.block b hb
 have HR2:=zh hr2
 have HB2:=zh hb2
 have HW2:=zh hW2
 clear hW1 hgV hb1 hk hW2 hr2 hg2 hb2
 go_enter Tryz.func21,Tryz.ntmps21
 go_upto_region 2 with fail
 rw[←HW1.out,←HGV.out]
 refine wp_region_lit ?_
 refine wpList_plain rfl (fun K hK=>?_)
 go_simp
 refine hK _ _ ?_
 clear hK
 (try simp only[Act.put,z1,z2,z3])
 refine wpList_store_mid rfl 103 (.tmp 2) (.tmp 8) rfl gV 0 #[.int .i64 0,.slice none 0 0,.slice none 0 0,.slice none 0 0,.slice none 0 0,.slice none 0 0,.slice none 0 0,.slice none 0 0,.int .i64 0,.int .i64 0,.int .i64 0,.slice none 0 0,.slice none 0 0,.bool true,.bool false,.bool false,.slice none 0 0,.slice none 0 0,.slice none 0 0,.slice none 0 0,.slice none 0 0,.slice none 0 0,.slice none 0 0] (by rfl) (by rfl) HTH.out size_view (by simp[Value.oneCell']) ?_
 (try simp only[Act.put,z1,z2,z3])
 rw[show W1.setCells gV 0 [.int .i64 0,.slice none 0 0,.slice none 0 0,.slice none 0 0,.slice none 0 0,.slice none 0 0,.slice none 0 0,.slice none 0 0,.int .i64 0,.int .i64 0,.int .i64 0,.slice none 0 0,.slice none 0 0,.bool true,.bool false,.bool false,.slice none 0 0,.slice none 0 0,.slice none 0 0,.slice none 0 0,.slice none 0 0,.slice none 0 0,.slice none 0 0]=W2 from HW2.out.symm]
 go_wp2_with fail
 exact bodyPost_ret (v:=.agg #[.int .i64 0,.slice none 0 0,.slice none 0 0,.slice none 0 0,.slice none 0 0,.slice none 0 0,.slice none 0 0,.slice none 0 0,.int .i64 0,.int .i64 0,.int .i64 0,.slice none 0 0,.slice none 0 0,.bool true,.bool false,.bool false,.slice none 0 0,.slice none 0 0,.slice none 0 0,.slice none 0 0,.slice none 0 0,.slice none 0 0,.slice none 0 0]) (results_cell2 _ 103 2 _ _ _ ⟨gV,0,none⟩ Tryz.results21 (by rfl) (run_loadVar_mid (P:=Tryz.prog) W2 gV 0 103 _ _ HR2.out Tryz.underlying103 rfl size_view)) rfl ⟨rfl,HB2.out⟩
theorem awake40_any(w:World):Calls Tryz.prog 9 #[] w fun e w'=>e=.returned (.bool true)∧Below w.heap.size w w':=by
 have HFV:=zh field_view
 go_enter Tryz.func9,Tryz.ntmps9
 go_wp2_with fail
 refine(read_nil _).mono ?_
 rintro e w1 ⟨rfl,hb1⟩
 have HB1:=zh hb1
 clear hb1
 go_wp2_with fail
 refine(start_nil _).mono ?_
 rintro e w2 ⟨rfl,hb2⟩
 have HB2:=zh (HB1.out.trans (hb2.mono HB1.out.size))
 clear hb2
 go_wp2_with fail
 refine(write_nil _).mono ?_
 rintro e w3 ⟨rfl,hb3⟩
 have HB3:=zh (HB2.out.trans (hb3.mono HB2.out.size))
 clear hb3
 go_wp2_with fail
 refine(view_nil _).mono ?_
 rintro e w4 ⟨rfl,hb4⟩
 have HB4:=zh (HB3.out.trans (hb4.mono HB3.out.size))
 clear hb4
 have hfv:=field_view w4
 go_wp2_with fail
 go_ret
 exact⟨rfl,HB4.out⟩
section
variable {P : Program} {ops : Array Oper} {Q : Exit → Act → World → Prop} {a : Act} {w : World} {rest : List Oper} {o : Oper}
theorem wpList_gd(c:Bool) (v:Value) (g:Nat) (d:Nat) (hg:o.guard=some (g,true)) (hgd:(ops[g]?).bind (·.dst)=some d) (hd:a.tmps[d]?=some (.bool c))
  (hv:c=true→∀K:Act→World→Prop,K (a.put o.dst v) w→o.wp P a w K Q) (h:∀u,(c=true→u=v)→wpList P ops Q rest (a.put o.dst u) w):wpList P ops Q (o :: rest) a w:=by
 refine wpList_step fun K hK=>?_
 have hy:yielded ops a.tmps g=some c:=by
  unfold yielded
  rw[hgd]
  show(match a.tmps[d]? with | some (.bool b)=>some b | _=>none)=some c
  rw[hd]
 have hw:Region.wanted o (yielded ops a.tmps)=c:=by
  unfold Region.wanted
  rw[hg]
  show(yielded ops a.tmps g==some true)=c
  rw[hy]
  cases c <;> rfl
 rw[hw]
 cases c with
 | true=>rw[if_pos rfl];exact hv rfl K (hK _ _ (h v (fun _=>rfl)))
 | false=>rw[if_neg (by simp)];exact hK _ _ (h undef (fun h=>by simp at h))
theorem wpList_pk(c d:Bool) (u:Value) (t x:Operand) (hgd:o.guard=none) (ho:o.op=.pick t x (.const (.bool false))) (ht:a.eval t=.bool c) (hx:a.eval x=u) (hu:c=true→u=.bool d)
  (h:wpList P ops Q rest (a.put o.dst (.bool (c&&d))) w):wpList P ops Q (o :: rest) a w:=by
 refine wpList_plain hgd fun K hK=>?_
 have h2:=hK _ _ h
 unfold Oper.wp execOp
 simp only[ho,ht,asBool,Sem.run_bind,Sem.run_pure,Result.andThen_ok]
 cases c with
 | true=>rw[if_pos rfl,hx,hu rfl];exact h2
 | false=>rw[if_neg (by simp)];exact h2
end
def PtrO(w:World) (R:Nat→Prop) (cs:List Value) (o:Option Int):Prop:=∃p:Option Addr,cs=[.pointer p]∧(o=none→p=none)∧∀c,o=some c→∃g,p=some ⟨g,0,none⟩∧R g∧DrvB w g c
theorem valid_site(N:Nat) (hN:N≤12) (p1 p2 p3 p4 p5 p6:Int) (vl vm vd vv vp vo vs:Value) (F:FltM) (gS:Nat) (pA:Addr) (os:List (Option Int)) (RES:Bool) (w:World) (hf:FleetS w (Bl w.heap.size) vl vm vd vv vp vo F) (hok:FleetOk N F)
  (hs:SlS 1 PtrO w (Bl w.heap.size) vs os) (hol:os.length=F.dves.length) (hS0:w.cell? ⟨gS,0,none⟩=some vs) (hS1:w.cell? ⟨gS,1,none⟩=some (.pointer (some pA))) (hSl:gS<w.heap.size)
  (hR1:∀i,i<6→six p1 p2 p3 p4 p5 p6 i=false→RES=false) (hR2:∀(j:Nat) (d:DveM),F.dves[j]?=some d→os[j]?≠some (some (clmO F d))→RES=false) (hR3:(∀i,i<6→six p1 p2 p3 p4 p5 p6 i=true)→(∀(j:Nat) (d:DveM),F.dves[j]?=some d→os[j]?=some (some (clmO F d)))→RES=true) :
  Calls Tryz.prog 7 #[.agg #[.int .i64 F.ext,vl,vm,vd,vv,vp,vo,.slice none 0 0,.int .i64 p1,.int .i64 p2,.int .i64 p3,.int .i64 p4,.int .i64 p5,.int .i64 p6],.pointer (some ⟨gS,0,none⟩)] w fun e w'=>e=.returned (.bool RES)∧Below w.heap.size w w':=by
 have hV:∀w',Below w.heap.size w w'→Calls Tryz.prog 16 #[.agg #[.int .i64 F.ext,vl,vm,vd,vv,vp,vo]] w' fun e w''=>e=.returned (.int .i64 0)∧Below w'.heap.size w' w'':=fun w' hb=>fvalidate_any N hN vl vm vd vv vp vo F w' (hf.below hb) hok
 have hm2:F.models.length=2:=by obtain⟨a,b,c,e,-,-,-,-,hM⟩:=hok.models;rw[hM];rfl
 obtain⟨Al,nl,cl,hvl⟩:=hf.1.form3
 obtain⟨Am,cm,hvm,-,-⟩:=hf.2.1.form
 obtain⟨Ad,nd,cd,hvd⟩:=hf.2.2.1.form3
 obtain⟨Av,cv,hvv,-,-⟩:=hf.2.2.2.1.form
 obtain⟨Ap,np,cp,hvp⟩:=hf.2.2.2.2.1.form3
 obtain⟨Ao,no,co,hvo⟩:=hf.2.2.2.2.2.form3
 obtain⟨As,rc,hvs,-,-⟩:=hs.form
 rw[hm2] at hvm
 rw[hol] at hvs
 obtain⟨ND,hND⟩:=zx F.dves.length
 rw[←hND] at hvv hvs hol
 subst hvl hvm hvd hvv hvp hvo hvs
 have hMA:=fun(mi:Nat) (h:mi<2)=>hf.2.1.at_ (k:=mi) (by rw[hm2];exact h)
 have hVA:=fun(j:Nat) (h:j<ND)=>hf.2.2.2.1.at_ (k:=j) (by rw[←hND];exact h)
 have hSA:=fun(j:Nat) (h:j<ND)=>hs.at_ (k:=j) (by rw[hol];exact h)
 have hn1:1≤ND:=by have:=hok.dve1;omega
 obtain⟨mb,moff,-,hAm,hmR,-,-⟩:=hMA 0 (by omega)
 obtain⟨vb,voff,-,hAv,hvR,-,-⟩:=hVA 0 hn1
 obtain⟨rb,ro,-,hAs,hrR,-,-⟩:=hSA 0 hn1
 subst hAm hAv hAs
 have hCM:∀(mi:Nat) (m:ModM),F.models[mi]?=some m→w.cell? ⟨mb,moff+mi * 4+1,none⟩=some (.int .i64 m.ext):=fun mi m h=>by
  have hl:=(List.getElem?_eq_some_iff.1 h).1
  obtain⟨b,off,cs,e,-,-,hc,hcs⟩:=hMA mi (by rw[←hm2];exact hl)
  injection e with e
  injection e with e1 e2
  subst e1 e2
  rw[(List.getElem?_eq_some_iff.1 h).2] at hcs
  unfold ModK at hcs
  subst hcs
  exact hc 1 _ rfl
 have hCV:∀(j:Nat) (d:DveM),F.dves[j]?=some d→w.cell? ⟨vb,voff+j * 3+1,none⟩=some (.int .i64 d.model):=fun j d h=>by
  have hl:=(List.getElem?_eq_some_iff.1 h).1
  obtain⟨b,off,cs,e,-,-,hc,hcs⟩:=hVA j (by rw[hND];exact hl)
  injection e with e
  injection e with e1 e2
  subst e1 e2
  rw[(List.getElem?_eq_some_iff.1 h).2] at hcs
  unfold DveK at hcs
  subst hcs
  exact hc 1 _ rfl
 have hE:∀(j:Nat) (o:Option Int),os[j]?=some o→ElD w rb ro j o:=fun j o h=>by
  have hl:=(List.getElem?_eq_some_iff.1 h).1
  obtain⟨b,off,cs,e,-,-,hc,hcs⟩:=hSA j (by rw[←hol];exact hl)
  injection e with e
  injection e with e1 e2
  subst e1 e2
  rw[(List.getElem?_eq_some_iff.1 h).2] at hcs
  obtain⟨p,rfl,h0,h1⟩:=hcs
  refine⟨p,?_,h0,fun c hc=>?_⟩
  ·have:=hc 0 _ rfl
   rwa [Nat.mul_one,Nat.add_zero] at this
  ·obtain⟨g,e1,e2,e3⟩:=h1 c hc
   exact⟨g,e1,e2,e3⟩
 exact valid_ok _ _ _ _ _ _ _ _ _ _ _ _ _ _ _ _ _ _ _ _ _ _ _ _ _ _ _ _ _ _ _ gS ND pA F N os RES w hS0 hS1 hSl hok hND rfl hol hE hCM hCV hrR hvR hmR hR1 hR2 hR3 hV
def App1(w:World) (base:Nat) (rb ro ND:Nat) (v:Value) (cs:List Value):Prop:=w.ownsRow base 76 1 v (ND - 1) cs∧2≤ND∨ND=1∧v=.slice (some ⟨rb,ro,none⟩) 0 0∧cs=[]
theorem App1.below{w w':World} {base rb ro ND:Nat} {v:Value} {cs:List Value} (h:App1 w base rb ro ND v cs) (hb:Below w.heap.size w w'):App1 w' base rb ro ND v cs:=by
 rcases h with ⟨h,h2⟩ | h
 ·exact .inl ⟨own_below h hb,h2⟩
 ·exact .inr h
structure DrvRow (w:World) (R:Nat→Prop) (gR:Nat) (cs:List Value) (l:List Int):Prop where
 cells:∀j u,cs[j]?=some u→w.cell? ⟨gR,j,none⟩=some u
 len:cs.length=l.length
 lt:gR<w.heap.size
 els:∀(k:Nat) (c:Int),l[k]?=some c→∃g,cs[k]?=some (.pointer (some ⟨g,0,none⟩))∧R g∧DrvB w g c
theorem own_add(g j:Nat):(⟨g,0,none⟩:Addr).add j=⟨g,j,none⟩:=by unfold Addr.add;split <;> simp_all
theorem drv_row{w:World} {base:Nat} {v:Value} {l:List Int} (h:OwnK 1 PtrK w base 76 v l (Fz base w.heap.size v)) (hl:1≤l.length) :
  ∃gR rc cs,v=.slice (some ⟨gR,0,none⟩) l.length rc∧l.length≤rc∧DrvRow w (Bl w.heap.size) gR cs l:=by
 obtain⟨cs,h1,h2⟩:=h
 have hlt:=World.ownsRow.lt h1
 have hc:=fun g=>h1.cells (g:=g)
 have hlen:=h1.1
 rcases h1.2 with ⟨rfl,h0⟩ | ⟨g,cap,cur,rfl,_,_,h4,h3,_⟩
 ·omega
 ·refine⟨g,cap,cs,rfl,h4,⟨fun j u hu=>?_,by omega,(hlt g rfl).2,fun k c hk=>?_⟩⟩
  ·have:=hc g rfl _ _ hu
   rwa [own_add] at this
  ·obtain⟨x,g1,g2,g3⟩:=h2 k c hk
   obtain⟨q,rfl,hq,hd⟩:=g3
   refine⟨q,?_,hq.2.1,hd⟩
   have:=g2 0 _ rfl
   rwa [Nat.mul_one,Nat.add_zero] at this
theorem DrvRow.below{w w':World} {gR:Nat} {cs:List Value} {l:List Int} (h:DrvRow w (Bl w.heap.size) gR cs l) (hb:Below w.heap.size w w'):DrvRow w' (Bl w'.heap.size) gR cs l :=
 ⟨fun j u hu=>(hb.cell (p:=⟨gR,j,none⟩) h.lt).trans (h.cells j u hu),h.len,Nat.lt_of_lt_of_le h.lt hb.size,fun k c hk=>by
  obtain⟨g,e1,e2,e3⟩:=h.els k c hk
  exact⟨g,e1,Nat.lt_of_lt_of_le e2 hb.size,e3.keep (hb.block g e2)⟩⟩
theorem DrvRow.hot{w w':World} {gT gR:Nat} {cs:List Value} {l:List Int} (h:DrvRow w (Bl w.heap.size) gR cs l) (hh:HotBy [some gT] w w') (hT:∃v1 v2 T,w.heap[gT]?=some (.cells #[v1,v2] T (0,0))) (hne:gR≠gT):DrvRow w' (Bl w'.heap.size) gR cs l :=
 ⟨fun j u hu=>(World.cell?_of_block (w:=w) (a:=⟨gR,j,none⟩) (hh.block gR h.lt (fun e=>by simp at e;exact hne e))).trans (h.cells j u hu),h.len,Nat.lt_of_lt_of_le h.lt hh.size,fun k c hk=>by
  obtain⟨g,e1,e2,e3⟩:=h.els k c hk
  refine⟨g,e1,Nat.lt_of_lt_of_le e2 hh.size,e3.keep (hh.block g e2 (fun e=>?_))⟩
  simp at e
  subst e
  obtain⟨v1,v2,T,h1⟩:=hT
  obtain⟨u1,u2,u3,u4,u5,h2⟩:=e3
  rw[h1] at h2
  injection h2 with h2
  injection h2 with h2 h3
  have:=congrArg Array.size h2
  simp at this⟩
theorem DrvRow.sl{w:World} {gR rc:Nat} {cs:List Value} {l:List Int} (h:DrvRow w (Bl w.heap.size) gR cs l) (hrc:l.length≤rc) (hm:l.length≤maxLen):SlS 1 PtrO w (Bl w.heap.size) (.slice (some ⟨gR,0,none⟩) l.length rc) (l.map some):=by
 unfold SlS
 rw[List.length_map]
 refine⟨_,rc,rfl,hrc,hm,fun _=>⟨gR,0,rfl,h.lt,fun k a ha=>?_⟩⟩
 rw[List.getElem?_map] at ha
 cases hk:l[k]? with
 | none=>rw[hk] at ha;simp at ha
 | some c =>
  rw[hk] at ha
  simp at ha
  subst ha
  obtain⟨g,e1,e2,e3⟩:=h.els k c hk
  refine⟨[.pointer (some ⟨g,0,none⟩)],rfl,fun i u hu=>?_,_,rfl,fun h=>(by simp at h),fun x hx=>⟨g,rfl,e2,by injection hx with hx;subst hx;exact e3⟩⟩
  cases i with
  | zero =>
   simp at hu
   subst hu
   have:=h.cells k _ e1
   rwa [show 0+k * 1+0=k by omega]
  | succ n=>simp at hu
theorem hole_sl{w:World} {base ND gR:Nat} {v:Value} {cs:List Value} {l:List Int} (h:DrvRow w (Bl w.heap.size) gR cs l) (hl:l.length=ND) (hn:1≤ND) (hm:ND≤maxLen) (ho:w.ownsRow base 76 1 v ND (cs.drop 1++[.pointer none])):SlS 1 PtrO w (Bl w.heap.size) v ((l.drop 1).map some++[none]):=by
 have hll:((l.drop 1).map some++[none]).length=ND:=by simp;omega
 have hlt:=World.ownsRow.lt ho
 have hc:=fun g=>ho.cells (g:=g)
 have hcl:(cs.drop 1).length=ND - 1:=by rw[List.length_drop,h.len,hl]
 unfold SlS
 rw[hll]
 rcases ho.2 with ⟨rfl,h0⟩ | ⟨g,cap,cur,rfl,_,_,h4,h3,_⟩
 ·omega
 ·refine⟨_,cap,rfl,h4,hm,fun _=>⟨g,0,rfl,(hlt g rfl).2,fun k a ha=>?_⟩⟩
  have hat:∀u,(cs.drop 1++[Value.pointer none])[k]?=some u→∀i x,[u][i]?=some x→w.cell? ⟨g,0+k * 1+i,none⟩=some x:=fun u hu i x hx=>by
   cases i with
   | zero =>
    simp at hx
    subst hx
    have:=hc g rfl _ _ hu
    rw[own_add] at this
    rwa [show 0+k * 1+0=k by omega]
   | succ n=>simp at hx
  rcases Nat.lt_or_ge k (ND - 1) with hk | hk
  ·have hlk:((l.drop 1).map some).length=ND - 1:=by simp;omega
   rw[List.getElem?_append_left (by rw[hlk];exact hk),List.getElem?_map,List.getElem?_drop] at ha
   cases hc2:l[1+k]? with
   | none=>rw[hc2] at ha;simp at ha
   | some c =>
    rw[hc2] at ha
    simp at ha
    subst ha
    obtain⟨q,e1,e2,e3⟩:=h.els (1+k) c hc2
    refine⟨[.pointer (some ⟨q,0,none⟩)],rfl,hat _ ?_,_,rfl,fun h=>(by simp at h),fun x hx=>⟨q,rfl,e2,by injection hx with hx;subst hx;exact e3⟩⟩
    rw[List.getElem?_append_left (by rw[hcl];exact hk),List.getElem?_drop]
    exact e1
  ·have hkl:=(List.getElem?_eq_some_iff.1 ha).1
   have hk2:k=ND - 1:=by rw[hll] at hkl;omega
   have hlk:((l.drop 1).map some).length=ND - 1:=by simp;omega
   rw[List.getElem?_append_right (by rw[hlk];omega),hlk,hk2,Nat.sub_self] at ha
   simp at ha
   subst ha
   refine⟨[.pointer none],rfl,hat _ ?_,none,rfl,fun _=>rfl,fun c hc=>(by simp at hc)⟩
   rw[List.getElem?_append_right (by rw[hcl];omega),hcl,hk2,Nat.sub_self]
   rfl
def sixB(p1 p2 p3 p4 p5 p6:Int):Bool:=decide (0≤p1)&&decide (p1≤20)&&decide (1≤p2)&&decide (p2≤20)&&decide (1≤p3)&&decide (p3≤48)&&decide (0≤p4)&&decide (p4≤4)&&decide (1≤p5)&&decide (p5≤20)&&decide (0≤p6)&&decide (p6≤20)
theorem sixB_iff(p1 p2 p3 p4 p5 p6:Int):sixB p1 p2 p3 p4 p5 p6=true↔∀i,i<6→six p1 p2 p3 p4 p5 p6 i=true:=by
 unfold sixB
 simp only[Bool.and_eq_true,decide_eq_true_eq]
 constructor
 ·intro h i hi
  rcases (show i=0∨i=1∨i=2∨i=3∨i=4∨i=5 by omega) with rfl | rfl | rfl | rfl | rfl | rfl <;> exact decide_eq_true (by omega)
 ·intro h
  have h0:=of_decide_eq_true (h 0 (by omega))
  have h1:=of_decide_eq_true (h 1 (by omega))
  have h2:=of_decide_eq_true (h 2 (by omega))
  have h3:=of_decide_eq_true (h 3 (by omega))
  have h4:=of_decide_eq_true (h 4 (by omega))
  have h5:=of_decide_eq_true (h 5 (by omega))
  omega
theorem clms_at{F:FltM} {j:Nat} {d:DveM} (h:F.dves[j]?=some d):((clms F).map some)[j]?=some (some (clmO F d)):=by
 unfold clms
 rw[List.getElem?_map,List.getElem?_map,h]
 rfl
theorem valid_full(N:Nat) (hN:N≤12) (p1 p2 p3 p4 p5 p6:Int) (vl vm vd vv vp vo:Value) (F:FltM) (gS gR rc:Nat) (pA:Addr) (cs:List Value) (w:World) (hf:FleetS w (Bl w.heap.size) vl vm vd vv vp vo F) (hok:FleetOk N F)
  (hr:DrvRow w (Bl w.heap.size) gR cs (clms F)) (hrc:F.dves.length≤rc) (hS0:w.cell? ⟨gS,0,none⟩=some (.slice (some ⟨gR,0,none⟩) F.dves.length rc)) (hS1:w.cell? ⟨gS,1,none⟩=some (.pointer (some pA))) (hSl:gS<w.heap.size) :
  Calls Tryz.prog 7 #[.agg #[.int .i64 F.ext,vl,vm,vd,vv,vp,vo,.slice none 0 0,.int .i64 p1,.int .i64 p2,.int .i64 p3,.int .i64 p4,.int .i64 p5,.int .i64 p6],.pointer (some ⟨gS,0,none⟩)] w fun e w'=>e=.returned (.bool (sixB p1 p2 p3 p4 p5 p6))∧Below w.heap.size w w':=by
 have hl:(clms F).length=F.dves.length:=by unfold clms;rw[List.length_map]
 have hsl:=hr.sl (rc:=rc) (by rw[hl];exact hrc) (by rw[hl];have:=hok.dveN;unfold maxLen;omega)
 rw[hl] at hsl
 refine valid_site N hN p1 p2 p3 p4 p5 p6 vl vm vd vv vp vo _ F gS pA ((clms F).map some) _ w hf hok hsl (by rw[List.length_map,hl]) hS0 hS1 hSl (fun i hi h=>?_) (fun j d hd h=>absurd (clms_at hd) h) (fun h _=>(sixB_iff _ _ _ _ _ _).2 h)
 rw[Bool.eq_false_iff]
 intro hc
 have:=(sixB_iff _ _ _ _ _ _).1 hc i hi
 rw[h] at this
 simp at this
theorem valid_hole(N:Nat) (hN:N≤12) (p1 p2 p3 p4 p5 p6:Int) (vl vm vd vv vp vo v:Value) (F:FltM) (gS gR base:Nat) (pA:Addr) (cs:List Value) (w:World) (hf:FleetS w (Bl w.heap.size) vl vm vd vv vp vo F) (hok:FleetOk N F)
  (hr:DrvRow w (Bl w.heap.size) gR cs (clms F)) (ho:w.ownsRow base 76 1 v F.dves.length (cs.drop 1++[.pointer none])) (hS0:w.cell? ⟨gS,0,none⟩=some v) (hS1:w.cell? ⟨gS,1,none⟩=some (.pointer (some pA))) (hSl:gS<w.heap.size) :
  Calls Tryz.prog 7 #[.agg #[.int .i64 F.ext,vl,vm,vd,vv,vp,vo,.slice none 0 0,.int .i64 p1,.int .i64 p2,.int .i64 p3,.int .i64 p4,.int .i64 p5,.int .i64 p6],.pointer (some ⟨gS,0,none⟩)] w fun e w'=>e=.returned (.bool false)∧Below w.heap.size w w':=by
 have hl:(clms F).length=F.dves.length:=by unfold clms;rw[List.length_map]
 have hn:=hok.dve1
 have hsl:=hole_sl hr hl hn (by have:=hok.dveN;unfold maxLen;omega) ho
 have hll:(((clms F).drop 1).map some++[none]).length=F.dves.length:=by simp[hl];omega
 refine valid_site N hN p1 p2 p3 p4 p5 p6 vl vm vd vv vp vo v F gS pA _ false w hf hok hsl hll hS0 hS1 hSl (fun _ _ _=>rfl) (fun _ _ _ _=>rfl) (fun _ h=>?_)
 have h1:=h (F.dves.length - 1) _ (List.getElem?_eq_getElem (by omega))
 rw[List.getElem?_append_right (by simp[hl])] at h1
 simp[hl] at h1
theorem App1.base{w:World} {base B' rb ro ND:Nat} {v:Value} {cs:List Value} (h:App1 w base rb ro ND v cs) (hb:B'≤base):App1 w B' rb ro ND v cs:=by
 rcases h with ⟨h,h2⟩ | h
 ·exact .inl ⟨own_base h hb,h2⟩
 ·exact .inr h
theorem own_formD{w:World} {base:Nat} {t:TypeId} {n:Nat} {v:Value} {cs:List Value} (h:w.ownsRow base t 1 v n cs):∃A c,v=.slice A n c:=by
 rcases h.2 with ⟨rfl,h0⟩ | ⟨g,cap,cur,rfl,_⟩
 ·exact⟨none,0,by rw[h0]⟩
 ·exact⟨_,_,rfl⟩
theorem run_first(w:World) (ty:TypeId) (rb ro rc ND:Nat) (cs:List Value) (hn:1≤ND) (h9:ND≤9) (hl:cs.length=ND - 1) (ad:Addr) (hc:∀j u,cs[j]?=some u→w.cell? (ad.add j)=some u) :
  ∃v' w',(Builtin.append_ #[44,44] ty #[.slice (some ⟨rb,ro,none⟩) 0 0,.slice (some ad) (ND - 1) rc]).run Tryz.prog w=.ok v' w'∧App1 w' w.heap.size rb ro ND v' cs∧Below w.heap.size w w':=by
 obtain⟨i0,hi0,hz0,hz1,hz2⟩:=info_parts info_ptr
 by_cases h2:ND=1
 ·subst h2
  have hcs:cs=[]:=List.length_eq_zero_iff.1 hl
  subst hcs
  have hr:=run_append_room_cells (P:=Tryz.prog) w _ ty _ i0 Tryz.underlying44 hi0 rb ro 0 0 ad 0 rc [] (by simp) (by simp) (by simp) (by simp) (by simp) (by simp)
  exact⟨_,_,hr,.inr ⟨rfl,rfl,rfl⟩,Below.refl _ _⟩
 ·obtain⟨v',w',hr,ho',hg'⟩:=run_append_arg_grows (P:=Tryz.prog) w 44 ty _ i0 _ 1 8 Tryz.underlying44 hi0 hz0 hz1 hz2 rfl (by omega) ⟨rb,ro,none⟩ 0 0 [] (by simp) (by simp) ad (ND - 1) rc cs (by omega) hc (by omega) (by unfold maxLen;omega) (by omega)
  exact⟨v',w',hr,.inl ⟨by simpa using ho',by omega⟩,(Below.refl _ _).grown hg' (Nat.le_refl _) (by simp)⟩
theorem run_second(w:World) (ty:TypeId) (base rb ro ND g:Nat) (v:Value) (cs:List Value) (hA:App1 w base rb ro ND v cs) (hb:base≤w.heap.size) (h9:ND≤9) (hg:w.cell? ⟨g,0,none⟩=some (.pointer none)) :
  ∃v' w',(Builtin.append_ #[44,44] ty #[v,.slice (some ⟨g,0,none⟩) 1 1]).run Tryz.prog w=.ok v' w'∧w'.ownsRow base 76 1 v' ND (cs++[.pointer none])∧Below base w w':=by
 obtain⟨i0,hi0,hz0,hz1,hz2⟩:=info_parts info_ptr
 have hnews:∀j u,[Value.pointer none][j]?=some u→w.cell? ((⟨g,0,none⟩:Addr).add j)=some u:=fun j u hu=>by
  cases j with
  | zero=>simp at hu;subst hu;simpa[Addr.add] using hg
  | succ n=>simp at hu
 rcases hA with ⟨hA,h2⟩ | ⟨h1,hv,hcs⟩
 ·obtain⟨v',w',hr,ho',hg',-,-⟩:=run_append_own_at (P:=Tryz.prog) w base 44 ty _ i0 _ 1 8 Tryz.underlying44 hi0 hz0 hz1 hz2 rfl (by omega) v (ND - 1) cs hA ⟨g,0,none⟩ 1 1 [.pointer none] (by simp) hnews (by simp[Value.oneCell']) (by unfold maxLen;omega) (by omega) hb
  exact⟨v',w',hr,by rwa [Nat.sub_add_cancel (by omega)] at ho',(Below.refl _ _).grown hg' hb (fun k hk=>(World.ownsRow.lt hA k hk).1)⟩
 ·subst h1 hv hcs
  obtain⟨v',w',hr,ho',hg'⟩:=run_append_arg_grows (P:=Tryz.prog) w 44 ty _ i0 _ 1 8 Tryz.underlying44 hi0 hz0 hz1 hz2 rfl (by omega) ⟨rb,ro,none⟩ 0 0 [] (by simp) (by simp) ⟨g,0,none⟩ 1 1 [.pointer none] (by simp) hnews (by omega) (by simp[maxLen]) (by omega)
  exact⟨v',w',hr,own_base (by simpa using ho') hb,(Below.refl _ _).grown hg' hb (by simp)⟩
theorem wp_app{o:Oper} {a:Act} {w:World} {K:Act→World→Prop} {Q:Exit→Act→World→Prop} (s x:Operand) (ho:o.op=.call { callee:=.builtin .append,args:=#[s,x],argTypes:=#[44,44] }) (sv xv v':Value) (w':World) (hs:a.eval s=sv) (hx:a.eval x=xv)
  (hr:(Builtin.append_ #[44,44] o.type #[sv,xv]).run Tryz.prog w=.ok v' w') (h:K (a.put o.dst v') w'):o.wp Tryz.prog a w K Q:=by
 unfold Oper.wp execOp
 simp only[ho,resolve,invoke,builtin,Sem.run_bind,Sem.run_pure,Result.andThen_ok,List.map_toArray,List.map_cons,List.map_nil,hs,hx,hr]
 exact h
end Go.Proofs.YtmacgpnlcdapfaaGreat
