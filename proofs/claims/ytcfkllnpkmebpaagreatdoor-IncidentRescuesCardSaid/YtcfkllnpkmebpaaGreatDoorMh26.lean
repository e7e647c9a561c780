/- The reference's with, walked. -/
import Derived.Deep.AppendLies
import Derived.Test.YtcfkllnpkmebpaaGreatDoorMh01
import Derived.Test.YtcfkllnpkmebpaaGreatDoorMh15
import Derived.Test.YtcfkllnpkmebpaaGreatDoorMh24
set_option maxRecDepth 100000
set_option maxHeartbeats 12800000
namespace Go.Proofs.YtcfkllnpkmebpaaGreatDoor
open Go.RowKit
set_option linter.unusedVariables false
set_option linter.unusedSimpArgs false
theorem below_hotW{a b c:World} {hot:List (Option Nat)} (h:Below a.heap.size a b) (k:HotBy hot b c) (hn:∀x,some x∈hot→a.heap.size≤x):Below a.heap.size a c :=
 ⟨k.os.trans h.os,k.tape.trans h.tape,k.output.trans h.output,Nat.le_trans h.size k.size,fun x hx=>(k.block x (Nat.lt_of_lt_of_le hx h.size) (fun e=>by have:=hn x e;omega)).trans (h.block x hx)⟩
structure WthT (W0:World) (gX:Nat) (vp va:Value) (w:World) (vo:Value) (on:List Bool):Prop where
 hot:Below W0.heap.size W0 w
 rea:w.heap[gX]?=some (.cells #[vp,vo,va] 40 (0,0))
 ons:w.ownsRow W0.heap.size 4 1 vo on.length (on.map Value.bool)
 ge:W0.heap.size≤gX
section
variable {W0 w w' : World} {gX : Nat} {vp va vo : Value} {on : List Bool}
theorem WthT.lt(h:WthT W0 gX vp va w vo on):gX<w.heap.size:=(Array.getElem?_eq_some_iff.1 h.rea).1
theorem WthT.cells(h:WthT W0 gX vp va w vo on):w.cell? ⟨gX,0,none⟩=some vp∧w.cell? ⟨gX,1,none⟩=some vo∧w.cell? ⟨gX,2,none⟩=some va∧(∀i,w.frozen? ⟨gX,i,none⟩=false)∧gX<w.heap.size :=
 ⟨by rw[cell_of_row _ _ _ _ _ _ h.rea];rfl,by rw[cell_of_row _ _ _ _ _ _ h.rea];rfl,by rw[cell_of_row _ _ _ _ _ _ h.rea];rfl,fun i=>frozen_of_row _ _ _ _ _ h.rea,h.lt⟩
theorem WthT.grown(h:WthT W0 gX vp va w vo on) (hg:w.grownBy w' vo.ownBlock):Below W0.heap.size W0 w'∧w'.heap[gX]?=some (.cells #[vp,vo,va] 40 (0,0)) :=
 ⟨below_hotW h.hot (HotBy.grown (hot:=[vo.ownBlock]) hg (.inl (by simp))) (fun x hx=>(h.ons.lt x (by simp at hx;exact hx.symm)).1),
  (hg.block gX h.lt (fun e=>own_nty h.ons h.rea (by decide) e.symm)).trans h.rea⟩
theorem WthT.push{vo':Value} {x:Bool} (h:WthT W0 gX vp va w vo on) (hg:w.grownBy w' vo.ownBlock) (hown:w'.ownsRow W0.heap.size 4 1 vo' (on.length+1) (on.map Value.bool++[.bool x])):WthT W0 gX vp va (w'.setCell ⟨gX,1,none⟩ vo') vo' (on++[x]):=by
 obtain⟨h1,h2⟩:=h.grown hg
 have hh:HotBy [some gX] w' (w'.setCell ⟨gX,1,none⟩ vo'):=HotBy.setCell _ _ _ _ (by simp)
 refine⟨below_hotW h1 hh (fun x hx=>by simp at hx;rw[hx];exact h.ge),heap_setCell_same _ gX 1 _ _ vo' h2,?_,h.ge⟩
 rw[List.length_append,List.map_append]
 exact own_hot hown hh (fun b hb e=>by simp at e;subst e;exact own_nty hown h2 (by decide) hb)
theorem wth_start(va':Value) (hg:gX=W0.heap.size) :
  WthT W0 gX vp va' (W0.alloc (.cells #[vp,.slice none 0 0,va'] 40)) (.slice none 0 0) [] :=
 ⟨(Below.refl W0.heap.size W0).alloc (Nat.le_refl _) _,by rw[hg];exact heap_alloc_new W0 _,World.ownsRow_nil _ _ _ _,by omega⟩
theorem own_bools{w:World} {B:Nat} {v:Value} {R:Nat→Prop} {on:List Bool} (h:w.ownsRow B 4 1 v on.length (on.map Value.bool)) (hR:∀b,v.ownBlock=some b→R b):SlS 1 BoolK w R v on:=by
 refine OwnK.slS (R:=R) boolK ⟨on.map Value.bool,h,fun j s hs=>⟨[.bool s],rfl,fun i u hu=>?_,rfl⟩⟩ (fun _ h=>h) hR
 have hi:i=0:=by have:=(List.getElem?_eq_some_iff.1 hu).1;simp at this;exact this
 subst hi
 simp at hu
 rw[Nat.mul_one,Nat.add_zero,List.getElem?_map,hs,←hu];rfl
end
theorem app_b{ops:Array Oper} {rest:List Oper} {o:Oper} {a:Act} {Q:Exit→Act→World→Prop} {w:World} (x0:Bool) (s x:Operand) (hgd:o.guard=none) (ho:o.op=.call { callee:=.builtin .append,args:=#[s,x],argTypes:=#[37,37] })
  (base:Nat) (v:Value) (n:Nat) (xs:List Bool) (hl:xs.length=n) (hs:a.eval s=v) (hown:w.ownsRow base 4 1 v n (xs.map Value.bool))
  (hx:a.eval x=.slice (some ⟨w.heap.size,0,none⟩) 1 1) (hn:n+1≤16777216) (hbase:base≤w.heap.size)
  (h:∀v' w',w'.ownsRow base 4 1 v' (n+1) (xs.map Value.bool++[.bool x0])→w.grownBy w' v.ownBlock→(v'.ownBlock=v.ownBlock∨v'.ownBlock=some (w.heap.size+1))→wpList Tryz.prog ops Q rest (a.put o.dst v') w') :
  wpList Tryz.prog ops Q (o :: rest) a (w.alloc (.cells #[.bool x0] 4)):=by
 obtain⟨i0,hi0,hz0,hz1,hz2⟩:=info_parts info_bool
 exact wpList_append1 hgd s x _ ho base i0 _ 1 1 Tryz.underlying37 hi0 hz0 hz1 hz2 rfl (by omega) (by omega) v n _ hs hown hx rfl (by simp;rfl) hn hbase h
theorem with_any(vp vo va vs:Value) (r:Re) (set:List Nat) (w:World) (h:ReS w (Bl w.heap.size) vp vo va r) (hs:IntS w (Bl w.heap.size) vs (set.map (fun x:Nat=>(x:Int)))) (hp:r.plat.length≤1000) :
  Calls Tryz.prog 66 #[.agg #[vp,vo,va],vs] w fun e w'=>∃vo',e=.returned (.agg #[vp,vo',va])∧ReS w' (Bl w'.heap.size) vp vo' va ⟨r.plat,(List.range r.plat.length).map (fun d=>onB r d||decide (d∈set)),r.acks⟩∧Below w.heap.size w w':=by
 obtain⟨Ap,cp,rfl,-,hmp⟩:=h.1.form
 obtain⟨Ao,co,rfl,-,hmo⟩:=h.2.1.form
 obtain⟨Aa,ca,rfl,-,hma⟩:=h.2.2.form
 obtain⟨As,cs,rfl,-,hms⟩:=hs.form7
 rw[List.length_map] at hs hms ⊢
 unfold maxLen at hmo hms
 have HR:=zh h
 have HS:=zh hs
 obtain⟨NP,hNP⟩:=zx r.plat.length
 obtain⟨NO,hNO⟩:=zx r.on.length
 obtain⟨NA,hNA⟩:=zx r.acks.length
 obtain⟨L,hL⟩:=zx set.length
 rw[←hNP] at HR hp hmp ⊢
 rw[←hNO] at HR hmo ⊢
 rw[←hNA] at HR hma ⊢
 rw[←hL] at HS hms ⊢
 obtain⟨W0,hW0⟩:=zx ((w.alloc (.cells #[.slice Ap NP cp,.slice Ao NO co,.slice Aa NA ca] 40)).alloc (.cells #[.slice none 0 0,.slice none 0 0,.slice none 0 0] 40))
 obtain⟨y,hy⟩:=zx w.heap.size
 obtain⟨gO,hgO⟩:=zx (w.heap.size+1)
 obtain⟨gX,hgX⟩:=zx W0.heap.size
 have hb0:Below w.heap.size w W0:=by rw[hW0];exact((Below.refl _ _).alloc (Nat.le_refl _) _).alloc (by simp) _
 have hyk:W0.heap[y]?=some (.cells #[.slice Ap NP cp,.slice Ao NO co,.slice Aa NA ca] 40 (0,0)):=by
  rw[hW0,hy];exact(Below.heap_alloc _ _ _ (by simp)).trans (heap_alloc_new w _)
 have hok:W0.heap[gO]?=some (.cells #[.slice none 0 0,.slice none 0 0,.slice none 0 0] 40 (0,0)):=by
  rw[hW0];exact heap_alloc_at _ _ _ (by rw[hgO];simp)
 have hyl:y<W0.heap.size:=(Array.getElem?_eq_some_iff.1 hyk).1
 have hol:gO<W0.heap.size:=(Array.getElem?_eq_some_iff.1 hok).1
 have HS1:=zh (fun(w':World) (hb:Below W0.heap.size W0 w')=>(show w'.cell? ⟨y,0,none⟩=some (.slice Ap NP cp)∧w'.cell? ⟨y,1,none⟩=some (.slice Ao NO co)∧w'.cell? ⟨y,2,none⟩=some (.slice Aa NA ca)∧Below W0.heap.size W0 w' from by
  obtain⟨c0,c1,c2,-⟩:=cells3 ((hb.block y hyl).trans hyk)
  exact⟨c0,c1,c2,hb⟩))
 have HOK:=zh (fun(w':World) (hb:Below W0.heap.size W0 w')=>(hb.block gO hol).trans hok)
 have HW0:=zh hW0
 have HY:=zh (And.intro hy hgO)
 have HGX:=zh hgX
 have HB0:=zh hb0
 have HNP:=zh hNP
 have HNO:=zh hNO
 have HNA:=zh hNA
 have HL:=zh hL
 have HSM:=zh hp
 obtain⟨i0,hi0,hz0,hz1,hz2⟩:=info_parts info_bool
 clear h hs hmp hma hNP hNO hNA hL hW0 hy hgO hgX hb0 hyk hok hyl hol
 go_enter Tryz.func66,Tryz.ntmps66
 go_upto_region 1 with fail
 rw[←HW0.out,←HY.out.2,←HY.out.1]
 obtain⟨s0,s1,s2,-⟩:=HS1.out W0 (Below.refl _ _)
 have HWT:=zh (wth_start (W0:=W0) (vp:=.slice Ap NP cp) (.slice Aa NA ca) HGX.out)
 go_wp2_with fail
 rw[←HGX.out]
 clear s0 s1 s2
 go_loopg [6] NP (fun z v6 wr=>∃(d:Nat) (vo':Value) (on:List Bool),v6=.int .i64 (d:Int)∧d≤NP∧z=NP - d∧Hid (WthT W0 gX (.slice Ap NP cp) (.slice Aa NA ca) wr vo' on)∧Hid (on=(List.range d).map (fun d=>onB r d||decide (d∈set))))
 case atStart=>exact⟨0,_,[],rfl,Nat.zero_le _,rfl,HWT,zh rfl⟩
 case round =>
  clear HWT
  obtain⟨d,vo',on,rfl,hd,rfl,HM,HON⟩:=hrel
  obtain⟨s0,s1,s2,-⟩:=HS1.out wr HM.out.hot
  by_cases hlt:d<NP
  ·have HLT:=zh hlt
   have HLN:=zh (show on.length=d by rw[HON.out,List.length_map,List.length_range])
   obtain⟨ob,hob⟩:=zx (onB r d)
   have HOB:=zh hob
   have hcut:∀(Q:Prop),(d<NO→(∃b off,Ao=some ⟨b,off,none⟩∧wr.cell? ⟨b,off+d,none⟩=some (.bool ob))→Q)→(¬d<NO→ob=false→Q)→Q:=fun Q h1 h2=>by
    by_cases ho:d<NO
    ·have hol:d<r.on.length:=by rw[←HNO.out];exact ho
     obtain⟨b,off,cs,hA,hR,-,hc,hk⟩:=HR.out.2.1.at_ hol
     have hk':cs=[.bool r.on[d]]:=hk
     have hcell:=hc 0 (.bool r.on[d]) (by rw[hk'];rfl)
     simp only[Nat.mul_one,Nat.add_zero] at hcell
     have hE:onB r d=r.on[d]:=getD_lt _ _ hol
     refine h1 ho ⟨b,off,hA,?_⟩
     rw[hob,hE]
     exact((HB0.out.trans (HM.out.hot.mono HB0.out.size)).cell (p:=⟨b,off+d,none⟩) hR).trans hcell
    ·refine h2 ho ?_
     rw[hob];unfold onB;rw[List.getD,List.getElem?_eq_none (by rw[←HNO.out];omega)];rfl
   have HCUT:=zh hcut
   clear hob hcut
   go_upto_region 5 with fail
   go_cut [7] from 21 to 32 (fun v7 wc=>v7=.bool ob∧wr=wc)
   case first =>
    refine HCUT.out _ (fun ho hc=>?_) (fun ho hc=>?_)
    ·obtain⟨b,off,rfl,hc⟩:=hc
     go_wp2_with fail
     go_meet
     exact⟨rfl,rfl⟩
    ·subst hc
     go_wp2_with fail
     go_meet
     exact⟨rfl,rfl⟩
   case rest =>
    obtain⟨rfl,rfl⟩:=hcut
    clear HCUT s0 s1 s2
    go_wp2_with fail
    go_loopg [7,8] L (fun z v7 v8 wi=>wr=wi∧∃(j:Nat) (b:Bool),v8=.int .i64 (j:Int)∧j≤L∧z=L - j∧v7=.bool b∧Hid (b=(ob||decide (d∈set.take j))))
    case atStart=>exact⟨rfl,0,ob,rfl,Nat.zero_le _,rfl,rfl,zh (by simp)⟩
    case round =>
     obtain⟨rfl,j,b,rfl,hj,rfl,rfl,HBE⟩:=hrel
     by_cases hlj:j<L
     ·have hjs:j<set.length:=by rw[←HL.out];exact hlj
      obtain⟨sb,so,hA,hR,hc,-⟩:=HS.out.at7 (k:=j) (by rw[List.length_map];exact hjs)
      subst hA
      rw[List.getElem_map] at hc
      have e0:=((HB0.out.trans (HM.out.hot.mono HB0.out.size)).cell (p:=⟨sb,so+j,none⟩) hR).trans hc
      obtain⟨x,hx⟩:=zx (set[j])
      rw[←hx] at e0
      have HTK:=zh (show set.take (j+1)=set.take j++[x] by rw[hx];exact List.take_succ_eq_append_getElem hjs)
      clear hjs hc hx hR
      cases b with
      | true =>
       go_wp2_with fail
       go_roundg (L - (j+1))
       case measure=>omega
       case rel=>exact⟨rfl,j+1,true,by go_num,by omega,rfl,rfl,zh (by
        have h1:=HBE.out
        rw[HTK.out]
        cases ob
        ·have h2:d∈set.take j:=by simpa using h1.symm
         simp[h2]
        ·rfl)⟩
      | false =>
       by_cases hxd:x=d
       ·have q1:((x:Int)==(d:Int))=true:=by rw[hxd];simp
        have HXD:=zh hxd
        clear hxd
        go_wp2_with fail
        go_roundg (L - (j+1))
        case measure=>omega
        case rel=>exact⟨rfl,j+1,true,by go_num,by omega,rfl,rfl,zh (by rw[HTK.out,HXD.out];simp)⟩
       ·have q1:((x:Int)==(d:Int))=false:=by rw[beq_eq_false_iff_ne];omega
        have HXD:=zh (show ¬d=x from fun e=>hxd e.symm)
        clear hxd
        go_wp2_with fail
        go_roundg (L - (j+1))
        case measure=>omega
        case rel=>exact⟨rfl,j+1,false,by go_num,by omega,rfl,rfl,zh (by
         have h1:=HBE.out
         have h2:=HXD.out
         rw[HTK.out]
         have h3:(d∈set.take j++[x])↔d∈set.take j:=by rw[List.mem_append,List.mem_singleton];exact⟨fun h=>h.resolve_right h2,.inl⟩
         rw[decide_eq_decide.2 h3];exact h1)⟩
     ·have HBN:=zh (show b=(onB r d||decide (d∈set)) by rw[HBE.out,HOB.out,List.take_of_length_le (by rw[←HL.out];omega)])
      obtain⟨m0,m1,m2,m3,hXl⟩:=HM.out.cells
      obtain⟨Av,cv,hvf⟩:=own_form HM.out.ons
      rw[HLN.out] at hvf
      subst hvf
      have f1:=m3 1
      clear m3
      go_wp2_with (at_builtin;refine app_b b (.tmp 49) (.tmp 51) rfl rfl W0.heap.size (.slice Av d cv) d on HLN.out (by rfl) (by have:=HM.out.ons;rw[HLN.out] at this;exact this) (by rfl) (by have:=HLT.out;have:=HSM.out;omega) HM.out.hot.size ?_;intro v5 w5 hown5 hg5 hat5;obtain⟨A5,c5,rfl⟩:=own_form hown5;obtain⟨hB5,hX5⟩:=HM.out.grown hg5;have k1:w5.cell? ⟨gX,1,none⟩=some (.slice Av d cv):=(by rw[cell_of_row _ _ _ _ _ _ hX5];rfl);have kf:w5.frozen? ⟨gX,1,none⟩=false:=frozen_of_row _ _ _ _ _ hX5;have HN:=zh (HM.out.push (x:=b) hg5 (by rw[HLN.out];exact hown5));clear hB5 hX5 hown5 hg5 hat5)
      go_roundg (NP - (d+1))
      case measure=>have:=HLT.out;omega
      case rel=>exact⟨d+1,_,_,by go_num,by have:=HLT.out;omega,rfl,HN,zh (by rw[HON.out,HBN.out,List.range_succ,List.map_append];rfl)⟩
  ·obtain rfl:d=NP:=by omega
   obtain⟨x0,x1,x2,xf,hXl⟩:=HM.out.cells
   obtain⟨z0,z1,z2,z3,z4,z5⟩:=cells3 (HOK.out wr HM.out.hot)
   have HZO:=zh (HOK.out wr HM.out.hot)
   obtain⟨Av,cv,hvf⟩:=own_form HM.out.ons
   subst hvf
   have HLN:=zh (show on.length=d by rw[HON.out,List.length_map,List.length_range])
   rw[HLN.out] at x1 HM
   clear xf hXl s1 s2
   go_wp2_with fail
   obtain⟨WZ,hWZ⟩:=zx ((((wr.setCell ⟨gO,0,none⟩ (.slice Ap d cp)).setCell ⟨gO,1,none⟩ (.slice Av d cv)).setCell ⟨gO,2,none⟩ (.slice Aa NA ca)):World)
   have hz:=store3 (x:=.slice Ap d cp) (y:=.slice Av d cv) (z:=.slice Aa NA ca) HZO.out
   rw[←hWZ] at hz ⊢
   have hh:HotBy [some gO] wr WZ:=by rw[hWZ];exact((HotBy.setCell _ _ _ _ (by simp)).trans (HotBy.setCell _ _ _ _ (by simp))).trans (HotBy.setCell _ _ _ _ (by simp))
   obtain⟨n0,n1,n2,-⟩:=cells3 hz
   refine bodyPost_ret (v:=.agg #[.slice Ap d cp,.slice Av d cv,.slice Aa NA ca]) ?_ rfl ?_
   ·simp[results,Tryz.results66,go_sem,n0,n1,n2]
   ·have hs0:=HB0.out.size
    have hbz:Below w.heap.size w WZ:=below_hotW (HB0.out.trans (HM.out.hot.mono hs0)) hh (fun x hx=>by simp at hx;have:=HY.out;omega)
    have hons:WZ.ownsRow W0.heap.size 4 1 (.slice Av d cv) on.length (on.map Value.bool):=own_hot HM.out.ons hh (fun b hb e=>by simp at e;subst e;exact own_nty HM.out.ons HZO.out (by decide) hb)
    have hbl:SlS 1 BoolK WZ (Bl WZ.heap.size) (.slice Av d cv) on:=own_bools hons (fun b hb=>(hons.lt b hb).2)
    refine⟨_,rfl,⟨?_,?_,?_⟩,hbz⟩
    ·exact(HR.out.below hbz).1
    ·rw[←HON.out];exact hbl
    ·exact(HR.out.below hbz).2.2
def hitP(r:Re) (v s:Int) (n K:Nat) (set:List Nat):Option (List Nat):=if K≤cntS r v s n set then some set else none
def selL(off l:List Nat):List Nat:=l.map fun i=>off.getD i 0
def fromL(r:Re) (v s:Int) (n K:Nat) (off:List Nat):List Nat→Option (List Nat)
 | [i]=>from1 (oneP r v s n K) off i
 | [i,j]=>from2 (twoP r v s n K) off i j
 | _=>none
def okL(n:Nat):List Nat→Prop
 | [i]=>i<n
 | [i,j]=>i<j∧j<n
 | _=>False
def meL(n:Nat):List Nat→Nat
 | [i]=>n - i
 | [i,j]=>(n - i) * (n+1)+(n - j)
 | _=>0
theorem okL_cases{n:Nat} {l:List Nat} (h:okL n l):(∃i,l=[i]∧i<n)∨∃i j,l=[i,j]∧i<j∧j<n:=by
 match l,h with
 | [i],h=>exact .inl ⟨i,rfl,h⟩
 | [i,j],h=>exact .inr ⟨i,j,rfl,h.1,h.2⟩
theorem meL_pos{n:Nat} {l:List Nat} (h:okL n l):1≤meL n l:=by
 rcases okL_cases h with ⟨i,rfl,h1⟩ | ⟨i,j,rfl,h1,h2⟩
 ·show 1≤n - i;omega
 ·show 1≤_+(n - j);omega
theorem fromL_hit{r:Re} {v s:Int} {n K:Nat} {off l set:List Nat} (h:okL off.length l) (hh:hitP r v s n K (selL off l)=some set):fromL r v s n K off l=some set:=by
 rcases okL_cases h with ⟨i,rfl,h1⟩ | ⟨i,j,rfl,h1,h2⟩
 ·show from1 _ off i=_
  rw[from1_step h1,show oneP r v s n K (off.getD i 0)=some set from hh];rfl
 ·show from2 _ off i j=_
  rw[from2_step h2,show twoP r v s n K (off.getD i 0) (off.getD j 0)=some set from hh];rfl
theorem fromL_next{r:Re} {v s:Int} {n K:Nat} {off l:List Nat} (h:okL off.length l) (hh:hitP r v s n K (selL off l)=none) :
  (nextL off.length l=none∧fromL r v s n K off l=none)∨∃l',nextL off.length l=some l'∧okL off.length l'∧meL off.length l'<meL off.length l∧l'.length=l.length∧fromL r v s n K off l=fromL r v s n K off l':=by
 rcases okL_cases h with ⟨i,rfl,h1⟩ | ⟨i,j,rfl,h1,h2⟩
 ·have e:fromL r v s n K off [i]=from1 (oneP r v s n K) off (i+1):=by
   show from1 _ off i=_
   rw[from1_step h1,show oneP r v s n K (off.getD i 0)=none from hh];rfl
  by_cases h3:i+1<off.length
  ·refine .inr ⟨[i+1],?_,h3,?_,rfl,e⟩
   ·show(if i+1<off.length then some [i+1] else none)=_;rw[if_pos h3]
   ·show off.length - (i+1)<off.length - i;omega
  ·refine .inl ⟨?_,?_⟩
   ·show(if i+1<off.length then some [i+1] else none)=_;rw[if_neg h3]
   ·rw[e];exact from1_end (by omega)
 ·have e:fromL r v s n K off [i,j]=from2 (twoP r v s n K) off i (j+1):=by
   show from2 _ off i j=_
   rw[from2_step h2,show twoP r v s n K (off.getD i 0) (off.getD j 0)=none from hh];rfl
  by_cases h3:j+1<off.length
  ·refine .inr ⟨[i,j+1],?_,⟨by omega,h3⟩,?_,rfl,e⟩
   ·show(if j+1<off.length then some [i,j+1] else if i+2<off.length then some [i+1,i+2] else none)=_;rw[if_pos h3]
   ·show _+(off.length - (j+1))<_+(off.length - j);omega
  ·by_cases h4:i+2<off.length
   ·refine .inr ⟨[i+1,i+2],?_,⟨by omega,h4⟩,?_,rfl,?_⟩
    ·show(if j+1<off.length then some [i,j+1] else if i+2<off.length then some [i+1,i+2] else none)=_;rw[if_neg h3,if_pos h4]
    ·show(off.length - (i+1)) * (off.length+1)+(off.length - (i+2))<(off.length - i) * (off.length+1)+(off.length - j)
     have e1:off.length - i=(off.length - (i+1))+1:=by omega
     rw[e1,Nat.add_mul,Nat.one_mul]
     omega
    ·rw[e,from2_row (by omega),pick2_from (by omega)];rfl
   ·refine .inl ⟨?_,?_⟩
    ·show(if j+1<off.length then some [i,j+1] else if i+2<off.length then some [i+1,i+2] else none)=_;rw[if_neg h3,if_neg h4]
    ·rw[e,from2_row (by omega)];exact pick2_short (by omega)
theorem fromL_one(r:Re) (v s:Int) (n K:Nat) (off:List Nat):fromL r v s n K off [0]=off.findSome? (oneP r v s n K):=rfl
theorem fromL_two(r:Re) (v s:Int) (n K:Nat) (off:List Nat) (h:1≤off.length):fromL r v s n K off [0,1]=pick2 (twoP r v s n K) off:=by
 have:=pick2_from (p:=twoP r v s n K) (off:=off) (i:=0) (by omega)
 rw[List.drop_zero] at this
 exact this.symm
theorem find_plan{r:Re} {v s:Int} {n K:Nat} (hK:K=1∨K=2) (hl:K≤((List.range n).filter (anyF r v s)).length) (hu:cntS r v s n []<K) :
  1≤(offD r v s n).length∧((∃l,fromL r v s n K (offD r v s n) [0]=some l∧rescL r v s n K=l) ∨
   (fromL r v s n K (offD r v s n) [0]=none∧2≤(offD r v s n).length∧∃l,fromL r v s n K (offD r v s n) [0,1]=some l∧rescL r v s n K=l)):=by
 cases h1:fromL r v s n K (offD r v s n) [0] with
 | some l =>
  refine⟨?_,.inl ⟨l,rfl,resc_one h1⟩⟩
  rcases Nat.eq_zero_or_pos (offD r v s n).length with h0 | h0
  ·rw[fromL_one,List.eq_nil_of_length_eq_zero h0] at h1;cases h1
  ·exact h0
 | none =>
  obtain⟨-,l,h2⟩:=resc_left hK hl hu h1
  have h3:2≤(offD r v s n).length:=by
   rcases Nat.lt_or_ge (offD r v s n).length 2 with h0 | h0
   ·have:=pick2_short (p:=twoP r v s n K) (off:=offD r v s n) (i:=0) (by omega)
    rw[List.drop_zero,h2] at this;cases this
   ·exact h0
  exact⟨by omega,.inr ⟨rfl,h3,l,by rw[fromL_two _ _ _ _ _ _ (by omega)];exact h2,resc_two h1 h2⟩⟩
end Go.Proofs.YtcfkllnpkmebpaaGreatDoor
