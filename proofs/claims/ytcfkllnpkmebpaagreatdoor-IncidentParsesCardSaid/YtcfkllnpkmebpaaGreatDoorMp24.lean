/- Incidents whose causes lie in own, separate memory (what bent builds). -/
import Derived.Test.YtcfkllnpkmebpaaGreatDoorMp23
import Derived.Test.YtcfkllnpkmebpaaGreatDoorMp01
import Derived.Lib.BufferMore
import Derived.Lib.BufferWrite
import Derived.Lib.CutLaws
import Derived.Test.YtcfkllnpkmebpaaGreatDoorMp13
set_option linter.unusedSectionVars false
set_option maxRecDepth 100000
set_option maxHeartbeats 12800000
namespace Go.Proofs.YtcfkllnpkmebpaaGreatDoor
open Go.RowKit
set_option linter.unusedVariables false
set_option linter.unusedSimpArgs false
theorem own_keepB{w w':World} {B:Nat} {e:TypeId} {size n:Nat} {v:Value} {xs:List Value} (h:w.ownsRow B e size v n xs) (hk:∀b,v.ownBlock=some b→w'.heap[b]?=w.heap[b]?):w'.ownsRow B e size v n xs:=by
 refine⟨h.1,?_⟩;rcases h.2 with h | ⟨g,cap,cur,rfl,h1,h2,h3⟩
 ·exact .inl h
 ·exact .inr ⟨g,cap,cur,rfl,h1,(hk g rfl).trans h2,h3⟩
theorem OwnCau.slB{w:World} {base:Nat} {v:Value} {l:List Cau} (h:OwnCau w base v l):SlS 2 CauK w (fun b=>(base≤b∧b<w.heap.size)∧v.ownBlock=some b) v l:=by
 have h1:w.ownsRow base 102 2 v l.length (l.flatMap cauC):=h
 have hc:=fun g=>h1.cells (g:=g)
 have hlt:=h1.lt;rcases h1.2 with ⟨rfl,h0⟩ | ⟨g,cap,cur,rfl,_,_,h2,h3,_⟩
 ·unfold SlS;rw[h0];exact Row.nil _ _ _
 ·refine⟨_,cap,rfl,h2,Nat.le_trans h2 h3,fun _=>⟨g,0,rfl,⟨hlt g rfl,rfl⟩,fun k f hf=>⟨cauC f,rfl,fun i c hi=>?_,rfl⟩⟩⟩
  have e1:∀j,(⟨g,0,none⟩:Addr).add j=⟨g,0+j,none⟩:=fun j=>by unfold Addr.add;split <;> simp_all
  rw[Nat.add_assoc,←e1];exact hc g rfl _ _ (flat_cau l k f hf i c hi)
structure BentS (w:World) (B:Nat) (v:Value) (L:List IncW):Prop where
 row:w.ownsRow B 27 5 v L.length (L.flatMap incC)
 own:∀s∈L,OwnCau w B s.cv s.x.causes
 off:∀s∈L,∀b,s.cv.ownBlock=some b→v.ownBlock≠some b
 apart:L.Pairwise (fun s t=>∀b,s.cv.ownBlock=some b→t.cv.ownBlock≠some b)
theorem BentS.nil(w:World) (B:Nat):BentS w B (.slice none 0 0) []:=⟨World.ownsRow_nil _ _ _ _,fun s h=>(by cases h),fun s h=>(by cases h),List.Pairwise.nil⟩
theorem BentS.below{w w':World} {B:Nat} {v:Value} {L:List IncW} (h:BentS w B v L) (hb:Below w.heap.size w w'):BentS w' B v L :=
 ⟨own_below h.row hb,fun s hs=>(h.own s hs).below hb,h.off,h.apart⟩
theorem BentS.incs{w:World} {B:Nat} {v:Value} {L:List IncW} (h:BentS w B v L):IncsS w B v L :=
 ⟨h.row,fun s hs=>SlS.mono cauK (h.own s hs).slB (fun b hb=>⟨hb.1.1,hb.1.2,h.off s hs b hb.2⟩)⟩
theorem BentS.push{w w':World} {B:Nat} {v v':Value} {L:List IncW} {s:IncW} (h:BentS w B v L) (hs:OwnCau w B s.cv s.x.causes) (hoff:∀b,s.cv.ownBlock=some b→v.ownBlock≠some b)
  (hap:∀t∈L,∀b,t.cv.ownBlock=some b→s.cv.ownBlock≠some b)
  (ho:w'.ownsRow B 27 5 v' (L.length+1) (L.flatMap incC++incC s)) (hg:w.grownBy w' v.ownBlock) (hat:v'.ownBlock=v.ownBlock∨∃g,v'.ownBlock=some g∧w.heap.size≤g):BentS w' B v' (L++[s]):=by
 have hk:∀u:IncW,OwnCau w B u.cv u.x.causes→(∀b,u.cv.ownBlock=some b→v.ownBlock≠some b)→OwnCau w' B u.cv u.x.causes:=fun u hu hv =>
  own_keepB hu (fun b hb=>hg.block b (hu.lt b hb).2 (fun e=>hv b hb e.symm))
 have hv:∀u:IncW,OwnCau w B u.cv u.x.causes→(∀b,u.cv.ownBlock=some b→v.ownBlock≠some b)→(∀b,u.cv.ownBlock=some b→v'.ownBlock≠some b):=fun u hu hv b hb e=>by
  rcases hat with h2 | ⟨g,h2,h3⟩
  ·rw[h2] at e;exact hv b hb e
  ·rw[h2] at e;injection e with e;have:=(hu.lt b hb).2;omega
 refine⟨by rw[List.length_append,List.flatMap_append];simpa using ho,fun u hu=>?_,fun u hu=>?_,?_⟩
 ·rcases List.mem_append.1 hu with h2 | h2
  ·exact hk u (h.own u h2) (h.off u h2)
  ·rw[List.mem_singleton.1 h2];exact hk s hs hoff
 ·rcases List.mem_append.1 hu with h2 | h2
  ·exact hv u (h.own u h2) (h.off u h2)
  ·rw[List.mem_singleton.1 h2];exact hv s hs hoff
 ·refine List.pairwise_append.2 ⟨h.apart,List.pairwise_singleton _ _,fun t ht u hu=>?_⟩;rw[List.mem_singleton.1 hu];exact hap t ht
theorem app_bent{ops:Array Oper} {rest:List Oper} {o:Oper} {a:Act} {Q:Exit→Act→World→Prop} {w:World} (u:Inc) (cv:Value) (s x:Operand) (hgd:o.guard=none) (ho:o.op=.call { callee:=.builtin .append,args:=#[s,x],argTypes:=#[23,23] })
  (base:Nat) (v:Value) (L:List IncW) (hs:a.eval s=v) (hown:BentS w base v L) (hnew:OwnCau w base cv u.causes) (hoff:∀b,cv.ownBlock=some b→v.ownBlock≠some b)
  (hap:∀t∈L,∀b,t.cv.ownBlock=some b→cv.ownBlock≠some b)
  (hx:a.eval x=.slice (some ⟨w.heap.size,0,none⟩) 1 1) (hn:L.length+1≤16777216) (hbase:base≤w.heap.size)
  (h:∀v' w',BentS w' base v' (L++[⟨u,cv⟩])→w.grownBy w' v.ownBlock→wpList Tryz.prog ops Q rest (a.put o.dst v') w') :
  wpList Tryz.prog ops Q (o :: rest) a (w.alloc (.cells #[.int .i64 u.vol,.int .i64 u.stripe,.bool u.lost,.int .i64 u.need,cv] 27)):=by
 obtain⟨i0,hi0,hz0,hz1,hz2⟩:=info_parts info_inc;have h1c:=one_sls hnew.slB;refine wpList_append1 hgd s x _ ho base i0 _ 5 56 Tryz.underlying23 hi0 hz0 hz1 hz2 rfl (by omega) (by omega) v L.length (L.flatMap incC) hs hown.row hx rfl (fun y hy=>?_) hn hbase (fun v' w' h1 h2 h3=>h v' w' (hown.push (s:=⟨u,cv⟩) hnew hoff hap h1 h2 ?_) h2)
 ·simp at hy;rcases hy with rfl | rfl | rfl | rfl | rfl
  ·rfl
  ·rfl
  ·rfl
  ·rfl
  ·exact h1c
 ·rcases h3 with h3 | h3
  ·exact .inl h3
  ·exact .inr ⟨_,h3,by omega⟩
end Go.Proofs.YtcfkllnpkmebpaaGreatDoor

namespace Go.Proofs.YtcfkllnpkmebpaaGreatDoor
open Go.RowKit
set_option linter.unusedVariables false
set_option linter.unusedSimpArgs false
theorem own_set{w:World} {B:Nat} {e:TypeId} {size n g cap:Nat} {xs:List Value} (h:w.ownsRow B e size (.slice (some ⟨g,0,none⟩) n cap) n xs) (p:Nat) (u:Value) :
  (w.setCell ⟨g,p,none⟩ u).ownsRow B e size (.slice (some ⟨g,0,none⟩) n cap) n (xs.set p u):=by
 refine⟨by rw[List.length_set];exact h.1,?_⟩;rcases h.2 with ⟨hv,-⟩ | ⟨g',cap',cur,hv,h1,h2,h3,h4,h5,h6⟩
 ·cases hv
 ·injection hv with a1 a2 a3;injection a1 with a1;injection a1 with a1 a4;subst a1;subst a3;refine .inr ⟨g,cap,cur.setIfInBounds p u,rfl,h1,Lib.heap_setCell_same h2 u,h3,h4,by rw[Array.size_setIfInBounds];exact h5,?_⟩;rw[Array.toList_setIfInBounds,List.take_set,h6]
theorem addr0(g j:Nat):(⟨g,0,none⟩:Addr).add j=⟨g,j,none⟩:=by unfold Addr.add;split <;> simp_all
theorem own_fz{w:World} {B:Nat} {e:TypeId} {size n g cap:Nat} {xs:List Value} (h:w.ownsRow B e size (.slice (some ⟨g,0,none⟩) n cap) n xs) (p:Nat):w.frozen? ⟨g,p,none⟩=false:=by
 rcases h.2 with ⟨hv,-⟩ | ⟨g',cap',cur,hv,h1,h2,-⟩
 ·cases hv
 ·injection hv with a1 a2 a3;injection a1 with a1;injection a1 with a1 a4;subst a1;exact Lib.frozen_of_heap h2 _
theorem flat_set:∀(M:List IncW) (k:Nat) (s t:IncW) (o:Nat) (u:Value),M[k]?=some s→o<5→incC t=(incC s).set o u→(M.set k t).flatMap incC=(M.flatMap incC).set (k * 5+o) u
 | [],k,s,t,o,u,h,_,_=>by simp at h
 | x :: r,0,s,t,o,u,h,ho,e=>by
  simp at h;subst h;rw[List.set_cons_zero,List.flatMap_cons,List.flatMap_cons,e,Nat.zero_mul,Nat.zero_add]
  have:o<(incC x).length:=by show o<5;exact ho
  rw[List.set_append_left _ _ this]
 | x :: r,k+1,s,t,o,u,h,ho,e=>by
  rw[List.set_cons_succ,List.flatMap_cons,List.flatMap_cons,flat_set r k s t o u (by simpa using h) ho e];have hl:(incC x).length=5:=rfl;rw[List.set_append_right _ _ (by rw[hl];omega),hl]
  congr 1
  congr 1
  omega
end Go.Proofs.YtcfkllnpkmebpaaGreatDoor

namespace Go.Proofs.YtcfkllnpkmebpaaGreatDoor
open Go.RowKit
set_option linter.unusedVariables false
set_option linter.unusedSimpArgs false
theorem BentS.change{w w1:World} {B:Nat} {v:Value} {M:List IncW} {k:Nat} {s t:IncW} (h:BentS w B v M) (hk:M[k]?=some s)
  (hg:∀b,b<w.heap.size→s.cv.ownBlock≠some b→v.ownBlock≠some b→w1.heap[b]?=w.heap[b]?)
  (hrow:w1.ownsRow B 27 5 v M.length ((M.set k t).flatMap incC)) (hnew:OwnCau w1 B t.cv t.x.causes)
  (hat:t.cv.ownBlock=s.cv.ownBlock∨∃q,t.cv.ownBlock=some q∧w.heap.size≤q):BentS w1 B v (M.set k t):=by
 have hkl:k<M.length:=(List.getElem?_eq_some_iff.1 hk).1;have hks:M[k]=s:=(List.getElem?_eq_some_iff.1 hk).2;have hsM:s∈M:=List.mem_of_getElem? hk
 have hcase:∀y∈M.set k t,y=t∨∃j,∃hj:j<M.length,j≠k∧y=M[j]:=fun y hy=>by
  obtain⟨j,hj,e⟩:=List.getElem_of_mem hy;rw[List.getElem_set] at e;split at e
  ·exact .inl e.symm
  ·rename_i hne
   exact .inr ⟨j,by simpa using hj,fun e2=>hne e2.symm,e.symm⟩
 have hpw:=List.pairwise_iff_getElem.1 h.apart
 have hap:∀(j:Nat) (hj:j<M.length),j≠k→∀b,M[j].cv.ownBlock=some b→s.cv.ownBlock≠some b:=fun j hj hne b hb e=>by
  rcases Nat.lt_or_gt_of_ne hne with h1 | h1
  ·exact hpw j k hj hkl h1 b hb (by rw[hks];exact e)
  ·exact hpw k j hkl hj h1 b (by rw[hks];exact e) hb
 have htn:∀(j:Nat) (hj:j<M.length),j≠k→∀b,M[j].cv.ownBlock=some b→t.cv.ownBlock≠some b:=fun j hj hne b hb e=>by
  rcases hat with h1 | ⟨q,h1,h2⟩
  ·rw[h1] at e;exact hap j hj hne b hb e
  ·rw[h1] at e;injection e with e;have:=((h.own _ (List.getElem_mem hj)).lt b hb).2;omega
 refine⟨by rw[List.length_set];exact hrow,fun y hy=>?_,fun y hy=>?_,?_⟩
 ·rcases hcase y hy with rfl | ⟨j,hj,hne,rfl⟩
  ·exact hnew
  ·exact own_keepB (h.own _ (List.getElem_mem hj)) (fun b hb=>hg b ((h.own _ (List.getElem_mem hj)).lt b hb).2 (hap j hj hne b hb) (h.off _ (List.getElem_mem hj) b hb))
 ·rcases hcase y hy with rfl | ⟨j,hj,hne,rfl⟩
  ·intro b hb;rcases hat with h1 | ⟨q,h1,h2⟩
   ·rw[h1] at hb;exact h.off s hsM b hb
   ·rw[h1] at hb;injection hb with hb;intro e;have:=(h.row.lt b e).2;omega
  ·exact h.off _ (List.getElem_mem hj)
 ·rw[List.pairwise_iff_getElem];intro i j hi hj hij
  have hi':i<M.length:=by simpa using hi
  have hj':j<M.length:=by simpa using hj
  rw[List.getElem_set,List.getElem_set];split
  ·rename_i e1
   split
   ·omega
   ·intro b hb e;exact htn j hj' (by omega) b e hb
  ·split
   ·intro b hb e;exact htn i hi' (by omega) b hb e
   ·exact hpw i j hi' hj' hij
theorem BentS.setc{w w1:World} {B g n cap:Nat} {M:List IncW} {k:Nat} {s:IncW} {cs:List Cau} {cv:Value} (h:BentS w B (.slice (some ⟨g,0,none⟩) n cap) M) (hn:n=M.length) (hk:M[k]?=some s) (hg:w.grownBy w1 s.cv.ownBlock) (hnew:OwnCau w1 B cv cs)
  (hat:cv.ownBlock=s.cv.ownBlock∨∃q,cv.ownBlock=some q∧w.heap.size≤q) :
  BentS (w1.setCell ⟨g,k * 5+4,none⟩ cv) B (.slice (some ⟨g,0,none⟩) n cap) (M.set k ⟨⟨s.x.vol,s.x.stripe,s.x.lost,s.x.need,cs⟩,cv⟩):=by
 have hsM:s∈M:=List.mem_of_getElem? hk;have hgl:=(h.row.lt g rfl).2
 have hsg:s.cv.ownBlock≠some g:=fun e=>h.off s hsM g e rfl
 have hcg:cv.ownBlock≠some g:=fun e=>by
  rcases hat with h1 | ⟨q,h1,h2⟩
  ·rw[h1] at e;exact hsg e
  ·rw[h1] at e;injection e with e;omega
 have hg1:=Lib.grownBy_setCell w1 g (k * 5+4) cv;subst hn;refine h.change hk (fun b hb h1 h2=>?_) ?_ (own_keepB hnew (fun b hb=>hg1.block b (hnew.lt b hb).2 (fun e=>hcg (by rw[hb];exact e)))) hat
 ·rw[hg1.block b (Nat.lt_of_lt_of_le hb hg.size) (fun e=>h2 (by rw[e];rfl))];exact hg.block b hb (fun e=>h1 e.symm)
 ·rw[flat_set M k s ⟨⟨s.x.vol,s.x.stripe,s.x.lost,s.x.need,cs⟩,cv⟩ 4 cv hk (by omega) rfl]
  exact own_set (own_keepB h.row (fun b hb=>by
   have e:g=b:=by injection hb
   subst e
   exact hg.block g hgl (fun e=>hsg e.symm))) (k * 5+4) cv
end Go.Proofs.YtcfkllnpkmebpaaGreatDoor

namespace Go.Proofs.YtcfkllnpkmebpaaGreatDoor
open Go.RowKit
set_option linter.unusedVariables false
set_option linter.unusedSimpArgs false
def lineOf:List UInt8→Option (List UInt8×List UInt8)
 | []=>none
 | b :: l=>if b=10 then some ([],l) else(lineOf l).map fun p=>(b :: p.1,p.2)
theorem lineOf_some:∀{s t r:List UInt8},lineOf s=some (t,r)→s=t++10 :: r∧10∉t
 | [],t,r,h=>by simp[lineOf] at h
 | b :: l,t,r,h=>by
  unfold lineOf at h;split at h
  ·rename_i hb
   injection h with h;injection h with h1 h2;subst h1;subst h2;subst hb;exact⟨rfl,by simp⟩
  ·rename_i hb
   cases hl:lineOf l with
   | none=>rw[hl] at h;simp at h
   | some p =>
    obtain⟨p1,p2⟩:=p;rw[hl] at h;simp at h;obtain⟨h1,h2⟩:=h;obtain⟨e1,e2⟩:=lineOf_some hl;subst h1;subst h2;refine⟨by rw[e1];rfl,?_⟩;simp only[List.mem_cons,not_or];exact⟨fun e=>hb e.symm,e2⟩
theorem lineOf_mk:∀{t:List UInt8} (r:List UInt8),10∉t→lineOf (t++10 :: r)=some (t,r)
 | [],r,h=>by simp[lineOf]
 | b :: l,r,h=>by
  simp only[List.mem_cons,not_or] at h;rw[List.cons_append,lineOf,if_neg (fun e=>h.1 e.symm),lineOf_mk r h.2]
  rfl
theorem cut_line(s:List UInt8):Lib.cut s [10]=match lineOf s with | some p=>(p.1,p.2,true) | none=>(s,[],false):=by
 have key:∀s:List UInt8,match lineOf s with | some p=>Lib.index s [10]=(p.1.length:Int)∧s=p.1++10 :: p.2 | none=>Lib.index s [10] = -1:=by
  intro s
  induction s with
  | nil=>rfl
  | cons b l ih =>
   unfold lineOf;by_cases hb:b=10
   ·rw[if_pos hb];subst hb;exact⟨by simp[Lib.index],rfl⟩
   ·rw[if_neg hb]
    have hp:([10]:List UInt8).isPrefixOf (b :: l)=false:=by
     simp[List.isPrefixOf]
     exact fun e=>hb e.symm
    cases hl:lineOf l with
    | none =>
     rw[hl] at ih;show Lib.index (b :: l) [10] = -1;unfold Lib.index;rw[hp,show Lib.index l [10] = -1 from ih];rfl
    | some p =>
     rw[hl] at ih;obtain⟨h1,h2⟩:=ih;show Lib.index (b :: l) [10]=((b :: p.1).length:Int)∧b :: l=(b :: p.1)++10 :: p.2;refine⟨?_,by rw[h2];rfl⟩;unfold Lib.index;rw[hp,h1]
     have:((p.1.length:Int) == -1)=false:=by rw[beq_eq_false_iff_ne];omega
     simp[this]
 have h:=key s;unfold Lib.cut
 cases hl:lineOf s with
 | none=>rw[hl] at h;rw[show Lib.index s [10] = -1 from h];rfl
 | some p =>
  rw[hl] at h;obtain⟨h1,h2⟩:=h;rw[h1,if_pos (by omega)]
  dsimp only
  rw[Int.toNat_natCast]
  have e1:s.take p.1.length=p.1:=by rw[h2];simp
  have e2:s.drop (p.1.length+([10]:List UInt8).length)=p.2:=by
   have:p.1.length+([10]:List UInt8).length=(p.1++[10]).length:=by simp
   rw[this,h2,show p.1++10 :: p.2=(p.1++[10])++p.2 by simp,List.drop_left]
  rw[e1,e2]
theorem nm_vol{N:Nat} {F:FltM} (hok:FleetOk N F) {v:Nat} (hv:v<F.vols.length):nmOf F v=⟨(nameL 118 (F.vols.length - v)).toArray⟩:=by
 unfold nmOf;rw[List.getElem?_eq_getElem hv];exact(hok.vols v _ (List.getElem?_eq_getElem hv)).2.1
theorem nm_drv{N:Nat} {F:FltM} (hok:FleetOk N F) {d:Nat} (hd:d<F.dves.length):dnOf F d=⟨(nameL 100 d).toArray⟩:=by
 unfold dnOf;rw[List.getElem?_eq_getElem hd];exact(hok.dves d _ (List.getElem?_eq_getElem hd)).1
theorem nameL_ten{c:UInt8} (hc:c≠10) (n:Nat):(10:UInt8)∉nameL c n:=by
 unfold nameL;simp only[List.mem_cons,List.not_mem_nil,or_false,not_or];refine⟨fun e=>hc e.symm,fun e=>?_,fun e=>?_⟩
 ·have:=congrArg UInt8.toNat e;rw[UInt8.toNat_ofNat'] at this
  have h1:97+n / 26 % 26<2 ^ 8:=by omega
  rw[Nat.mod_eq_of_lt h1] at this;have h2:(10:UInt8).toNat=10:=rfl;omega
 ·have:=congrArg UInt8.toNat e;rw[UInt8.toNat_ofNat'] at this
  have h1:97+n % 26<2 ^ 8:=by omega
  rw[Nat.mod_eq_of_lt h1] at this;have h2:(10:UInt8).toNat=10:=rfl;omega
theorem dec_ten:((List.range 100).all fun s=>!(Lib.decDigits s).contains 10)=true:=by decide +kernel
theorem dec_no(s:Nat) (h:s<100):(10:UInt8)∉Lib.decDigits s:=by
 have:=List.all_eq_true.1 dec_ten s (by simpa using h);intro e;simp[e] at this
def headF(F:FltM) (x:Inc):List UInt8:=headL x.lost (nmOf F x.vol.toNat) x.stripe.toNat x.need.toNat
def lineF(F:FltM) (i:Nat) (c:Cau):List UInt8:=lineL i c.state (dnOf F c.drive.toNat)
def mkI(F:FltM) (v s:Nat) (lost:Bool):Inc:=⟨(v:Int),(s:Int),lost,kOf F v,[]⟩
def headC(F:FltM):List Inc:=(List.range F.vols.length).flatMap fun v=>(List.range F.ext.toNat).flatMap fun s=>[mkI F v s false,mkI F v s true]
def headOf(F:FltM) (t:List UInt8):Option Inc:=(headC F).find? fun x=>decide (headF F x=t)
def causeC(F:FltM):List Cau:=⟨4,-1⟩ :: (List.range F.dves.length).flatMap fun d:Nat=>[⟨1,(d:Int)⟩,⟨2,(d:Int)⟩,⟨3,(d:Int)⟩]
def causeIs(F:FltM) (i:Nat) (t:List UInt8):Option Cau:=(causeC F).find? fun c=>decide (lineF F i c=t)
theorem headC_mem{F:FltM} {x:Inc}:x∈headC F↔∃v s lost,v<F.vols.length∧s<F.ext.toNat∧x=mkI F v s lost:=by
 unfold headC
 constructor
 ·intro h;obtain⟨v,hv,h⟩:=List.mem_flatMap.1 h;obtain⟨s,hs,h⟩:=List.mem_flatMap.1 h;simp only[List.mem_cons,List.not_mem_nil,or_false] at h;rcases h with h | h
  ·exact⟨v,s,false,List.mem_range.1 hv,List.mem_range.1 hs,h⟩
  ·exact⟨v,s,true,List.mem_range.1 hv,List.mem_range.1 hs,h⟩
 ·rintro ⟨v,s,lost,hv,hs,rfl⟩;refine List.mem_flatMap.2 ⟨v,List.mem_range.2 hv,List.mem_flatMap.2 ⟨s,List.mem_range.2 hs,?_⟩⟩
  cases lost <;> simp
theorem causeC_mem{F:FltM} {c:Cau}:c∈causeC F↔c=⟨4,-1⟩∨∃d:Nat,d<F.dves.length∧(c=⟨1,(d:Int)⟩∨c=⟨2,(d:Int)⟩∨c=⟨3,(d:Int)⟩):=by
 unfold causeC;rw[List.mem_cons];refine or_congr Iff.rfl ?_;rw[List.mem_flatMap]
 constructor
 ·rintro ⟨d,hd,h⟩;simp only[List.mem_cons,List.not_mem_nil,or_false] at h;exact⟨d,List.mem_range.1 hd,h⟩
 ·rintro ⟨d,hd,h⟩;exact⟨d,List.mem_range.2 hd,by simp only[List.mem_cons,List.not_mem_nil,or_false];exact h⟩
theorem causeC_ok{F:FltM} {c:Cau}:c∈causeC F↔cauOk F.dves.length c=true:=by
 rw[causeC_mem]
 constructor
 ·rintro (rfl | ⟨d,hd,rfl | rfl | rfl⟩)
  ·rfl
  all_goals
   unfold cauOk;rw[if_pos (by simp)];simp;exact hd
 ·intro h;obtain⟨h1,h2,h3⟩:=cau_parts h;obtain⟨cs,cd⟩:=c;simp only at h1 h2 h3;by_cases h4:cs=4
  ·left;rw[h4,h3 h4]
  ·right
   have:=h2 h4;refine⟨cd.toNat,by omega,?_⟩
   have e:((cd.toNat:Nat):Int)=cd:=by omega
   rw[e];rcases h1 with rfl | rfl | rfl | rfl
   ·exact .inl rfl
   ·exact .inr (.inl rfl)
   ·exact .inr (.inr rfl)
   ·exact absurd rfl h4
theorem dec01:Lib.decDigits 0≠Lib.decDigits 1:=by decide +kernel
theorem nameL_data{c:UInt8} {n:Nat}:(⟨(nameL c n).toArray⟩:ByteArray).data.toList=nameL c n:=by simp
theorem head_inj{N:Nat} {F:FltM} (hok:FleetOk N F) (hN:N≤12) {x y:Inc} (hx:x∈headC F) (hy:y∈headC F) (h:headF F x=headF F y):x=y:=by
 obtain⟨v,s,a,hv,hs,rfl⟩:=headC_mem.1 hx;obtain⟨v',s',b,hv',hs',rfl⟩:=headC_mem.1 hy;unfold headF mkI at h;simp only[Int.toNat_natCast] at h;rw[nm_vol hok hv,nm_vol hok hv'] at h;unfold headL at h;rw[nameL_data,nameL_data] at h;have hN1:F.vols.length≤12:=Nat.le_trans hok.volN hN
 have he:F.ext.toNat≤2:=by rcases hok.ext with e | e <;> rw[e] <;> decide
 have hab:a=b:=by
  cases a <;> cases b <;> first | rfl | (exfalso;simp at h)
 subst hab;have h1:=List.append_cancel_left h;have h2:=List.append_inj h1 (by simp[nameL]);have h3:F.vols.length - v=F.vols.length - v':=(nameL_inj (c:=118) (c':=118) (by omega) (by omega) (by rw[h2.1])).2
 have h4:v=v':=by omega
 subst h4;have h5:=h2.2;rw[List.cons.injEq] at h5;have h6:=List.append_cancel_right h5.2
 have h7:s=s':=by
  have c1:s=0∨s=1:=by omega
  have c2:s'=0∨s'=1:=by omega
  rcases c1 with rfl | rfl <;> rcases c2 with rfl | rfl
  ·rfl
  ·exact absurd h6 dec01
  ·exact absurd h6.symm dec01
  ·rfl
 rw[h7]
theorem line_inj{N:Nat} {F:FltM} (hok:FleetOk N F) (i:Nat) {c d:Cau} (hc:c∈causeC F) (hd:d∈causeC F) (h:lineF F i c=lineF F i d):c=d:=by
 have hdn:F.dves.length≤9:=hok.dveN;unfold lineF lineL at h;rw[List.cons.injEq,List.cons.injEq] at h;have h1:=List.append_cancel_left h.2.2;rw[List.cons.injEq] at h1;have h2:=h1.2;clear h h1
 have hnm:∀d e:Nat,d<F.dves.length→e<F.dves.length→(dnOf F d).data.toList=(dnOf F e).data.toList→d=e:=fun d e h1 h2 h=>by
  rw[nm_drv hok h1,nm_drv hok h2,nameL_data,nameL_data] at h;exact(nameL_inj (c:=100) (c':=100) (by omega) (by omega) (by rw[h])).2
 have hsz:∀d:Nat,d<F.dves.length→(dnOf F d).data.toList.length=3:=fun d h1=>by
  rw[nm_drv hok h1,nameL_data];rfl
 rcases causeC_mem.1 hc with rfl | ⟨a,ha,rfl | rfl | rfl⟩ <;> rcases causeC_mem.1 hd with rfl | ⟨b,hb,rfl | rfl | rfl⟩
 all_goals first
  | rfl
  | (exfalso;simp[wordL] at h2;done)
  | (simp[wordL] at h2;rw[hnm a b ha hb (by rw[h2])])
theorem headF_ten{N:Nat} {F:FltM} (hok:FleetOk N F) {x:Inc} (hx:x∈headC F) (hk:∀v,v<F.vols.length→kOf F v<100):(10:UInt8)∉headF F x:=by
 obtain⟨v,s,a,hv,hs,rfl⟩:=headC_mem.1 hx
 have he:F.ext.toNat≤2:=by rcases hok.ext with e | e <;> rw[e] <;> decide
 unfold headF mkI;simp only[Int.toNat_natCast];rw[nm_vol hok hv];unfold headL;rw[nameL_data];have h1:=nameL_ten (c:=118) (by decide) (F.vols.length - v);have h2:=dec_no s (by omega);have h3:=dec_no (kOf F v).toNat (by have:=hk v hv;omega)
 cases a <;> simp[h1,h2,h3]
theorem lineF_ten{N:Nat} {F:FltM} (hok:FleetOk N F) {i:Nat} (hi:i<100) {c:Cau} (hc:c∈causeC F):(10:UInt8)∉lineF F i c:=by
 have h2:=dec_no i hi
 have h1:∀d,d<F.dves.length→(10:UInt8)∉(dnOf F d).data.toList:=fun d hd=>by
  rw[nm_drv hok hd,nameL_data];exact nameL_ten (by decide) d
 unfold lineF lineL;rcases causeC_mem.1 hc with rfl | ⟨a,ha,rfl | rfl | rfl⟩
 ·simp[wordL,h2]
 all_goals
  have h3:=h1 a ha;simp[wordL,h2,h3]
theorem headOf_some{N:Nat} {F:FltM} (hok:FleetOk N F) (hN:N≤12) {t:List UInt8} {x:Inc} (hx:x∈headC F) (h:headF F x=t):headOf F t=some x:=by
 unfold headOf
 cases hf:(headC F).find? fun x=>decide (headF F x=t) with
 | none =>
  rw[List.find?_eq_none] at hf;exact absurd (decide_eq_true h) (hf x hx)
 | some y =>
  have h1:=List.find?_some hf;have h2:=List.mem_of_find?_eq_some hf;rw[decide_eq_true_eq] at h1;rw[head_inj hok hN hx h2 (h.trans h1.symm)]
theorem headOf_none{F:FltM} {t:List UInt8} (h:∀x∈headC F,headF F x≠t):headOf F t=none:=by
 unfold headOf;rw[List.find?_eq_none];intro x hx e;rw[decide_eq_true_eq] at e;exact h x hx e
theorem headOf_spec{F:FltM} {t:List UInt8} {x:Inc} (h:headOf F t=some x):x∈headC F∧headF F x=t:=by
 unfold headOf at h;have h1:=List.find?_some h;rw[decide_eq_true_eq] at h1;exact⟨List.mem_of_find?_eq_some h,h1⟩
theorem causeIs_some{N:Nat} {F:FltM} (hok:FleetOk N F) {i:Nat} {t:List UInt8} {c:Cau} (hc:c∈causeC F) (h:lineF F i c=t):causeIs F i t=some c:=by
 unfold causeIs
 cases hf:(causeC F).find? fun c=>decide (lineF F i c=t) with
 | none =>
  rw[List.find?_eq_none] at hf;exact absurd (decide_eq_true h) (hf c hc)
 | some y =>
  have h1:=List.find?_some hf;have h2:=List.mem_of_find?_eq_some hf;rw[decide_eq_true_eq] at h1;rw[line_inj hok i hc h2 (h.trans h1.symm)]
theorem causeIs_none{F:FltM} {i:Nat} {t:List UInt8} (h:∀c∈causeC F,lineF F i c≠t):causeIs F i t=none:=by
 unfold causeIs;rw[List.find?_eq_none];intro x hx e;rw[decide_eq_true_eq] at e;exact h x hx e
theorem causeIs_spec{F:FltM} {i:Nat} {t:List UInt8} {c:Cau} (h:causeIs F i t=some c):c∈causeC F∧lineF F i c=t:=by
 unfold causeIs at h;have h1:=List.find?_some h;rw[decide_eq_true_eq] at h1;exact⟨List.mem_of_find?_eq_some h,h1⟩
def lackI(F:FltM) (x:Inc):Int:=kOf F x.vol.toNat+mOf F x.vol.toNat - (x.causes.length:Int)
def leftOf(F:FltM) (L:List Inc):Int:=if L=[] then 0 else lackI F L[L.length - 1]!
def ableB(F:FltM) (x:Inc):Bool:=possB (sumG x.causes) (sumA x.causes) (lackI F x) x.need x.lost
def withC(x:Inc) (c:Cau):Inc:=⟨x.vol,x.stripe,x.lost,x.need,x.causes++[c]⟩
def stepP(F:FltM) (L:List Inc) (t:List UInt8):Option (List Inc) :=
 if leftOf F L=0 then
  match headOf F t with
  | none=>none
  | some x=>if L=[]∨incLtB L[L.length - 1]! x=true then some (L++[x]) else none
 else
  match causeIs F L[L.length - 1]!.causes.length t with
  | none=>none
  | some c=>if ableB F (withC L[L.length - 1]! c)=true then some (L.set (L.length - 1) (withC L[L.length - 1]! c)) else none
def runP(F:FltM):Nat→List Inc→List UInt8→Nat→List Inc×Int×Nat
 | 0,_,_,_=>([],0,0)
 | k+1,L,s,n =>
  if s=[] then(if leftOf F L=0 then(L,0,0) else([],104,n))
  else match lineOf s with
   | none=>([],104,n)
   | some p=>match stepP F L p.1 with
    | none=>([],104,n)
    | some L'=>runP F k L' p.2 (n+1)
theorem runP_fuel(F:FltM):∀(k:Nat) (L:List Inc) (s:List UInt8) (n:Nat),s.length<k→∀k',s.length<k'→runP F k L s n=runP F k' L s n
 | 0,L,s,n,h,_,_=>by omega
 | k+1,L,s,n,h,0,h'=>by omega
 | k+1,L,s,n,h,k'+1,h'=>by
  unfold runP;split
  ·rfl
  ·split
   ·rfl
   ·rename_i p hp
    split
    ·rfl
    ·have e:=(lineOf_some (t:=p.1) (r:=p.2) hp).1
     have hl:p.2.length<s.length:=by
      have:=congrArg List.length e;simp at this;omega
     exact runP_fuel F k _ _ _ (by omega) k' (by omega)
def parsR(F:FltM) (L:List Inc) (s:List UInt8) (n:Nat):List Inc×Int×Nat:=runP F (s.length+1) L s n
theorem pars_end(F:FltM) (L:List Inc) (n:Nat) (h:leftOf F L=0):parsR F L [] n=(L,0,0):=by
 unfold parsR runP;rw[if_pos rfl,if_pos h]
theorem pars_cut(F:FltM) (L:List Inc) (n:Nat) (h:leftOf F L≠0):parsR F L [] n=([],104,n):=by
 unfold parsR runP;rw[if_pos rfl,if_neg h]
theorem pars_noline(F:FltM) (L:List Inc) {s:List UInt8} (n:Nat) (h0:s≠[]) (h:lineOf s=none):parsR F L s n=([],104,n):=by
 unfold parsR runP;rw[if_neg h0,h]
theorem pars_stop(F:FltM) (L:List Inc) {s t r:List UInt8} (n:Nat) (h:lineOf s=some (t,r)) (h2:stepP F L t=none):parsR F L s n=([],104,n):=by
 have h0:s≠[]:=by intro e;subst e;simp[lineOf] at h
 unfold parsR runP;rw[if_neg h0,h]
 dsimp only
 rw[h2]
theorem pars_step(F:FltM) (L:List Inc) {s t r:List UInt8} (n:Nat) {L':List Inc} (h:lineOf s=some (t,r)) (h2:stepP F L t=some L'):parsR F L s n=parsR F L' r (n+1):=by
 have h0:s≠[]:=by intro e;subst e;simp[lineOf] at h
 have hl:r.length<s.length:=by
  have:=congrArg List.length (lineOf_some h).1;simp at this;omega
 unfold parsR;rw[runP];rw[if_neg h0,h]
 dsimp only
 rw[h2];exact runP_fuel F _ _ _ _ hl _ (by omega)
end Go.Proofs.YtcfkllnpkmebpaaGreatDoor

namespace Go.Proofs.YtcfkllnpkmebpaaGreatDoor
open Go.RowKit
set_option linter.unusedVariables false
set_option linter.unusedSimpArgs false
def headV:Option Inc→Value
 | some x=>.tuple #[.agg #[.int .i64 x.vol,.int .i64 x.stripe,.bool x.lost,.int .i64 x.need,.slice none 0 0],.bool true]
 | none=>.tuple #[.agg #[.int .i64 0,.int .i64 0,.bool false,.int .i64 0,.slice none 0 0],.bool false]
theorem parseHead_any(N:Nat) (hN:N≤12) (vl vm vd vv vp vo:Value) (F:FltM) (EX:Nat) (t:ByteArray) (w:World) (hf:FleetS w (Bl w.heap.size) vl vm vd vv vp vo F) (hok:FleetOk N F) (hEX:F.ext=(EX:Int)) :
  Calls Tryz.prog 57 #[.agg #[.int .i64 F.ext,vl,vm,vd,vv,vp,vo],.string t] w fun e w'=>e=.returned (headV (headOf F t.data.toList))∧Below w.heap.size w w':=by
 obtain⟨pb,pof,ob,oof,cp,co,rfl,rfl,hRp,hRo,hPA⟩:=polAt hf hok
 have hex:EX≤2:=by have:=hok.ext;omega
 have hno2:=hok.volN;have hnp:=hok.polN
 have hfa:∀a,a<F.vols.length→∃(p0 K:Nat),p0<F.pols.length∧kOf F a=(K:Int)∧K≤2∧∀w',Below w.heap.size w w'→w'.cell? ⟨ob,oof+a * 2,none⟩=some (.string (nmOf F a))∧w'.cell? ⟨ob,oof+a * 2+1,none⟩=some (.int .i64 (p0:Int))∧w'.cell? ⟨pb,pof+p0 * 17+1,none⟩=some (.int .i64 (K:Int)):=fun a ha=>by
  obtain⟨hp1,nm,hv1,a0,a4,a5,a6,a7,a8,a9,a10,a11,a12,a13,a14,a15,a16,hpol,-⟩:=hPA a ha;obtain⟨kk,-,-,-,-⟩:=kmq_ok hok ha;obtain⟨K,hK⟩:∃K:Nat,kOf F a=(K:Int):=⟨(kOf F a).toNat,by omega⟩;refine⟨volP F a,K,hp1,hK,by omega,fun w' hb=>⟨?_,?_,?_⟩⟩
  ·exact(hb.cell (p:=⟨ob,oof+a * 2,none⟩) hRo).trans (vol_name hf hok ha).1
  ·exact(hb.cell (p:=⟨ob,oof+a * 2+1,none⟩) hRo).trans (hv1 1 _ rfl)
  ·rw[hK] at hpol;exact(hb.cell (p:=⟨pb,pof+volP F a * 17+1,none⟩) hRp).trans (hpol 1 _ rfl)
 have hnm:∀a,a<F.vols.length→(nmOf F a).size=3:=fun a ha=>(vol_name hf hok ha).2
 have hfnd:∀(a st K:Nat) (lb:Bool),a<F.vols.length→st<EX→kOf F a=(K:Int)→hdlB lb (nmOf F a) st K=t→headV (headOf F t.data.toList)=.tuple #[.agg #[.int .i64 (a:Int),.int .i64 (st:Int),.bool lb,.int .i64 (K:Int),.slice none 0 0],.bool true]:=fun a st K lb h1 h2 h3 h4=>by
  have hx:mkI F a st lb∈headC F:=headC_mem.2 ⟨a,st,lb,h1,by rw[hEX];simpa using h2,rfl⟩;rw[headOf_some hok hN hx (by rw[←h4,hdl_head];unfold headF mkI;simp[h3])];unfold headV mkI;rw[h3]
 have hmis:(∀v,v<F.vols.length→∀s,s<EX→∀b,hdlB b (nmOf F v) s (kOf F v).toNat≠t)→headV (headOf F t.data.toList)=.tuple #[.agg #[.int .i64 0,.int .i64 0,.bool false,.int .i64 0,.slice none 0 0],.bool false]:=fun h=>by
  rw[headOf_none (fun x hx e=>by
   obtain⟨v,s,b,hv,hs,rfl⟩:=headC_mem.1 hx;rw[hEX] at hs;refine h v hv s (by simpa using hs) b ?_;rw[hdl_head];unfold headF mkI at e;simp only[Int.toNat_natCast] at e
   rw[e])]
  rfl
 have HKO:=zh (fun(a K:Nat) (h:kOf F a=(K:Int))=>(show(kOf F a).toNat=K by omega));rw[hEX];obtain⟨HV,hHV⟩:=zx (headV (headOf F t.data.toList));rw[←hHV] at hfnd hmis ⊢;clear hHV;obtain⟨NO,hNO⟩:=zx F.vols.length;obtain⟨NP,hNP⟩:=zx F.pols.length;rw[←hNO] at hno2 hfa hnm hfnd hmis ⊢;rw[←hNP] at hnp hfa ⊢;have HNM:=zh hnm;have HFA:=zh hfa;have HFND:=zh hfnd;have HMIS:=zh hmis;obtain⟨W0,hW0⟩:=zx ((w.alloc (.cells #[.int .i64 (EX:Int),vl,vm,vd,vv,.slice (some ⟨pb,pof,none⟩) NP cp,.slice (some ⟨ob,oof,none⟩) NO co] 35)).alloc (.cells #[.int .i64 0,.int .i64 0,.bool false,.int .i64 0,.slice none 0 0] 27));obtain⟨z,hz⟩:=zx w.heap.size;obtain⟨gR,hgR⟩:=zx (w.heap.size+1)
 have hb0:Below w.heap.size w W0:=by rw[hW0];exact((Below.refl _ _).alloc (Nat.le_refl _) _).alloc (by simp) _
 have hrk:W0.heap[gR]?=some (.cells #[.int .i64 0,.int .i64 0,.bool false,.int .i64 0,.slice none 0 0] 27 (0,0)):=by
  rw[hW0];exact heap_alloc_at _ _ _ (by rw[hgR];simp)
 have hzk:W0.heap[z]?=some (.cells #[.int .i64 (EX:Int),vl,vm,vd,vv,.slice (some ⟨pb,pof,none⟩) NP cp,.slice (some ⟨ob,oof,none⟩) NO co] 35 (0,0)):=by
  rw[hW0,hz];exact(Below.heap_alloc _ _ _ (by simp)).trans (heap_alloc_new w _)
 have hzl:z<W0.heap.size:=(Array.getElem?_eq_some_iff.1 hzk).1;have hrl:gR<W0.heap.size:=(Array.getElem?_eq_some_iff.1 hrk).1;have HC:=zh (fun(w':World) (hb:Below W0.heap.size W0 w')=>cells7 ((hb.block z hzl).trans hzk));have HRK:=zh (fun(w':World) (hb:Below W0.heap.size W0 w')=>(hb.block gR hrl).trans hrk);have HW0:=zh hW0;have HZ:=zh hz;have HGR:=zh hgR;have HB0:=zh hb0;clear hf hok hPA hRp hRo hW0 hz hgR hb0 hrk hzk hzl hrl hNO hNP hEX hfa hnm hfnd hmis;go_enter Tryz.func57,Tryz.ntmps57;go_upto_region 1 with fail;rw[←HW0.out,←HGR.out,←HZ.out];obtain⟨c0,c1,c2,c3,c4,c5,c6⟩:=HC.out W0 (Below.refl _ _);go_wp2_with fail;clear c0 c1 c2 c3 c4 c5 c6;go_loopg [15] NO (fun z v15 wr=>∃a:Nat,v15=.int .i64 (a:Int)∧a≤NO∧z=NO - a∧Hid (Below W0.heap.size W0 wr)∧Hid (∀v,v<a→∀s,s<EX→∀b,hdlB b (nmOf F v) s (kOf F v).toNat≠t))
 case atStart=>exact⟨0,rfl,Nat.zero_le _,rfl,zh (Below.refl _ _),zh (fun _ h=>by omega)⟩
 case round =>
  obtain⟨a,rfl,ha,rfl,HB,HNA⟩:=hrel;by_cases hlt:a<NO
  ·have HLT:=zh hlt;obtain⟨p0,K,hp0,hK,hK2,hcell⟩:=HFA.out a hlt;have HKF:=zh hK;have HCE:=zh hcell;have HNMA:=zh (HNM.out a hlt);obtain⟨nm,hnm⟩:=zx (nmOf F a);rw[←hnm] at HCE HNMA;have HNN:=zh hnm;have hbw:=HB0.out.trans (HB.out.mono HB0.out.size);obtain⟨n0,n1,-⟩:=HCE.out wr hbw;obtain⟨c0,c1,c2,c3,c4,c5,c6⟩:=HC.out wr HB.out;obtain⟨W1,hW1⟩:=zx (wr.alloc (.cells #[.string nm,.int .i64 (p0:Int)] 87));obtain⟨gv,hgv⟩:=zx wr.heap.size
   have hb1:Below wr.heap.size wr W1:=by rw[hW1];exact(Below.refl _ _).alloc (Nat.le_refl _) _
   have hgk:W1.heap[gv]?=some (.cells #[.string nm,.int .i64 (p0:Int)] 87 (0,0)):=by rw[hW1,hgv];exact heap_alloc_new wr _
   have hgl:gv<W1.heap.size:=(Array.getElem?_eq_some_iff.1 hgk).1;have HB1:=zh (HB.out.trans (hb1.mono HB.out.size));have HGV:=zh (fun(w':World) (hb:Below W1.heap.size W1 w')=>(show w'.cell? ⟨gv,1,none⟩=some (.int .i64 (p0:Int)) from by rw[cell_of_row _ _ _ _ _ _ ((hb.block gv hgl).trans hgk)];rfl));have HW1:=zh hW1;have HGVE:=zh hgv
   have i1:(a:Int)<(NO:Int):=by omega
   have i2:(p0:Int)<(NP:Int):=by omega
   clear hK hcell hnm hbw hW1 hgv hb1 hgk hgl;go_upto_region 4 with fail;rw[←HW1.out,←HGVE.out];clear n0 n1 c0 c1 c2 c3 c4 c5 c6;obtain⟨c0,c1,c2,c3,c4,c5,c6⟩:=HC.out W1 HB1.out;go_wp2_with fail;clear c0 c1 c2 c3 c4 c5 c6;go_loopg [22] EX (fun z v22 wr=>∃st:Nat,v22=.int .i64 (st:Int)∧st≤EX∧z=EX - st∧Hid (Below W1.heap.size W1 wr)∧Hid (∀s,s<st→∀b,hdlB b nm s K≠t))
   case atStart=>exact⟨0,rfl,Nat.zero_le _,rfl,zh (Below.refl _ _),zh (fun _ h=>by omega)⟩
   case round =>
    clear HB;obtain⟨st,rfl,hst,rfl,HB,HNS⟩:=hrel;by_cases hls:st<EX
    ·have HLS:=zh hls;obtain⟨W2,hW2⟩:=zx (wr.alloc (.cells #[.bool false,.bool true] 4));obtain⟨gb,hgb⟩:=zx wr.heap.size
     have hb2:Below wr.heap.size wr W2:=by rw[hW2];exact(Below.refl _ _).alloc (Nat.le_refl _) _
     have hgk:W2.heap[gb]?=some (.cells #[.bool false,.bool true] 4 (0,0)):=by rw[hW2,hgb];exact heap_alloc_new wr _
     have hgl:gb<W2.heap.size:=(Array.getElem?_eq_some_iff.1 hgk).1;have HB2:=zh (HB.out.trans (hb2.mono HB.out.size))
     have HGB:=zh (fun(w':World) (hb:Below W2.heap.size W2 w') (c:Nat) (hc:c<2)=>(show w'.cell? ⟨gb,c,none⟩=some (.bool (decide (c=1))) from by
      rw[cell_of_row _ _ _ _ _ _ ((hb.block gb hgl).trans hgk)]
      have:c=0∨c=1:=by omega
      rcases this with rfl | rfl <;> rfl))
     have HW2:=zh hW2;have HGBE:=zh hgb;clear hW2 hgb hb2 hgk hgl;go_wp2_with fail;rw[←HW2.out,←HGBE.out];go_loopg [27] 2 (fun z v27 wr=>∃c:Nat,v27=.int .i64 (c:Int)∧c≤2∧z=2 - c∧Hid (Below W2.heap.size W2 wr)∧Hid (∀c',c'<c→hdlB (decide (c'=1)) nm st K≠t))
     case atStart=>exact⟨0,rfl,Nat.zero_le _,rfl,zh (Below.refl _ _),zh (fun _ h=>by omega)⟩
     case round =>
      clear HB;obtain⟨c,rfl,hc,rfl,HB,HNC⟩:=hrel;by_cases hlc:c<2
      ·have HLC:=zh hlc;have hb1w:=HB2.out.trans (HB.out.mono HB2.out.size);have hb0w:=HB1.out.trans (hb1w.mono HB1.out.size);have hbw:=HB0.out.trans (hb0w.mono HB0.out.size);have g0:=HGB.out wr HB.out c hlc;have v1:=HGV.out wr hb1w;obtain⟨-,-,k1⟩:=HCE.out wr hbw;obtain⟨c0,c1,c2,c3,c4,c5,c6⟩:=HC.out wr hb0w;obtain⟨lb,hlb⟩:=zx (decide (c=1));have HLB:=zh hlb;rw[←hlb] at g0;obtain⟨W3,hW3⟩:=zx (wr.alloc (.cells #[.int .i64 (a:Int),.int .i64 (st:Int),.bool lb,.int .i64 (K:Int),.slice none 0 0] 27));obtain⟨gi,hgi⟩:=zx wr.heap.size
       have hb3:Below wr.heap.size wr W3:=by rw[hW3];exact(Below.refl _ _).alloc (Nat.le_refl _) _
       have hgk3:W3.heap[gi]?=some (.cells #[.int .i64 (a:Int),.int .i64 (st:Int),.bool lb,.int .i64 (K:Int),.slice none 0 0] 27 (0,0)):=by rw[hW3,hgi];exact heap_alloc_new wr _
       have hb03:=hb0w.trans (hb3.mono hb0w.size);have hbw3:=HB0.out.trans (hb03.mono HB0.out.size);have hhd:=head_any lb (EX:Int) vl vm vd vv (.slice (some ⟨pb,pof,none⟩) NP cp) (.slice none 0 0) ob oof NO co a st K nm W3 (by omega) (by omega) (by omega) (by omega) (by have:=HNMA.out;omega) (HCE.out W3 hbw3).1;obtain⟨hb,hhb⟩:=zx (hdlB lb nm st K);rw[←hhb] at hhd;have HHB:=zh hhb;have HHD:=zh hhd;have HB3:=zh (HB.out.trans (hb3.mono HB.out.size));have HB03:=zh hb03;have HGK3:=zh (And.intro hgk3 (Array.getElem?_eq_some_iff.1 hgk3).1);have HW3:=zh hW3;have HGI:=zh hgi;have HX3:=zh (show(W3.cell? ⟨gi,0,none⟩=some (.int .i64 (a:Int))∧W3.cell? ⟨gi,1,none⟩=some (.int .i64 (st:Int))∧W3.cell? ⟨gi,2,none⟩=some (.bool lb)∧W3.cell? ⟨gi,3,none⟩=some (.int .i64 (K:Int))∧W3.cell? ⟨gi,4,none⟩=some (.slice none 0 0))∧_ from⟨⟨by rw[cell_of_row _ _ _ _ _ _ hgk3];rfl,by rw[cell_of_row _ _ _ _ _ _ hgk3];rfl,by rw[cell_of_row _ _ _ _ _ _ hgk3];rfl,by rw[cell_of_row _ _ _ _ _ _ hgk3];rfl,by rw[cell_of_row _ _ _ _ _ _ hgk3];rfl⟩,HC.out W3 hb03⟩);clear hb1w hb0w hbw hlb hW3 hgi hb3 hgk3 hb03 hbw3 hhd hhb
       have hci:(c:Int)<2:=by omega
       go_upto_region 11 with fail;rw[←HW3.out,←HGI.out];clear g0 v1 k1 c0 c1 c2 c3 c4 c5 c6;obtain⟨⟨x0,x1,x2,x3,x4⟩,c0,c1,c2,c3,c4,c5,c6⟩:=HX3.out;by_cases hE:hb=t
       ·have hne:(hb.toList==t.toList)=true:=by rw[hE];simp
        have HRV:=zh (HFND.out a st K lb HLT.out HLS.out HKF.out (by rw[←HNN.out,←HHB.out];exact hE));clear hE;go_wp2_with fail;refine HHD.out.mono ?_;rintro e w5 ⟨rfl,hb5⟩;have hik:=(hb5.block gi HGK3.out.2).trans HGK3.out.1;obtain⟨x0,x1,x2,x3,x4⟩:=cells5 hik;have hb05:=HB03.out.trans (hb5.mono HB03.out.size);have hrk:=HRK.out w5 hb05;obtain⟨z0,z1,z2,z3,z4⟩:=cells5 hrk
        have zf:=fun i=>frozen_of_row w5 gR i _ _ hrk
        have f0:=zf 0;have f1:=zf 1;have f2:=zf 2;have f3:=zf 3;have f4:=zf 4;have HRK5:=zh hrk;have HB05:=zh hb05;clear zf hik hrk hb05 hb5;go_wp2_with fail;obtain⟨WZ,hWZ⟩:=zx ((((((w5.setCell ⟨gR,0,none⟩ (.int .i64 (a:Int))).setCell ⟨gR,1,none⟩ (.int .i64 (st:Int))).setCell ⟨gR,2,none⟩ (.bool lb)).setCell ⟨gR,3,none⟩ (.int .i64 (K:Int))).setCell ⟨gR,4,none⟩ (.slice none 0 0)):World)
        have hz:WZ.heap[gR]?=some (.cells #[.int .i64 (a:Int),.int .i64 (st:Int),.bool lb,.int .i64 (K:Int),.slice none 0 0] 27 (0,0)):=by
         rw[hWZ];exact heap_setCell_same _ gR 4 _ _ _ (heap_setCell_same _ gR 3 _ _ _ (heap_setCell_same _ gR 2 _ _ _ (heap_setCell_same _ gR 1 _ _ _ (heap_setCell_same _ gR 0 _ _ _ HRK5.out))))
        rw[←hWZ]
        have hg:w.heap.size≤gR:=by have:=HGR.out;omega
        have hbz:Below w.heap.size w WZ:=by
         rw[hWZ];exact(((((HB0.out.trans (HB05.out.mono HB0.out.size)).setCell hg _).setCell hg _).setCell hg _).setCell hg _).setCell hg _
        obtain⟨n0,n1,n2,n3,n4⟩:=cells5 hz;refine bodyPost_ret (v:=.tuple #[.agg #[.int .i64 (a:Int),.int .i64 (st:Int),.bool lb,.int .i64 (K:Int),.slice none 0 0],.bool true]) ?_ rfl ⟨by rw[HRV.out],hbz⟩;simp[results,Tryz.results57,go_sem,n0,n1,n2,n3,n4]
       ·have hne:(hb.toList==t.toList)=false:=seq_no hE;have HNE:=zh (show hdlB (decide (c=1)) nm st K≠t from by rw[←HLB.out,←HHB.out];exact hE);clear hE;go_wp2_with (go_at_call 43;refine HHD.out.mono ?_;rintro e w5 ⟨rfl,hb5⟩;have HB5:=zh hb5;clear hb5);go_roundg (2 - (c+1))
        case measure=>have:=HLC.out;omega
        case rel=>exact⟨c+1,by go_num,by have:=HLC.out;omega,rfl,zh (HB3.out.trans (HB5.out.mono HB3.out.size)),zh (fun c' hc'=>by rcases (show c'=c∨c'<c by omega) with rfl | h;exact HNE.out;exact HNC.out c' h)⟩
      ·obtain rfl:c=2:=by omega
       go_wp2_with fail
       have HNST:=zh (show ∀s,s<st+1→∀b,hdlB b nm s K≠t from fun s hs b=>by
        rcases (show s=st∨s<st by omega) with rfl | h
        ·have:=HNC.out (if b then 1 else 0) (by cases b <;> decide)
         cases b <;> simpa using this
        ·exact HNS.out s h b)
       go_roundg (EX - (st+1))
       case measure=>have:=HLS.out;omega
       case rel=>exact⟨st+1,by go_num,by have:=HLS.out;omega,rfl,zh (HB2.out.trans (HB.out.mono HB2.out.size)),HNST⟩
    ·obtain rfl:st=EX:=by omega
     go_wp2_with fail
     have HNAT:=zh (show ∀v,v<a+1→∀s,s<st→∀b,hdlB b (nmOf F v) s (kOf F v).toNat≠t from fun v hv s hs b=>by
      rcases (show v=a∨v<a by omega) with rfl | h
      ·rw[HKO.out v K HKF.out,←HNN.out];exact HNS.out s hs b
      ·exact HNA.out v h s hs b)
     go_roundg (NO - (a+1))
     case measure=>have:=HLT.out;omega
     case rel=>exact⟨a+1,by go_num,by have:=HLT.out;omega,rfl,zh (HB1.out.trans (HB.out.mono HB1.out.size)),HNAT⟩
  ·obtain rfl:a=NO:=by omega
   have HRV:=zh (HMIS.out HNA.out);have HZO:=zh (HRK.out wr HB.out)
   have zf:=fun i=>frozen_of_row wr gR i _ _ (HRK.out wr HB.out)
   have z0:wr.cell? ⟨gR,0,none⟩=some (.int .i64 0):=by rw[cell_of_row _ _ _ _ _ _ HZO.out];rfl
   have z1:wr.cell? ⟨gR,1,none⟩=some (.int .i64 0):=by rw[cell_of_row _ _ _ _ _ _ HZO.out];rfl
   have z2:wr.cell? ⟨gR,2,none⟩=some (.bool false):=by rw[cell_of_row _ _ _ _ _ _ HZO.out];rfl
   have z3:wr.cell? ⟨gR,3,none⟩=some (.int .i64 0):=by rw[cell_of_row _ _ _ _ _ _ HZO.out];rfl
   have z4:wr.cell? ⟨gR,4,none⟩=some (.slice none 0 0):=by rw[cell_of_row _ _ _ _ _ _ HZO.out];rfl
   have f0:=zf 0;have f1:=zf 1;have f2:=zf 2;have f3:=zf 3;have f4:=zf 4;clear zf;go_wp2_with fail;obtain⟨WZ,hWZ⟩:=zx ((((((wr.setCell ⟨gR,0,none⟩ (.int .i64 0)).setCell ⟨gR,1,none⟩ (.int .i64 0)).setCell ⟨gR,2,none⟩ (.bool false)).setCell ⟨gR,3,none⟩ (.int .i64 0)).setCell ⟨gR,4,none⟩ (.slice none 0 0)):World)
   have hz:WZ.heap[gR]?=some (.cells #[.int .i64 0,.int .i64 0,.bool false,.int .i64 0,.slice none 0 0] 27 (0,0)):=by
    rw[hWZ];exact heap_setCell_same _ gR 4 _ _ _ (heap_setCell_same _ gR 3 _ _ _ (heap_setCell_same _ gR 2 _ _ _ (heap_setCell_same _ gR 1 _ _ _ (heap_setCell_same _ gR 0 _ _ _ HZO.out))))
   rw[←hWZ]
   have hg:w.heap.size≤gR:=by have:=HGR.out;omega
   have hbz:Below w.heap.size w WZ:=by
    rw[hWZ];exact(((((HB0.out.trans (HB.out.mono HB0.out.size)).setCell hg _).setCell hg _).setCell hg _).setCell hg _).setCell hg _
   have n0:WZ.cell? ⟨gR,0,none⟩=some (.int .i64 0):=by rw[cell_of_row _ _ _ _ _ _ hz];rfl
   have n1:WZ.cell? ⟨gR,1,none⟩=some (.int .i64 0):=by rw[cell_of_row _ _ _ _ _ _ hz];rfl
   have n2:WZ.cell? ⟨gR,2,none⟩=some (.bool false):=by rw[cell_of_row _ _ _ _ _ _ hz];rfl
   have n3:WZ.cell? ⟨gR,3,none⟩=some (.int .i64 0):=by rw[cell_of_row _ _ _ _ _ _ hz];rfl
   have n4:WZ.cell? ⟨gR,4,none⟩=some (.slice none 0 0):=by rw[cell_of_row _ _ _ _ _ _ hz];rfl
   refine bodyPost_ret (v:=.tuple #[.agg #[.int .i64 0,.int .i64 0,.bool false,.int .i64 0,.slice none 0 0],.bool false]) ?_ rfl ⟨by rw[HRV.out],hbz⟩;simp[results,Tryz.results57,go_sem,n0,n1,n2,n3,n4]
end Go.Proofs.YtcfkllnpkmebpaaGreatDoor

namespace Go.Proofs.YtcfkllnpkmebpaaGreatDoor
open Go.RowKit Go.Shelf
set_option linter.unusedVariables false
set_option linter.unusedSimpArgs false
def causeV:Option Cau→Value
 | some c=>.tuple #[.agg #[.int .i64 c.state,.int .i64 c.drive],.bool true]
 | none=>.tuple #[.agg #[.int .i64 0,.int .i64 0],.bool false]
def lineB(F:FltM) (i:Nat) (c:Cau):ByteArray:=⟨(lineF F i c).toArray⟩
theorem pline_any{N:Nat} {vl vm vd vp vo:Value} {Ad:Option Addr} {cd:Nat} {F:FltM} {w:World} (hf:FleetS w (Bl w.heap.size) vl vm vd (.slice Ad F.dves.length cd) vp vo F) (hok:FleetOk N F) (i:Nat) (hi:i<100) (x0:Value) (c:Cau) (hc:c∈causeC F) :
  Calls Tryz.prog 44 #[.agg #[x0,vl,vm,vd,.slice Ad F.dves.length cd,vp,vo],.int .i64 (i:Int),.agg #[.int .i64 c.state,.int .i64 c.drive]] w fun e w'=>e=.returned (.string (lineB F i c))∧Below w.heap.size w w':=by
 obtain⟨h1,h2,h3⟩:=cau_parts (causeC_ok.1 hc);refine line_any i c.state c.drive (dnOf F c.drive.toNat) x0 vl vm vd vp vo Ad F.dves.length cd w hi h1 (by have:=hok.dveN;omega) (by have:=dn_len hok c.drive.toNat;omega) (fun h4=>?_);obtain⟨h5,h6⟩:=h2 h4;obtain⟨⟨b,off,e1,e2,e3⟩,-⟩:=drv_name hf hok (d:=c.drive.toNat) (by omega);exact⟨h5,h6,b,off,e1,e2,e3⟩
theorem parseCause_any(N:Nat) (vl vm vd vv vp vo:Value) (F:FltM) (i:Nat) (t:ByteArray) (w:World) (hf:FleetS w (Bl w.heap.size) vl vm vd vv vp vo F) (hok:FleetOk N F) (hi:i<100) :
  Calls Tryz.prog 58 #[.agg #[.int .i64 F.ext,vl,vm,vd,vv,vp,vo],.int .i64 (i:Int),.string t] w fun e w'=>e=.returned (causeV (causeIs F i t.data.toList))∧Below w.heap.size w w':=by
 obtain⟨Ad,cd,rfl,-,-⟩:=SlS.form hf.2.2.2.1;have hnd:F.dves.length≤9:=hok.dveN
 have hln:=fun(c:Cau) (hc:c∈causeC F) (w':World) (hb:Below w.heap.size w w')=>pline_any (hf.below hb) hok i hi (.int .i64 F.ext) c hc
 have hfnd:∀c∈causeC F,lineB F i c=t→causeV (causeIs F i t.data.toList)=.tuple #[.agg #[.int .i64 c.state,.int .i64 c.drive],.bool true]:=fun c hc e=>by
  rw[causeIs_some hok hc (by rw[←e];unfold lineB;simp)]
  rfl
 have hmis:(∀c∈causeC F,lineB F i c≠t)→causeV (causeIs F i t.data.toList)=.tuple #[.agg #[.int .i64 0,.int .i64 0],.bool false]:=fun h=>by
  rw[causeIs_none (fun c hc e=>h c hc (by unfold lineB;rw[e]))]
  rfl
 have hcm0:(⟨4,-1⟩:Cau)∈causeC F:=causeC_mem.2 (.inl rfl)
 have hcm:∀d st:Nat,d<F.dves.length→st<3→(⟨(st:Int)+1,(d:Int)⟩:Cau)∈causeC F:=fun d st hd hs=>by
  refine causeC_mem.2 (.inr ⟨d,hd,?_⟩);rcases (show st=0∨st=1∨st=2 by omega) with rfl | rfl | rfl
  ·exact .inl rfl
  ·exact .inr (.inl rfl)
  ·exact .inr (.inr rfl)
 have hcs:∀(P:Cau→Prop),P ⟨4,-1⟩→(∀d,d<F.dves.length→∀st:Nat,st<3→P ⟨(st:Int)+1,(d:Int)⟩)→∀c∈causeC F,P c:=fun P h0 h c hc=>by
  rcases causeC_mem.1 hc with rfl | ⟨d,hd,rfl | rfl | rfl⟩
  ·exact h0
  ·exact h d hd 0 (by omega)
  ·exact h d hd 1 (by omega)
  ·exact h d hd 2 (by omega)
 obtain⟨HV,hHV⟩:=zx (causeV (causeIs F i t.data.toList));obtain⟨LB,hLB⟩:=zx (lineB F i);obtain⟨CC,hCC⟩:=zx (causeC F);obtain⟨ND,hND⟩:=zx F.dves.length;obtain⟨EX,hEX⟩:=zx F.ext;rw[←hHV,←hCC,←hLB] at hfnd hmis;rw[←hCC] at hcm0 hcm hcs hln;rw[←hND] at hnd hcm hcs;rw[←hLB,←hND,←hEX] at hln;rw[←hHV,←hND,←hEX];have HLN:=zh hln;have HFND:=zh hfnd;have HMIS:=zh hmis;have HCM0:=zh hcm0;have HCM:=zh hcm;have HCS:=zh hcs;obtain⟨W0,hW0⟩:=zx ((w.alloc (.cells #[.int .i64 EX,vl,vm,vd,.slice Ad ND cd,vp,vo] 35)).alloc (.cells #[.int .i64 0,.int .i64 0] 102));obtain⟨z,hz⟩:=zx w.heap.size;obtain⟨gR,hgR⟩:=zx (w.heap.size+1)
 have hb0:Below w.heap.size w W0:=by rw[hW0];exact((Below.refl _ _).alloc (Nat.le_refl _) _).alloc (by simp) _
 have hrk:W0.heap[gR]?=some (.cells #[.int .i64 0,.int .i64 0] 102 (0,0)):=by
  rw[hW0];exact heap_alloc_at _ _ _ (by rw[hgR];simp)
 have hzk:W0.heap[z]?=some (.cells #[.int .i64 EX,vl,vm,vd,.slice Ad ND cd,vp,vo] 35 (0,0)):=by
  rw[hW0,hz];exact(Below.heap_alloc _ _ _ (by simp)).trans (heap_alloc_new w _)
 have hzl:z<W0.heap.size:=(Array.getElem?_eq_some_iff.1 hzk).1;have hrl:gR<W0.heap.size:=(Array.getElem?_eq_some_iff.1 hrk).1;have HC:=zh (fun(w':World) (hb:Below W0.heap.size W0 w')=>cells7 ((hb.block z hzl).trans hzk));have HRK:=zh (fun(w':World) (hb:Below W0.heap.size W0 w')=>(hb.block gR hrl).trans hrk);have HRE:=zh (fun(w':World) (hb:Below W0.heap.size W0 w')=>hb0.trans (hb.mono hb0.size))
 -- the end with a cause that was found
 have HEND:=zh (fun(w5:World) (hb:Below W0.heap.size W0 w5) (a b:Int)=>(show
   (((w5.setCell ⟨gR,0,none⟩ (.int .i64 a)).setCell ⟨gR,1,none⟩ (.int .i64 b)).heap[gR]?=some (.cells #[.int .i64 a,.int .i64 b] 102 (0,0))∧Below w.heap.size w ((w5.setCell ⟨gR,0,none⟩ (.int .i64 a)).setCell ⟨gR,1,none⟩ (.int .i64 b))) from
  ⟨heap_setCell_same _ gR 1 _ _ _ (heap_setCell_same _ gR 0 _ _ _ ((hb.block gR hrl).trans hrk)),by
   have hg:w.heap.size≤gR:=by omega
   exact((hb0.trans (hb.mono hb0.size)).setCell hg _).setCell hg _⟩))
 obtain⟨W1,hW1⟩:=zx (W0.alloc (.cells #[.int .i64 4,.int .i64 (-1)] 102));obtain⟨g8,hg8⟩:=zx W0.heap.size
 have hb1:Below W0.heap.size W0 W1:=by rw[hW1];exact(Below.refl _ _).alloc (Nat.le_refl _) _
 have hk8:W1.heap[g8]?=some (.cells #[.int .i64 4,.int .i64 (-1)] 102 (0,0)):=by rw[hW1,hg8];exact heap_alloc_new _ _
 have HK8:=zh (And.intro hk8 (Array.getElem?_eq_some_iff.1 hk8).1);have HB1:=zh hb1;have HW0:=zh hW0;have HZ:=zh hz;have HGR:=zh hgR;have HW1:=zh hW1;have HG8:=zh hg8;obtain⟨e0,e1⟩:=cells2 hk8;obtain⟨c0,c1,c2,c3,c4,c5,c6⟩:=HC.out W1 hb1;clear hf hok hW0 hz hgR hb0 hrk hzk hzl hrl hND hEX hHV hLB hCC hln hfnd hmis hcm0 hcm hcs hW1 hg8 hb1 hk8;go_enter Tryz.func58,Tryz.ntmps58;go_upto_region 1 with fail;rw[←HW0.out,←HGR.out,←HZ.out];go_upto_region 2 with fail;rw[←HW1.out,←HG8.out];go_wp2_with fail;refine(HLN.out ⟨4,-1⟩ HCM0.out W1 (HRE.out W1 HB1.out)).mono ?_;rintro e w2 ⟨rfl,hb2⟩;obtain⟨l4,hl4⟩:=zx (LB ⟨4,-1⟩);rw[←hl4];have HB2:=zh (HB1.out.trans (hb2.mono HB1.out.size));by_cases hE:l4=t
 ·have hne:(l4.toList==t.toList)=true:=by rw[hE];simp
  have HRV:=zh (HFND.out _ HCM0.out (by rw[←hl4];exact hE));obtain⟨z0,z1⟩:=cells2 (HRK.out w2 HB2.out)
  have zf:=fun i=>frozen_of_row w2 gR i _ _ (HRK.out w2 HB2.out)
  have f0:=zf 0;have f1:=zf 1;have k8:=(hb2.block g8 HK8.out.2).trans HK8.out.1;clear e0 e1 c0 c1 c2 c3 c4 c5 c6;obtain⟨e0,e1⟩:=cells2 k8;clear hE hl4 hb2 zf k8;go_wp2_with fail;obtain⟨hz,hbz⟩:=HEND.out w2 HB2.out 4 (-1);obtain⟨n0,n1⟩:=cells2 hz;refine bodyPost_ret (v:=.tuple #[.agg #[.int .i64 4,.int .i64 (-1)],.bool true]) ?_ rfl ⟨by rw[HRV.out],hbz⟩;simp[results,Tryz.results58,go_sem,n0,n1]
 ·have hne:(l4.toList==t.toList)=false:=seq_no hE;have HN4:=zh (show LB ⟨4,-1⟩≠t from by rw[←hl4];exact hE);clear hE hl4 hb2 e0 e1 c0 c1 c2 c3 c4 c5 c6;obtain⟨c0,c1,c2,c3,c4,c5,c6⟩:=HC.out w2 HB2.out;go_wp2_with fail;clear c0 c1 c2 c3 c4 c5 c6 hne;go_loopg [24] ND (fun z v24 wr=>∃d:Nat,v24=.int .i64 (d:Int)∧d≤ND∧z=ND - d∧Hid (Below W0.heap.size W0 wr)∧Hid (∀d',d'<d→∀st:Nat,st<3→LB ⟨(st:Int)+1,(d':Int)⟩≠t))
  case atStart=>exact⟨0,rfl,Nat.zero_le _,rfl,HB2,zh (fun _ h=>by omega)⟩
  case round =>
   obtain⟨d,rfl,hd,rfl,HB,HND⟩:=hrel;by_cases hlt:d<ND
   ·have HLT:=zh hlt;obtain⟨W3,hW3⟩:=zx (wr.alloc (.cells #[.int .i64 1,.int .i64 2,.int .i64 3] 3));obtain⟨ga,hga⟩:=zx wr.heap.size
    have hb3:Below wr.heap.size wr W3:=by rw[hW3];exact(Below.refl _ _).alloc (Nat.le_refl _) _
    have hgk:W3.heap[ga]?=some (.cells #[.int .i64 1,.int .i64 2,.int .i64 3] 3 (0,0)):=by rw[hW3,hga];exact heap_alloc_new wr _
    have hgl:ga<W3.heap.size:=(Array.getElem?_eq_some_iff.1 hgk).1;have HB3:=zh (HB.out.trans (hb3.mono HB.out.size))
    have HGA:=zh (fun(w':World) (hb:Below W3.heap.size W3 w') (c:Nat) (hc:c<3)=>(show w'.cell? ⟨ga,c,none⟩=some (.int .i64 ((c:Int)+1)) from by
     rw[cell_of_row _ _ _ _ _ _ ((hb.block ga hgl).trans hgk)]
     have:c=0∨c=1∨c=2:=by omega
     rcases this with rfl | rfl | rfl <;> rfl))
    have HW3:=zh hW3;have HGAE:=zh hga;clear hW3 hga hb3 hgk hgl;go_wp2_with fail;rw[←HW3.out,←HGAE.out];go_loopg [29] 3 (fun z v29 wr=>∃c:Nat,v29=.int .i64 (c:Int)∧c≤3∧z=3 - c∧Hid (Below W3.heap.size W3 wr)∧Hid (∀st:Nat,st<c→LB ⟨(st:Int)+1,(d:Int)⟩≠t))
    case atStart=>exact⟨0,rfl,Nat.zero_le _,rfl,zh (Below.refl _ _),zh (fun _ h=>by omega)⟩
    case round =>
     clear HB;obtain⟨c,rfl,hc,rfl,HB,HNC⟩:=hrel;by_cases hlc:c<3
     ·have HLC:=zh hlc;have hb0w:=HB3.out.trans (HB.out.mono HB3.out.size);have g0:=HGA.out wr HB.out c hlc
      have hci:(c:Int)<3:=by omega
      obtain⟨W5,hW5⟩:=zx (wr.alloc (.cells #[.int .i64 ((c:Int)+1),.int .i64 (d:Int)] 102));obtain⟨gi,hgi⟩:=zx wr.heap.size
      have hb5:Below wr.heap.size wr W5:=by rw[hW5];exact(Below.refl _ _).alloc (Nat.le_refl _) _
      have hgk5:W5.heap[gi]?=some (.cells #[.int .i64 ((c:Int)+1),.int .i64 (d:Int)] 102 (0,0)):=by rw[hW5,hgi];exact heap_alloc_new wr _
      have hb05:=hb0w.trans (hb5.mono hb0w.size);have hhd:=HLN.out ⟨(c:Int)+1,(d:Int)⟩ (HCM.out d c HLT.out HLC.out) W5 (HRE.out W5 hb05);obtain⟨lb,hlb⟩:=zx (LB ⟨(c:Int)+1,(d:Int)⟩);rw[←hlb] at hhd;simp only at hhd;have HHD:=zh hhd;have HB5:=zh (HB.out.trans (hb5.mono HB.out.size));have HB05:=zh hb05;have HW5:=zh hW5;have HGI:=zh hgi;have HGK5:=zh (And.intro hgk5 (Array.getElem?_eq_some_iff.1 hgk5).1);have HLB:=zh hlb;clear hb0w hW5 hgi hb5 hb05 hhd hlb;go_upto_region 11 with fail;rw[←HW5.out,←HGI.out];clear g0;obtain⟨x0,x1⟩:=cells2 HGK5.out.1;obtain⟨c0,c1,c2,c3,c4,c5,c6⟩:=HC.out W5 HB05.out;go_wp2_with fail;refine HHD.out.mono ?_;rintro e w6 ⟨rfl,hb6⟩;by_cases hE:lb=t
      ·have hne:(lb.toList==t.toList)=true:=by rw[hE];simp
       have HRV:=zh (HFND.out _ (HCM.out d c HLT.out HLC.out) (by rw[←HLB.out];exact hE));have HB06:=zh (HB05.out.trans (hb6.mono HB05.out.size));clear x0 x1;obtain⟨x0,x1⟩:=cells2 ((hb6.block gi HGK5.out.2).trans HGK5.out.1);obtain⟨z0,z1⟩:=cells2 (HRK.out w6 HB06.out)
       have zf:=fun i=>frozen_of_row w6 gR i _ _ (HRK.out w6 HB06.out)
       have f0:=zf 0;have f1:=zf 1;clear hE hb6 zf c0 c1 c2 c3 c4 c5 c6;go_wp2_with fail;obtain⟨hz,hbz⟩:=HEND.out w6 HB06.out ((c:Int)+1) (d:Int);obtain⟨n0,n1⟩:=cells2 hz;refine bodyPost_ret (v:=.tuple #[.agg #[.int .i64 ((c:Int)+1),.int .i64 (d:Int)],.bool true]) ?_ rfl ⟨by rw[HRV.out],hbz⟩;simp[results,Tryz.results58,go_sem,n0,n1]
      ·have hne:(lb.toList==t.toList)=false:=seq_no hE;have HNE:=zh (show LB ⟨(c:Int)+1,(d:Int)⟩≠t from by rw[←HLB.out];exact hE);have HB6:=zh (HB5.out.trans (hb6.mono HB5.out.size));clear hE hb6 x0 x1 c0 c1 c2 c3 c4 c5 c6;go_wp2_with fail;go_roundg (3 - (c+1))
       case measure=>have:=HLC.out;omega
       case rel=>exact⟨c+1,by go_num,by have:=HLC.out;omega,rfl,HB6,zh (fun st hs=>by
        rcases (show st=c∨st<c by omega) with rfl | h
        ·exact HNE.out
        ·exact HNC.out st h)⟩
     ·have hc3:c=3:=by omega
      subst hc3;go_wp2_with fail;go_roundg (ND - (d+1))
      case measure=>have:=HLT.out;omega
      case rel=>exact⟨d+1,by go_num,by have:=HLT.out;omega,rfl,zh (HB3.out.trans (HB.out.mono HB3.out.size)),zh (fun d' hd'=>by
       rcases (show d'=d∨d'<d by omega) with rfl | h
       ·exact HNC.out
       ·exact HND.out d' h)⟩
   ·have hdn:d=ND:=by omega
    have HRV:=zh (HMIS.out (HCS.out (fun c=>LB c≠t) HN4.out (by rw[←hdn];exact HND.out)));obtain⟨z0,z1⟩:=cells2 (HRK.out wr HB.out)
    have zf:=fun i=>frozen_of_row wr gR i _ _ (HRK.out wr HB.out)
    have f0:=zf 0;have f1:=zf 1;subst hdn;clear zf;go_wp2_with fail;obtain⟨hz,hbz⟩:=HEND.out wr HB.out 0 0;obtain⟨n0,n1⟩:=cells2 hz;refine bodyPost_ret (v:=.tuple #[.agg #[.int .i64 0,.int .i64 0],.bool false]) ?_ rfl ⟨by rw[HRV.out],hbz⟩;simp[results,Tryz.results58,go_sem,n0,n1]
end Go.Proofs.YtcfkllnpkmebpaaGreatDoor

namespace Go.Proofs.YtcfkllnpkmebpaaGreatDoor
open Go.RowKit
set_option linter.unusedVariables false
set_option linter.unusedSimpArgs false
theorem last_snoc(L:List Inc) (x:Inc):(L++[x])[(L++[x]).length - 1]! = x:=by
 simp[List.length_append]
theorem snoc_ne(L:List Inc) (x:Inc):L++[x]≠[]:=by simp
theorem set_snoc(L:List Inc) (x y:Inc):(L++[x]).set ((L++[x]).length - 1) y=L++[y]:=by
 have:(L++[x]).length - 1=L.length:=by simp
 rw[this,List.set_append_right _ _ (Nat.le_refl _),Nat.sub_self]
 rfl
theorem left_snoc(F:FltM) (L:List Inc) (x:Inc):leftOf F (L++[x])=lackI F x:=by
 unfold leftOf;rw[if_neg (snoc_ne L x),last_snoc]
theorem lineOf_pre{t s:List UInt8} (ht:10∉t) (h:(t++[10]) <+: s):lineOf s=some (t,s.drop (t.length+1)):=by
 obtain⟨r,hr⟩:=h
 have e:s=t++10 :: r:=by rw[←hr];simp
 have e2:s.drop (t.length+1)=r:=by
  rw[←hr]
  have:t.length+1=(t++[10]).length:=by simp
  rw[this,List.drop_left]
 rw[e2,e];exact lineOf_mk r ht
section
variable {N : Nat} {F : FltM} (hok : FleetOk N F) (hN : N ≤ 12)
include hok hN
theorem pars_first(hk:∀v,v<F.vols.length→kOf F v<100) {L:List Inc} (hl:leftOf F L=0) {x:Inc} (hx:x∈headC F) {s:List UInt8} (hs:(headF F x++[10]) <+: s) (ho:L=[]∨incLtB L[L.length - 1]! x=true) (n:Nat) :
  parsR F L s n=parsR F (L++[x]) (s.drop ((headF F x).length+1)) (n+1):=by
 refine pars_step F L n (lineOf_pre (headF_ten hok hx hk) hs) ?_;unfold stepP;rw[if_pos hl,headOf_some hok hN hx rfl]
 dsimp only
 rw[if_pos ho]
theorem pars_nofirst(hk:∀v,v<F.vols.length→kOf F v<100) {L:List Inc} (hl:leftOf F L=0) {s:List UInt8} (h0:s≠[]) (h:∀x∈headC F,(L=[]∨incLtB L[L.length - 1]! x=true)→¬(headF F x++[10]) <+: s) (n:Nat) :
  parsR F L s n=([],104,n):=by
 cases hc:lineOf s with
 | none=>exact pars_noline F L n h0 hc
 | some p =>
  obtain⟨t,r⟩:=p;refine pars_stop F L n hc ?_;have e:=(lineOf_some hc).1;unfold stepP;rw[if_pos hl]
  cases hh:headOf F t with
  | none=>rfl
  | some x =>
   dsimp only
   obtain⟨h1,h2⟩:=headOf_spec hh;by_cases ho:L=[]∨incLtB L[L.length - 1]! x=true
   ·exact absurd ⟨r,by rw[h2,e];simp⟩ (h x h1 ho)
   ·rw[if_neg ho]
theorem pars_cause{L:List Inc} {x:Inc} (hl:lackI F x≠0) (hi:x.causes.length<100) {c:Cau} (hc:c∈causeC F) {s:List UInt8} (hs:(lineF F x.causes.length c++[10]) <+: s) (ha:ableB F (withC x c)=true) (n:Nat) :
  parsR F (L++[x]) s n=parsR F (L++[withC x c]) (s.drop ((lineF F x.causes.length c).length+1)) (n+1):=by
 refine pars_step F _ n (lineOf_pre (lineF_ten hok hi hc) hs) ?_;unfold stepP;rw[left_snoc,if_neg hl,last_snoc,causeIs_some hok hc rfl]
 dsimp only
 rw[if_pos ha,set_snoc]
theorem pars_nocause{L:List Inc} {x:Inc} (hl:lackI F x≠0) {s:List UInt8} (h:∀c∈causeC F,(lineF F x.causes.length c++[10]) <+: s→ableB F (withC x c)=false) (n:Nat) :
  parsR F (L++[x]) s n=([],104,n):=by
 by_cases h0:s=[]
 ·subst h0;exact pars_cut F _ n (by rw[left_snoc];exact hl)
 ·cases hc:lineOf s with
  | none=>exact pars_noline F _ n h0 hc
  | some p =>
   obtain⟨t,r⟩:=p;refine pars_stop F _ n hc ?_;have e:=(lineOf_some hc).1;unfold stepP;rw[left_snoc,if_neg hl,last_snoc]
   cases hh:causeIs F x.causes.length t with
   | none=>rfl
   | some c =>
    dsimp only
    obtain⟨h1,h2⟩:=causeIs_spec hh;rw[h c h1 ⟨r,by rw[h2,e];simp⟩]
    rfl
end
end Go.Proofs.YtcfkllnpkmebpaaGreatDoor

namespace Go.Proofs.YtcfkllnpkmebpaaGreatDoor
open Go.RowKit
set_option linter.unusedVariables false
set_option linter.unusedSimpArgs false
section
variable {N : Nat} {F : FltM} (hok : FleetOk N F) (hN : N ≤ 12)
include hok hN
end
structure MacOk (F:FltM) (L:List Inc):Prop where
 ord:∀i,i<L.length→ordAt L i=true
 str:∀x∈L,isStr F.vols.length F.ext x.vol x.stripe=true∧x.need=kOf F x.vol.toNat∧(∀c∈x.causes,cauOk F.dves.length c=true)∧ableB F x=true
 full:∀i,i+1<L.length→lackI F L[i]! = 0
end Go.Proofs.YtcfkllnpkmebpaaGreatDoor
