/- Rescue, plain: the search of the program, over sets of bits. -/
import Derived.Test.YtcfkllnpkmebpaaGreatDoorMh23
import Derived.Test.YtcfkllnpkmebpaaGreatDoorMh01
import Derived.Test.YtcfkllnpkmebpaaGreatDoorMh04
import Derived.Test.YtcfkllnpkmebpaaGreatDoorMh17
set_option maxRecDepth 100000
set_option maxHeartbeats 12800000
namespace Go.Proofs.YtcfkllnpkmebpaaGreatDoor
open Go.RowKit
set_option linter.unusedVariables false
set_option linter.unusedSimpArgs false
def HvOk(r:Re) (v s:Int) (n:Nat) (hv:Nat→Nat):Prop:=∀d i,(hv d).testBit i=(decide (i<n)&&!onB r d&&(pieces r).any fun x=>isB x.p v (i:Int) s&&decide (x.drive=d))
def BaseOk(r:Re) (v s:Int) (n base:Nat):Prop:=∀i,base.testBit i=(decide (i<n)&&upF r v s [] i)
theorem hv_ne{r:Re} {v s:Int} {n:Nat} {hv:Nat→Nat} (h:HvOk r v s n hv) (d:Nat):hv d≠0↔(!onB r d&&(List.range n).any fun i=>(pieces r).any fun x=>isB x.p v (i:Int) s&&decide (x.drive=d))=true:=by
 rw[Bool.and_eq_true,List.any_eq_true]
 constructor
 ·intro h0
  obtain⟨i,hi⟩:=Nat.exists_testBit_of_ne_zero h0
  rw[h d i,Bool.and_eq_true,Bool.and_eq_true,decide_eq_true_eq] at hi
  exact⟨hi.1.2,i,by simpa using hi.1.1,hi.2⟩
 ·rintro ⟨h1,i,hi,h2⟩ h0
  have:=h d i
  rw[h0,Nat.zero_testBit,h1,h2,decide_eq_true (by simpa using hi)] at this
  cases this
theorem off_hv{r:Re} {v s:Int} {n:Nat} {hv:Nat→Nat} (h:HvOk r v s n hv):(List.range' 0 (r.plat.length - 0)).filter (fun d=>decide (hv d≠0))=offD r v s n:=by
 unfold offD
 rw[Nat.sub_zero,←List.range_eq_range']
 apply List.filter_congr
 intro d _
 rw[Bool.eq_iff_iff,decide_eq_true_eq]
 exact hv_ne h d
theorem popc_cnt{r:Re} {v s:Int} {n:Nat} {t:Nat} {set:List Nat} (hn:n≤8) (h:∀i,t.testBit i=(decide (i<n)&&upF r v s set i)):popc t=cntS r v s n set:=by
 unfold popc cntS
 have e:∀m,((List.range m).filter fun i=>t.testBit i).length=((List.range (min m n)).filter (upF r v s set)).length:=by
  intro m
  induction m with
  | zero=>simp
  | succ m ih =>
   rw[List.range_succ,List.filter_append,List.length_append,ih]
   by_cases hm:m<n
   ·rw[show min (m+1) n=m+1 by omega,show min m n=m by omega,List.range_succ,List.filter_append,List.length_append]
    congr 1
    rw[List.filter_cons,List.filter_cons,h m,decide_eq_true hm,Bool.true_and]
    rfl
   ·rw[show min (m+1) n=n by omega,show min m n=n by omega]
    simp[h m,hm]
 rw[e 8,show min 8 n=n by omega]
theorem upF_or{r:Re} {v s:Int} {set:List Nat} {i d:Nat} (ho:onB r d=false):upF r v s (set++[d]) i=(upF r v s set i||(pieces r).any fun x=>isB x.p v (i:Int) s&&decide (x.drive=d)):=by
 rw[Bool.eq_iff_iff,Bool.or_eq_true,upF_iff,upF_iff,List.any_eq_true]
 constructor
 ·rintro ⟨x,hx,h1,h2⟩
  rcases h2 with h2 | h2
  ·exact .inl ⟨x,hx,h1,.inl h2⟩
  ·rcases List.mem_append.1 h2 with h2 | h2
   ·exact .inl ⟨x,hx,h1,.inr h2⟩
   ·exact .inr ⟨x,hx,by rw[Bool.and_eq_true,decide_eq_true_eq];exact⟨h1,by simpa using h2⟩⟩
 ·rintro (⟨x,hx,h1,h2⟩ | ⟨x,hx,h1⟩)
  ·exact⟨x,hx,h1,h2.imp id (fun h=>by simp[h])⟩
  ·rw[Bool.and_eq_true,decide_eq_true_eq] at h1
   exact⟨x,hx,h1.1,.inr (by simp[h1.2])⟩
theorem bits_or{r:Re} {v s:Int} {n:Nat} {hv:Nat→Nat} {t:Nat} {set:List Nat} {d:Nat} (hh:HvOk r v s n hv) (h:∀i,t.testBit i=(decide (i<n)&&upF r v s set i)) (hd:d∈offD r v s n) :
  ∀i,(t ||| hv d).testBit i=(decide (i<n)&&upF r v s (set++[d]) i):=by
 intro i
 have ho:onB r d=false:=by
  unfold offD at hd
  rw[List.mem_filter,Bool.and_eq_true] at hd
  simpa using hd.2.1
 rw[Nat.testBit_or,h i,hh d i,upF_or ho,ho]
 cases decide (i<n) <;> simp
def rescL(r:Re) (v s:Int) (n K:Nat):List Nat :=
 ((offD r v s n).findSome? (fun d=>if K≤cntS r v s n [d] then some [d] else none)).getD
  ((pick2 (fun a b=>if K≤cntS r v s n [a,b] then some [a,b] else none) (offD r v s n)).getD [])
theorem find_congr{α β:Type} {f g:α→Option β}:∀{l:List α},(∀x∈l,f x=g x)→l.findSome? f=l.findSome? g
 | [],_=>rfl
 | a :: l,h=>by
  rw[List.findSome?_cons,List.findSome?_cons,h a (by simp),find_congr (l:=l) (fun x hx=>h x (by simp[hx]))]
theorem pick2_congr{β:Type} {f g:Nat→Nat→Option β}:∀{l:List Nat},(∀x∈l,∀y∈l,f x y=g x y)→pick2 f l=pick2 g l
 | [],_=>rfl
 | a :: l,h=>by
  show Option.or _ _=Option.or _ _
  rw[pick2_congr (l:=l) (fun x hx y hy=>h x (by simp[hx]) y (by simp[hy])),find_congr (l:=l) (fun y hy=>h a (by simp) y (by simp[hy]))]
theorem chs_one_eq{r:Re} {v s:Int} {n K base:Nat} {hv:Nat→Nat} (hn:n≤8) (hh:HvOk r v s n hv) (hb:BaseOk r v s n base) :
  chs hv r.plat.length K 1 0 base=(offD r v s n).findSome? (fun d=>if K≤cntS r v s n [d] then some [d] else none):=by
 rw[chs_one hv _ K base _ 0 rfl,off_hv hh]
 apply find_congr
 intro d hd
 rw[popc_cnt hn (bits_or hh hb hd)]
 rfl
theorem chs_two_eq{r:Re} {v s:Int} {n K base:Nat} {hv:Nat→Nat} (hn:n≤8) (hh:HvOk r v s n hv) (hb:BaseOk r v s n base) :
  chs hv r.plat.length K 2 0 base=pick2 (fun a b=>if K≤cntS r v s n [a,b] then some [a,b] else none) (offD r v s n):=by
 rw[chs_two hv _ K base _ 0 rfl,off_hv hh]
 apply pick2_congr
 intro a ha c hc
 rw[popc_cnt hn (bits_or hh (bits_or hh hb ha) hc)]
 rfl
theorem find_some_of{α β:Type} {f:α→Option β} {l:List α} {x:α} (hx:x∈l) (h:(f x).isSome=true):(l.findSome? f).isSome=true:=by
 rw[List.findSome?_isSome_iff]
 exact⟨x,hx,h⟩
theorem pick2_some_of{β:Type} {f:Nat→Nat→Option β}:∀{l:List Nat},l.Pairwise (·<·)→∀{a c:Nat},a∈l→c∈l→a<c→(f a c).isSome=true→(pick2 f l).isSome=true
 | [],_,a,c,ha,_,_,_=>by cases ha
 | b :: l,hp,a,c,ha,hc,hac,h=>by
  show(Option.or _ _).isSome=true
  rw[Option.isSome_or,Bool.or_eq_true]
  rw[List.pairwise_cons] at hp
  rcases List.mem_cons.1 ha with rfl | ha'
  ·rcases List.mem_cons.1 hc with rfl | hc'
   ·omega
   ·exact .inl (find_some_of hc' h)
  ·rcases List.mem_cons.1 hc with rfl | hc'
   ·have:=hp.1 a ha'
    omega
   ·exact .inr (pick2_some_of hp.2 ha' hc' hac h)
theorem off_sorted(r:Re) (v s:Int) (n:Nat):(offD r v s n).Pairwise (·<·):=List.Pairwise.sublist List.filter_sublist List.pairwise_lt_range
theorem resc_found{r:Re} {v s:Int} {n K:Nat} (hK:K=1∨K=2) (hl:K≤((List.range n).filter (anyF r v s)).length) (hu:cntS r v s n []<K) :
  ((offD r v s n).findSome? (fun d=>if K≤cntS r v s n [d] then some [d] else none)).isSome=true ∨
  (K=2∧(pick2 (fun a b=>if K≤cntS r v s n [a,b] then some [a,b] else none) (offD r v s n)).isSome=true):=by
 rcases resc_ex hK hl hu with ⟨d,hd,h⟩ | ⟨h2,a,ha,b,hb,hab,h⟩
 ·exact .inl (find_some_of hd (by rw[if_pos h];rfl))
 ·exact .inr ⟨h2,pick2_some_of (off_sorted r v s n) ha hb hab (by rw[if_pos (by omega)];rfl)⟩
end Go.Proofs.YtcfkllnpkmebpaaGreatDoor

namespace Go.Proofs.YtcfkllnpkmebpaaGreatDoor
open Go.RowKit
set_option linter.unusedVariables false
set_option linter.unusedSimpArgs false
def anyD(r:Re) (v s:Int) (b d:Nat):Bool:=(pieces r).any fun x=>isB x.p v (b:Int) s&&decide (x.drive=d)
theorem good_mem(r:Re) (v f s:Int) (d:Nat):(d:Int)∈goodI r v f s↔((pieces r).any fun x=>isB x.p v f s&&decide (x.drive=d))=true:=by
 have h:=good_find r v f s (fun y=>y==(d:Int))
 have e1:(d:Int)∈goodI r v f s↔((goodI r v f s).find? (fun y=>y==(d:Int))).isSome=true:=by
  rw[List.find?_isSome]
  constructor
  ·intro hm;exact⟨_,hm,by simp⟩
  ·rintro ⟨y,hm,hy⟩
   rw[beq_iff_eq] at hy
   exact hy▸hm
 rw[e1,h,Option.isSome_map,List.find?_isSome,List.any_eq_true]
 constructor
 ·rintro ⟨x,hx,h1⟩
  rw[Bool.and_eq_true,beq_iff_eq] at h1
  exact⟨x,hx,by rw[Bool.and_eq_true,decide_eq_true_eq];exact⟨h1.1,by omega⟩⟩
 ·rintro ⟨x,hx,h1⟩
  rw[Bool.and_eq_true,decide_eq_true_eq] at h1
  exact⟨x,hx,by rw[Bool.and_eq_true,beq_iff_eq];exact⟨h1.1,by omega⟩⟩
theorem good_nat(r:Re) (v f s:Int):∀y∈goodI r v f s,∃d:Nat,y=(d:Int)∧d<r.plat.length:=fun y hy=>by
 obtain⟨x,hx,e⟩:=goodTo_mem v f s _ y hy
 exact⟨x.drive,e,pieces_lt r x hx⟩
structure GotP (r:Re) (v s:Int) (i j:Nat) (hv:Nat→Nat) (base:Nat):Prop where
 have_:∀d b,(hv d).testBit b=(!onB r d&&((decide (b<i)&&anyD r v s b d)||(decide (b=i)&&decide ((d:Int)∈(goodI r v (i:Int) s).take j))))
 base_:∀b,base.testBit b=((decide (b<i)&&upF r v s [] b)||(decide (b=i)&&((goodI r v (i:Int) s).take j).any (fun y=>onB r y.toNat)))
theorem GotP.start(r:Re) (v s:Int):GotP r v s 0 0 (fun _=>0) 0 where
 have_ d b:=by simp
 base_ b:=by simp
theorem take_get{α:Type} {l:List α} {j:Nat} (h:j<l.length):l.take (j+1)=l.take j++[l[j]]:=List.take_succ_eq_append_getElem h
theorem GotP.on{r:Re} {v s:Int} {i j:Nat} {hv:Nat→Nat} {base d:Nat} (h:GotP r v s i j hv base) (hj:j<(goodI r v (i:Int) s).length) (hd:(goodI r v (i:Int) s)[j]=(d:Int)) (ho:onB r d=true):GotP r v s i (j+1) hv (base ||| 2 ^ i) where
 have_ c b:=by
  rw[h.have_ c b,take_get hj,hd]
  by_cases hc:c=d
  ·subst hc;rw[ho];simp
  ·have e:decide ((c:Int)∈(goodI r v (i:Int) s).take j++[(d:Int)])=decide ((c:Int)∈(goodI r v (i:Int) s).take j):=by
    rw[decide_eq_decide,List.mem_append,List.mem_singleton]
    constructor
    ·rintro (h | h)
     ·exact h
     ·omega
    ·exact .inl
   rw[e]
 base_ b:=by
  rw[Nat.testBit_or,h.base_ b,take_get hj,hd,List.any_append,Nat.testBit_two_pow]
  have e:[(d:Int)].any (fun y=>onB r y.toNat)=true:=by simp[ho]
  rw[e]
  by_cases hb:i=b
  ·subst hb;simp
  ·have hb':¬b=i:=fun e=>hb e.symm
   simp[hb,hb']
def updN(hv:Nat→Nat) (d x:Nat):Nat→Nat:=fun c=>if c=d then x else hv c
theorem GotP.off{r:Re} {v s:Int} {i j:Nat} {hv:Nat→Nat} {base d:Nat} (h:GotP r v s i j hv base) (hj:j<(goodI r v (i:Int) s).length) (hd:(goodI r v (i:Int) s)[j]=(d:Int)) (ho:onB r d=false):GotP r v s i (j+1) (updN hv d (hv d ||| 2 ^ i)) base where
 have_ c b:=by
  unfold updN
  rw[take_get hj,hd]
  by_cases hc:c=d
  ·subst hc
   rw[if_pos rfl,Nat.testBit_or,h.have_ c b,ho,Nat.testBit_two_pow]
   have e:decide ((c:Int)∈(goodI r v (i:Int) s).take j++[(c:Int)])=true:=by simp
   rw[e]
   by_cases hb:i=b
   ·subst hb;simp
   ·have hb':¬b=i:=fun e=>hb e.symm
    simp[hb,hb']
  ·rw[if_neg hc,h.have_ c b]
   have e:decide ((c:Int)∈(goodI r v (i:Int) s).take j++[(d:Int)])=decide ((c:Int)∈(goodI r v (i:Int) s).take j):=by
    rw[decide_eq_decide,List.mem_append,List.mem_singleton]
    constructor
    ·rintro (h | h)
     ·exact h
     ·omega
    ·exact .inl
   rw[e]
 base_ b:=by
  rw[h.base_ b,take_get hj,hd,List.any_append]
  have e:[(d:Int)].any (fun y=>onB r y.toNat)=false:=by simp[ho]
  rw[e,Bool.or_false]
theorem GotP.next{r:Re} {v s:Int} {i j:Nat} {hv:Nat→Nat} {base:Nat} (h:GotP r v s i j hv base) (hj:(goodI r v (i:Int) s).length≤j):GotP r v s (i+1) 0 hv base where
 have_ d b:=by
  rw[h.have_ d b,List.take_of_length_le hj,List.take_zero]
  have e:decide ((d:Int)∈goodI r v (i:Int) s)=anyD r v s i d:=by
   rw[Bool.eq_iff_iff,decide_eq_true_eq];exact good_mem r v (i:Int) s d
  rw[e]
  by_cases hb:b=i
  ·subst hb;simp
  ·by_cases hl:b<i
   ·have:b<i+1:=by omega
    simp[hb,hl,this]
   ·have:¬b<i+1:=by omega
    simp[hb,hl,this]
 base_ b:=by
  rw[h.base_ b,List.take_of_length_le hj,List.take_zero]
  have e:(goodI r v (i:Int) s).any (fun y=>onB r y.toNat)=upF r v s [] i:=by
   rw[Bool.eq_iff_iff,List.any_eq_true,upF_iff]
   constructor
   ·rintro ⟨y,hy,ho⟩
    obtain⟨d,rfl,-⟩:=good_nat r v (i:Int) s y hy
    have hm:=(good_mem r v (i:Int) s d).1 hy
    rw[List.any_eq_true] at hm
    obtain⟨x,hx,h1⟩:=hm
    rw[Bool.and_eq_true,decide_eq_true_eq] at h1
    rw[Int.toNat_natCast] at ho
    exact⟨x,hx,h1.1,.inl (h1.2▸ho)⟩
   ·rintro ⟨x,hx,h1,h2⟩
    have ho:onB r x.drive=true:=h2.resolve_right (fun h=>by cases h)
    refine⟨(x.drive:Int),(good_mem r v (i:Int) s x.drive).2 ?_,by rw[Int.toNat_natCast];exact ho⟩
    rw[List.any_eq_true]
    exact⟨x,hx,by rw[h1];simp⟩
  rw[e]
  by_cases hb:b=i
  ·subst hb;simp
  ·by_cases hl:b<i
   ·have:b<i+1:=by omega
    simp[hb,hl,this]
   ·have:¬b<i+1:=by omega
    simp[hb,hl,this]
theorem GotP.end_{r:Re} {v s:Int} {n:Nat} {hv:Nat→Nat} {base:Nat} (h:GotP r v s n 0 hv base):HvOk r v s n hv∧BaseOk r v s n base:=by
 constructor
 ·intro d b
  rw[h.have_ d b,List.take_zero]
  unfold anyD
  cases onB r d <;> cases decide (b<n) <;> simp
 ·intro b
  rw[h.base_ b,List.take_zero]
  simp
theorem GotP.small{r:Re} {v s:Int} {i j:Nat} {hv:Nat→Nat} {base:Nat} (h:GotP r v s i j hv base) (hi:i≤7):base<256∧∀d,hv d<256:=by
 constructor
 ·refine Nat.lt_pow_two_of_testBit (n:=8) _ (fun b hb=>?_)
  rw[h.base_ b,decide_eq_false (show ¬b<i by omega),decide_eq_false (show ¬b=i by omega)]
  rfl
 ·intro d
  refine Nat.lt_pow_two_of_testBit (n:=8) _ (fun b hb=>?_)
  rw[h.have_ d b,decide_eq_false (show ¬b<i by omega),decide_eq_false (show ¬b=i by omega)]
  simp
end Go.Proofs.YtcfkllnpkmebpaaGreatDoor

namespace Go.Proofs.YtcfkllnpkmebpaaGreatDoor
def nextL(n:Nat):List Nat→Option (List Nat)
 | [i]=>if i+1<n then some [i+1] else none
 | [i,j]=>if j+1<n then some [i,j+1] else if i+2<n then some [i+1,i+2] else none
 | _=>none
end Go.Proofs.YtcfkllnpkmebpaaGreatDoor

namespace Go.Proofs.YtcfkllnpkmebpaaGreatDoor
open Go.RowKit
set_option linter.unusedVariables false
set_option linter.unusedSimpArgs false
def from1{β:Type} (p:Nat→Option β) (off:List Nat) (i:Nat):Option β:=(off.drop i).findSome? p
def from2{β:Type} (p:Nat→Nat→Option β) (off:List Nat) (i j:Nat):Option β:=((off.drop j).findSome? (p (off.getD i 0))).or (pick2 p (off.drop (i+1)))
theorem drop_getD{off:List Nat} {i:Nat} (h:i<off.length):off.drop i=off.getD i 0 :: off.drop (i+1):=by
 rw[List.drop_eq_getElem_cons h]
 simp[List.getD_eq_getElem?_getD,h]
theorem from1_step{β:Type} {p:Nat→Option β} {off:List Nat} {i:Nat} (h:i<off.length):from1 p off i=(p (off.getD i 0)).or (from1 p off (i+1)):=by
 unfold from1
 rw[drop_getD h,List.findSome?_cons]
 cases p (off.getD i 0) <;> rfl
theorem from1_end{β:Type} {p:Nat→Option β} {off:List Nat} {i:Nat} (h:off.length≤i):from1 p off i=none:=by
 unfold from1
 rw[List.drop_eq_nil_of_le h]
 rfl
theorem pick2_from{β:Type} {p:Nat→Nat→Option β} {off:List Nat} {i:Nat} (h:i<off.length):pick2 p (off.drop i)=from2 p off i (i+1):=by
 rw[drop_getD h]
 rfl
theorem from2_step{β:Type} {p:Nat→Nat→Option β} {off:List Nat} {i j:Nat} (h:j<off.length):from2 p off i j=(p (off.getD i 0) (off.getD j 0)).or (from2 p off i (j+1)):=by
 unfold from2
 rw[drop_getD h,List.findSome?_cons]
 cases p (off.getD i 0) (off.getD j 0) <;> rfl
theorem from2_row{β:Type} {p:Nat→Nat→Option β} {off:List Nat} {i j:Nat} (h:off.length≤j):from2 p off i j=pick2 p (off.drop (i+1)):=by
 unfold from2
 rw[List.drop_eq_nil_of_le h]
 rfl
theorem pick2_short{β:Type} {p:Nat→Nat→Option β} {off:List Nat} {i:Nat} (h:off.length≤i+1):pick2 p (off.drop i)=none:=by
 by_cases hi:i<off.length
 ·rw[drop_getD hi,List.drop_eq_nil_of_le h];rfl
 ·rw[List.drop_eq_nil_of_le (by omega)];rfl
end Go.Proofs.YtcfkllnpkmebpaaGreatDoor

namespace Go.Proofs.YtcfkllnpkmebpaaGreatDoor
open Go.RowKit
set_option linter.unusedVariables false
set_option linter.unusedSimpArgs false
theorem ionline_any(vp vo va:Value) (r:Re) (d:Nat) (w:World) (h:ReS w (Bl w.heap.size) vp vo va r) (hd:d≤1048576) :
  Calls Tryz.prog 62 #[.agg #[vp,vo,va],.int .i64 (d:Int)] w fun e w'=>e=.returned (.bool (onB r d))∧Below w.heap.size w w':=by
 obtain⟨A,c,rfl,-,hm⟩:=h.2.1.form
 unfold maxLen at hm
 by_cases hlt:d<r.on.length
 ·obtain⟨b,off,cs,rfl,hR,-,hc,hk⟩:=h.2.1.at_ hlt
  have hk':cs=[.bool r.on[d]]:=hk
  have hcell:=hc 0 (.bool r.on[d]) (by rw[hk'];rfl)
  simp only[Nat.mul_one,Nat.add_zero] at hcell
  have hcell2:(w.alloc (.cells #[vp,.slice (some ⟨b,off,none⟩) r.on.length c,va] 40)).cell? ⟨b,off+d,none⟩=some (.bool r.on[d]) :=
   (((Below.refl w.heap.size w).alloc (Nat.le_refl _) _).cell (p:=⟨b,off+d,none⟩) hR).trans hcell
  have hE:onB r d=r.on[d]:=getD_lt _ _ hlt
  rw[hE]
  generalize r.on[d]=x at *
  clear hc hk hk' hcell h hE
  go_enter Tryz.func62,Tryz.ntmps62
  go_wp2
  go_ret
  exact⟨rfl,(Below.refl _ _).alloc (Nat.le_refl _) _⟩
 ·have hE:onB r d=false:=by unfold onB;rw[List.getD,List.getElem?_eq_none (by omega)];rfl
  rw[hE]
  clear h hE
  go_enter Tryz.func62,Tryz.ntmps62
  go_wp2
  go_ret
  exact⟨rfl,(Below.refl _ _).alloc (Nat.le_refl _) _⟩
def isStr(n:Nat) (ext v s:Int):Bool:=decide (0≤v∧v<(n:Int)∧0≤s∧s<ext)
theorem iisStripe_any(x1 x2 x3 x4 x5:Value) (A:Option Addr) (n c:Nat) (ext v s:Int) (w:World) (hn:n≤16777216) :
  Calls Tryz.prog 49 #[.agg #[.int .i64 ext,x1,x2,x3,x4,x5,.slice A n c],.int .i64 v,.int .i64 s] w fun e w'=>e=.returned (.bool (isStr n ext v s))∧Below w.heap.size w w':=by
 by_cases h1:0≤v
 ·by_cases h2:v<(n:Int)
  ·by_cases h3:0≤s
   ·by_cases h4:s<ext
    ·rw[show isStr n ext v s=true from decide_eq_true ⟨h1,h2,h3,h4⟩]
     go_enter Tryz.func49,Tryz.ntmps49
     go_wp2
     go_ret
     exact⟨rfl,(Below.refl _ _).alloc (Nat.le_refl _) _⟩
    ·rw[show isStr n ext v s=false from decide_eq_false (fun h=>h4 h.2.2.2)]
     go_enter Tryz.func49,Tryz.ntmps49
     go_wp2
     go_ret
     exact⟨rfl,(Below.refl _ _).alloc (Nat.le_refl _) _⟩
   ·rw[show isStr n ext v s=false from decide_eq_false (fun h=>h3 h.2.2.1)]
    go_enter Tryz.func49,Tryz.ntmps49
    go_wp2
    go_ret
    exact⟨rfl,(Below.refl _ _).alloc (Nat.le_refl _) _⟩
  ·rw[show isStr n ext v s=false from decide_eq_false (fun h=>h2 h.2.1)]
   go_enter Tryz.func49,Tryz.ntmps49
   go_wp2
   go_ret
   exact⟨rfl,(Below.refl _ _).alloc (Nat.le_refl _) _⟩
 ·rw[show isStr n ext v s=false from decide_eq_false (fun h=>h1 h.1)]
  go_enter Tryz.func49,Tryz.ntmps49
  go_wp2
  go_ret
  exact⟨rfl,(Below.refl _ _).alloc (Nat.le_refl _) _⟩
end Go.Proofs.YtcfkllnpkmebpaaGreatDoor

namespace Go.Proofs.YtcfkllnpkmebpaaGreatDoor
open Go.RowKit
set_option linter.unusedVariables false
set_option linter.unusedSimpArgs false
theorem keyL_in(F:FltM) (r:Re) (cond:Int→Int→Int→Bool) (ext NO v s:Nat) (hv:v<NO) (hs:s<ext):(v,s)∈keyL F r cond ext NO 0↔keyP F r cond (v,s)=true:=by
 unfold keyL
 rw[List.mem_filter]
 have hm:(v,s)∈keysTo ext NO 0:=by
  unfold keysTo
  exact List.mem_append_left _ (List.mem_flatMap.2 ⟨v,List.mem_range.2 hv,List.mem_map.2 ⟨s,List.mem_range.2 hs,rfl⟩⟩)
 exact⟨fun h=>h.2,fun h=>⟨hm,h⟩⟩
theorem keyL_dec(F:FltM) (r:Re) (cond:Int→Int→Int→Bool) (ext NO v s:Nat) (hv:v<NO) (hs:s<ext):decide ((v,s)∈keyL F r cond ext NO 0)=keyP F r cond (v,s):=by
 rw[Bool.eq_iff_iff,decide_eq_true_eq];exact keyL_in F r cond ext NO v s hv hs
theorem key_away{F:FltM} {r:Re} {v s n K:Nat} (hn:kOf F v+mOf F v=(n:Int)) (hK:kOf F v=(K:Int)) (h8:n≤8) (h:keyP F r (condR false) (v,s)=true) :
  K≤((List.range n).filter (anyF r (v:Int) (s:Int))).length∧cntS r (v:Int) (s:Int) n []<K∧(verOf r.acks (v:Int) (s:Int)).isSome=true:=by
 unfold keyP condR at h
 simp only at h
 rw[hn,hK,cnt_all r v s n h8,cnt_up r v s n h8] at h
 simp only[Bool.false_eq_true,if_false,Bool.and_eq_true,Bool.not_eq_true',decide_eq_true_eq,decide_eq_false_iff_not] at h
 exact⟨by omega,by omega,h.1⟩
theorem key_with{F:FltM} {r:Re} {v s n K:Nat} (hn:kOf F v+mOf F v=(n:Int)) (hK:kOf F v=(K:Int)) (h8:n≤8) (h:keyP F r (condR false) (v,s)=true) (set:List Nat) :
  keyP F (withR r set) (condR false) (v,s)=!decide (K≤cntS r (v:Int) (s:Int) n set):=by
 obtain⟨h1,-,h3⟩:=key_away hn hK h8 h
 unfold keyP condR
 simp only
 have e1:cntI (withR r set) v s false (n:Int)=(((List.range n).filter (anyF r (v:Int) (s:Int))).length:Int):=by
  rw[cnt_all _ v s n h8];rfl
 rw[hn,hK,e1,cnt_with r v s n h8 set,show(withR r set).acks=r.acks from rfl,h3]
 rw[decide_eq_false (show ¬(((List.range n).filter (anyF r (v:Int) (s:Int))).length:Int)<(K:Int) by omega)]
 simp only[Bool.false_eq_true,if_false,Bool.true_and,Bool.not_false]
 rw[Bool.eq_iff_iff,Bool.not_eq_true',decide_eq_true_eq,decide_eq_false_iff_not]
 omega
def resS(F:FltM) (r:Re) (v s:Int):List Nat×Int :=
 if isStr F.vols.length F.ext v s=true then
  if keyP F r (condR true) (v.toNat,s.toNat)=true then([],121)
  else if keyP F r (condR false) (v.toNat,s.toNat)=true then(rescL r v s (kOf F v.toNat+mOf F v.toNat).toNat (kOf F v.toNat).toNat,0)
  else([],110)
 else([],1)
theorem resS_arg{F:FltM} {r:Re} {v s:Int} (h:isStr F.vols.length F.ext v s=false):resS F r v s=([],1):=by
 unfold resS;rw[h];rfl
theorem resS_lost{F:FltM} {r:Re} {v s:Nat} (h:isStr F.vols.length F.ext (v:Int) (s:Int)=true) (h1:keyP F r (condR true) (v,s)=true):resS F r (v:Int) (s:Int)=([],121):=by
 unfold resS;rw[h,if_pos rfl]
 simp only[Int.toNat_natCast]
 rw[h1,if_pos rfl]
theorem resS_state{F:FltM} {r:Re} {v s:Nat} (h:isStr F.vols.length F.ext (v:Int) (s:Int)=true) (h1:keyP F r (condR true) (v,s)=false) (h2:keyP F r (condR false) (v,s)=false):resS F r (v:Int) (s:Int)=([],110):=by
 unfold resS;rw[h,if_pos rfl]
 simp only[Int.toNat_natCast]
 rw[h1,h2];rfl
theorem resS_ok{F:FltM} {r:Re} {v s n K:Nat} (hn:kOf F v+mOf F v=(n:Int)) (hK:kOf F v=(K:Int)) (h:isStr F.vols.length F.ext (v:Int) (s:Int)=true) (h1:keyP F r (condR true) (v,s)=false) (h2:keyP F r (condR false) (v,s)=true):resS F r (v:Int) (s:Int)=(rescL r (v:Int) (s:Int) n K,0):=by
 unfold resS;rw[h,if_pos rfl]
 simp only[Int.toNat_natCast]
 rw[h1,h2,hn,hK];simp
def oneP(r:Re) (v s:Int) (n K:Nat) (d:Nat):Option (List Nat):=if K≤cntS r v s n [d] then some [d] else none
def twoP(r:Re) (v s:Int) (n K:Nat) (a b:Nat):Option (List Nat):=if K≤cntS r v s n [a,b] then some [a,b] else none
theorem resc_one{r:Re} {v s:Int} {n K:Nat} {l:List Nat} (h:(offD r v s n).findSome? (oneP r v s n K)=some l):rescL r v s n K=l:=by
 unfold rescL
 rw[show(offD r v s n).findSome? (fun d=>if K≤cntS r v s n [d] then some [d] else none)=some l from h]
 rfl
theorem resc_two{r:Re} {v s:Int} {n K:Nat} {l:List Nat} (h:(offD r v s n).findSome? (oneP r v s n K)=none) (h2:pick2 (twoP r v s n K) (offD r v s n)=some l):rescL r v s n K=l:=by
 unfold rescL
 rw[show(offD r v s n).findSome? (fun d=>if K≤cntS r v s n [d] then some [d] else none)=none from h,show pick2 (fun a b=>if K≤cntS r v s n [a,b] then some [a,b] else none) (offD r v s n)=some l from h2]
 rfl
theorem resc_left{r:Re} {v s:Int} {n K:Nat} (hK:K=1∨K=2) (hl:K≤((List.range n).filter (anyF r v s)).length) (hu:cntS r v s n []<K) (h:(offD r v s n).findSome? (oneP r v s n K)=none):K=2∧∃l,pick2 (twoP r v s n K) (offD r v s n)=some l:=by
 rcases resc_found hK hl hu with h1 | ⟨h1,h2⟩
 ·rw[show(offD r v s n).findSome? (fun d=>if K≤cntS r v s n [d] then some [d] else none)=none from h] at h1
  cases h1
 ·exact⟨h1,Option.isSome_iff_exists.1 h2⟩
end Go.Proofs.YtcfkllnpkmebpaaGreatDoor

namespace Go.Proofs.YtcfkllnpkmebpaaGreatDoor
open Go.RowKit
set_option linter.unusedVariables false
set_option linter.unusedSimpArgs false
theorem kindex_any(va:Value) (ks:List (Nat×Nat)) (x y:Nat) (R:Nat→Prop) (w:World) (ha:SlS 2 KyK w R va ks) (hR:∀b,R b→b<w.heap.size) :
  Calls Tryz.prog 108 #[va,.agg #[.int .i64 (x:Int),.int .i64 (y:Int)]] w fun e w'=>(∃i:Int,e=.returned (.int .i64 i)∧(0≤i↔(x,y)∈ks))∧Below w.heap.size w w':=by
 obtain⟨A,c,rfl,h1,h2⟩:=ha.form
 unfold maxLen at h2
 obtain⟨W0,hW0⟩:=zx (w.alloc (.cells #[.int .i64 (x:Int),.int .i64 (y:Int)] 67))
 obtain⟨q,hq⟩:=zx w.heap.size
 have hb0:Below w.heap.size w W0:=by rw[hW0];exact(Below.refl _ _).alloc (Nat.le_refl _) _
 have p0:W0.cell? ⟨q,0,none⟩=some (.int .i64 (x:Int)):=by rw[hW0,hq];simp
 have p1:W0.cell? ⟨q,1,none⟩=some (.int .i64 (y:Int)):=by rw[hW0,hq];simp
 have hq0:q<W0.heap.size:=by rw[hW0,hq];simp
 have HA:=zh ha
 have HB0:=zh hb0
 have HW0:=zh hW0
 have HQ:=zh hq
 have HQ0:=zh hq0
 have HR:=zh hR
 obtain⟨L,hL⟩:=zx ks.length
 rw[←hL] at HA h1 h2 ⊢
 have HL:=zh hL
 clear ha hL hW0 hq hb0 hq0 hR
 go_enter Tryz.func108,Tryz.ntmps108
 go_wp2_with fail
 rw[←HW0.out,←HQ.out]
 go_loopg [8] L (fun z v8 wr=>∃j:Nat,j≤L∧z=L - j∧v8=.int .i64 (j:Int)∧Hid (∀k∈ks.take j,k≠(x,y))∧Hid (Below W0.heap.size W0 wr))
 case atStart=>exact⟨0,by omega,rfl,rfl,zh (fun k hk=>by simp at hk),zh (Below.refl _ _)⟩
 case round =>
  obtain⟨j,hj,rfl,rfl,HN,HB⟩:=hrel
  have e0:=(HB.out.cell (p:=⟨q,0,none⟩) HQ0.out).trans p0
  have e1:=(HB.out.cell (p:=⟨q,1,none⟩) HQ0.out).trans p1
  have HBB:=zh (HB0.out.trans (HB.out.mono HB0.out.size))
  by_cases hlt:j<L
  ·have hjl:j<ks.length:=by rw[←HL.out];exact hlt
   obtain⟨b,off,cs,rfl,hRb,-,hc,hcs⟩:=HA.out.at_ (k:=j) hjl
   obtain⟨c0,c1⟩:=two_ky hc hcs
   have hbw:=HR.out b hRb
   have d0:=(HBB.out.cell (p:=⟨b,off+j * 2,none⟩) hbw).trans c0
   have d1:=(HBB.out.cell (p:=⟨b,off+j * 2+1,none⟩) hbw).trans c1
   have HKM:=zh (List.getElem_mem hjl)
   have HST:=zh (fun(h:ks[j]≠(x,y))=>(fun k hk=>by
    rw[List.take_succ_eq_append_getElem hjl,List.mem_append,List.mem_singleton] at hk
    rcases hk with hk | rfl
    ·exact HN.out k hk
    ·exact h:∀k∈ks.take (j+1),k≠(x,y)))
   clear c0 c1 hc hcs
   generalize ks[j]=u at *
   obtain⟨u1,u2⟩:=u
   simp only at d0 d1
   by_cases hu:u1=x∧u2=y
   ·obtain⟨rfl,rfl⟩:=hu
    go_upto_region 4 with fail
    go_quiet (fail)
    go_wp2_with fail
    go_ret
    exact⟨⟨_,rfl,⟨fun _=>HKM.out,fun _=>by omega⟩⟩,(by first | exact HBB.out | exact Below.drewN' HBB.out _)⟩
   ·have HS:=zh (HST.out (fun e=>hu (by injection e with e1 e2;exact⟨e1,e2⟩)))
    by_cases e:u1=x
    ·subst e
     have hv:((y:Int)==(u2:Int))=false:=by rw[beq_eq_false_iff_ne];exact fun e2=>hu ⟨rfl,by omega⟩
     clear hu
     go_upto_region 4 with fail
     go_quiet (fail)
     go_wp2_with fail
     go_roundg (L - (j+1))
     case measure=>omega
     case rel=>exact⟨j+1,by omega,rfl,by go_num,HS,zh (by first | exact HB.out | exact Below.drewN' HB.out _)⟩
    ·have hv:((x:Int)==(u1:Int))=false:=by rw[beq_eq_false_iff_ne];omega
     clear hu e
     go_upto_region 4 with fail
     go_quiet (fail)
     go_wp2_with fail
     go_roundg (L - (j+1))
     case measure=>omega
     case rel=>exact⟨j+1,by omega,rfl,by go_num,HS,zh (by first | exact HB.out | exact Below.drewN' HB.out _)⟩
  ·have HE:=zh (fun(h:(x,y)∈ks)=>HN.out _ (by rw[List.take_of_length_le (by have:=HL.out;omega)];exact h) rfl)
   go_wp2_with fail
   go_ret
   exact⟨⟨_,rfl,⟨fun h=>by omega,fun h=>(HE.out h).elim⟩⟩,HBB.out⟩
theorem kcontains_any(va:Value) (ks:List (Nat×Nat)) (x y:Nat) (R:Nat→Prop) (w:World) (ha:SlS 2 KyK w R va ks) (hR:∀b,R b→b<w.heap.size) :
  Calls Tryz.prog 60 #[va,.agg #[.int .i64 (x:Int),.int .i64 (y:Int)]] w fun e w'=>e=.returned (.bool (decide ((x,y)∈ks)))∧Below w.heap.size w w':=by
 obtain⟨W0,hW0⟩:=zx (w.alloc (.cells #[.int .i64 (x:Int),.int .i64 (y:Int)] 67))
 obtain⟨q,hq⟩:=zx w.heap.size
 have hb0:Below w.heap.size w W0:=by rw[hW0];exact(Below.refl _ _).alloc (Nat.le_refl _) _
 have p0:W0.cell? ⟨q,0,none⟩=some (.int .i64 (x:Int)):=by rw[hW0,hq];simp
 have p1:W0.cell? ⟨q,1,none⟩=some (.int .i64 (y:Int)):=by rw[hW0,hq];simp
 have HS:=zh (fun(w':World) (hb:Below w.heap.size w w')=>kindex_any va ks x y R w' (SlS.keep kyK ha (fun b h=>hb.block b (hR b h))) (fun b h=>Nat.lt_of_lt_of_le (hR b h) hb.size))
 have HW0:=zh hW0
 have HQ:=zh hq
 have HB0:=zh hb0
 clear ha hR hW0 hq hb0
 go_enter Tryz.func60,Tryz.ntmps60
 go_upto_region 1 with fail
 rw[←HW0.out,←HQ.out]
 go_wp2_with fail
 refine(HS.out _ HB0.out).mono ?_
 rintro e w2 ⟨⟨i,rfl,hi⟩,hb2⟩
 have HI:=zh hi
 have HB2:=zh (HB0.out.trans (hb2.mono HB0.out.size))
 clear hi hb2 p0 p1
 by_cases h0:0≤i
 ·go_wp2_with fail
  go_ret
  refine⟨ret_bool ?_,HB2.out⟩
  rw[decide_eq_true (HI.out.1 h0)]
 ·go_wp2_with fail
  go_ret
  refine⟨ret_bool ?_,HB2.out⟩
  rw[decide_eq_false (fun h:(x,y)∈ks=>by have:=HI.out.2 h;omega)]
  exact decide_eq_false (by omega)
end Go.Proofs.YtcfkllnpkmebpaaGreatDoor
