/- What Rescue's drives are, plain: enough, and none of them too many. -/
import Derived.Test.YtcfkllnpkmebpaaGreatDoorMh01
import Derived.Test.YtcfkllnpkmebpaaGreatDoorMh02
import Derived.Test.YtcfkllnpkmebpaaGreatDoorMh03
import Derived.Test.YtcfkllnpkmebpaaGreatDoorMh04
import Derived.Test.YtcfkllnpkmebpaaGreatDoorMh05
import Derived.Test.YtcfkllnpkmebpaaGreatDoorMh06
import Derived.Test.YtcfkllnpkmebpaaGreatDoorMh07
import Derived.Test.YtcfkllnpkmebpaaGreatDoorMh08
import Derived.Test.YtcfkllnpkmebpaaGreatDoorMh09
import Derived.Test.YtcfkllnpkmebpaaGreatDoorMh10
import Derived.Test.YtcfkllnpkmebpaaGreatDoorMh11
import Derived.Test.YtcfkllnpkmebpaaGreatDoorMh12
import Derived.Test.YtcfkllnpkmebpaaGreatDoorMh13
import Derived.Test.YtcfkllnpkmebpaaGreatDoorMh14
import Derived.Test.YtcfkllnpkmebpaaGreatDoorMh15
import Derived.Test.YtcfkllnpkmebpaaGreatDoorMh16
import Derived.Test.YtcfkllnpkmebpaaGreatDoorMh17
import Derived.Test.YtcfkllnpkmebpaaGreatDoorMh18
import Derived.Test.YtcfkllnpkmebpaaGreatDoorMn06
import Derived.Test.YtcfkllnpkmebpaaGreatDoorMn07
import Derived.Test.YtcfkllnpkmebpaaGreatDoorMn03
import Derived.Test.YtcfkllnpkmebpaaGreatDoorMn04
import Derived.ProofKit
import Derived.OpenShut
import Derived.Lib.SmallJoins
import Derived.Deep.Slices
import Derived.Deep.Fields
import Derived.ChangeSame
import Derived.Test.YtcfkllnpkmebpaaGreatDoorMn01
import Derived.Test.YtcfkllnpkmebpaaGreatDoorMn02
import Derived.Test.YtcfkllnpkmebpaaGreatDoorMn05
set_option maxRecDepth 100000
set_option maxHeartbeats 12800000
namespace Go.Proofs.YtcfkllnpkmebpaaGreatDoor
open Go.RowKit
set_option linter.unusedVariables false
set_option linter.unusedSimpArgs false
theorem cnt_on{r:Re} {on:List Bool} {set:List Nat} (v s n:Nat) (hn:n≤8) (h:∀d,d<r.plat.length→onB ⟨r.plat,on,r.acks⟩ d=(onB r d||decide (d∈set))) :
  cntI ⟨r.plat,on,r.acks⟩ v s true (n:Int)=(cntS r (v:Int) (s:Int) n set:Int):=by
 unfold cntI cntS
 rw[int_count _ _ _ _ n hn]
 congr 2
 apply List.filter_congr
 intro i hi
 have hpc:pieces (⟨r.plat,on,r.acks⟩:Re)=pieces r:=rfl
 have h1:=src_up (⟨r.plat,on,r.acks⟩:Re) (v:Int) (i:Int) (s:Int)
 rw[hpc] at h1 ⊢
 rw[Bool.eq_iff_iff,decide_eq_true_eq,h1,upF_iff]
 constructor
 ·rintro ⟨x,hx,hb,ho⟩
  rw[h _ (pieces_lt r x hx),Bool.or_eq_true,decide_eq_true_eq] at ho
  exact⟨x,hx,hb,ho⟩
 ·rintro ⟨x,hx,hb,ho⟩
  exact⟨x,hx,hb,by rw[h _ (pieces_lt r x hx),Bool.or_eq_true,decide_eq_true_eq];exact ho⟩
theorem off_off{r:Re} {v s:Int} {n d:Nat} (h:d∈offD r v s n):d<r.plat.length∧onB r d=false:=by
 unfold offD at h
 rw[List.mem_filter,Bool.and_eq_true] at h
 exact⟨List.mem_range.1 h.1,by simpa using h.2.1⟩
theorem one_some{r:Re} {v s:Int} {n K:Nat} {off l:List Nat} (h:off.findSome? (oneP r v s n K)=some l):∃d∈off,l=[d]∧K≤cntS r v s n [d]:=by
 obtain⟨d,hd,h1⟩:=List.exists_of_findSome?_eq_some h
 unfold oneP at h1
 split at h1
 ·injection h1 with h1;exact⟨d,hd,h1.symm,by assumption⟩
 ·cases h1
theorem one_none{r:Re} {v s:Int} {n K:Nat} {off:List Nat} (h:off.findSome? (oneP r v s n K)=none):∀d∈off,cntS r v s n [d]<K:=fun d hd=>by
 have h1:=List.findSome?_eq_none_iff.1 h d hd
 unfold oneP at h1
 split at h1
 ·cases h1
 ·omega
theorem two_some{r:Re} {v s:Int} {n K:Nat} {l:List Nat}:∀{off:List Nat},off.Pairwise (·<·)→pick2 (twoP r v s n K) off=some l→∃a b,a∈off∧b∈off∧a<b∧l=[a,b]∧K≤cntS r v s n [a,b]
 | [],_,h=>by cases h
 | a :: off,hp,h=>by
  have h':(off.findSome? (twoP r v s n K a)).or (pick2 (twoP r v s n K) off)=some l:=h
  rw[List.pairwise_cons] at hp
  cases h1:off.findSome? (twoP r v s n K a) with
  | some y =>
   rw[h1] at h'
   injection h' with h'
   subst h'
   obtain⟨b,hb,h2⟩:=List.exists_of_findSome?_eq_some h1
   unfold twoP at h2
   split at h2
   ·injection h2 with h2
    exact⟨a,b,by simp,by simp[hb],hp.1 b hb,h2.symm,by assumption⟩
   ·cases h2
  | none =>
   rw[h1] at h'
   obtain⟨x,y,hx,hy,h3,h4,h5⟩:=two_some hp.2 h'
   exact⟨x,y,by simp[hx],by simp[hy],h3,h4,h5⟩
theorem resc_facts{r:Re} {v s:Int} {n K:Nat} (hK:K=1∨K=2) (hl:K≤((List.range n).filter (anyF r v s)).length) (hu:cntS r v s n []<K) :
  (∃d,rescL r v s n K=[d]∧d<r.plat.length∧onB r d=false∧K≤cntS r v s n [d]) ∨
  (∃a b,rescL r v s n K=[a,b]∧a<b∧b<r.plat.length∧onB r a=false∧onB r b=false∧K≤cntS r v s n [a,b]∧cntS r v s n [a]<K∧cntS r v s n [b]<K):=by
 obtain⟨-,⟨l,h1,h2⟩ | ⟨h1,-,l,h3,h4⟩⟩:=find_plan hK hl hu
 ·rw[fromL_one] at h1
  obtain⟨d,hd,rfl,hc⟩:=one_some h1
  obtain⟨k1,k2⟩:=off_off hd
  exact .inl ⟨d,h2,k1,k2,hc⟩
 ·rw[fromL_one] at h1
  have h5:=resc_left hK hl hu h1
  obtain⟨-,l2,h6⟩:=h5
  obtain⟨a,b,ha,hb,hab,rfl,hc⟩:=two_some (off_sorted r v s n) h6
  have h7:=resc_two h1 h6
  obtain⟨k1,k2⟩:=off_off ha
  obtain⟨k3,k4⟩:=off_off hb
  exact .inr ⟨a,b,h7,hab,k3,k2,k4,hc,one_none h1 a ha,one_none h1 b hb⟩
theorem onB_set{r:Re} {d c:Nat} {x:Bool} (hd:d<r.on.length):onB ⟨r.plat,r.on.set d x,r.acks⟩ c=if c=d then x else onB r c:=by
 unfold onB
 simp only
 rw[List.getD_eq_getElem?_getD,List.getElem?_set]
 by_cases h:d=c
 ·subst h
  rw[if_pos rfl,if_pos hd,if_pos rfl];rfl
 ·rw[if_neg h,if_neg (fun e=>h e.symm),List.getD_eq_getElem?_getD]
end Go.Proofs.YtcfkllnpkmebpaaGreatDoor

namespace Go.Proofs.YtcfkllnpkmebpaaGreatDoor
open Go.RowKit
set_option linter.unusedVariables false
set_option linter.unusedSimpArgs false
def onAt(on:List Bool) (S:List Nat) (sk:Int):Nat→List Bool
 | 0=>on
 | k+1=>(onAt on S sk k).set (S.getD k 0) (decide ((k:Int)≠sk))
theorem onAt_length(on:List Bool) (S:List Nat) (sk:Int):∀k,(onAt on S sk k).length=on.length
 | 0=>rfl
 | k+1=>by
  show((onAt on S sk k).set _ _).length=_
  rw[List.length_set,onAt_length on S sk k]
theorem made_on{F:FltM} {r:Re} {st:List Stp} (h:MadeOk F r st) (on:List Bool) (hl:on.length=r.on.length):MadeOk F ⟨r.plat,on,r.acks⟩ st :=
 ⟨h.plat,hl.trans h.on,h.acks,h.keys,h.ok,h.sec,h.len,h.len5⟩
theorem con_on{F:FltM} {r:Re} {st:List Stp} (hok:FleetOk 2 F) (hmo:MadeOk F r st) {x:Stp} (hx:x∈st) (h8:x.k+x.m≤8) {on:List Bool} (hl:on.length=r.on.length) {set:List Nat} (h:∀d,d<r.plat.length→onB ⟨r.plat,on,r.acks⟩ d=(onB r d||decide (d∈set))) :
  (x.k≤cntS r (x.vol:Int) (x.stripe:Int) (x.k+x.m) set→conE ⟨r.plat,on,r.acks⟩ x.vol x.stripe true x.k (x.k+x.m)=0∧conS ⟨r.plat,on,r.acks⟩ x.vol x.stripe true x.k (x.k+x.m)=x.rows.flatten) ∧
  (cntS r (x.vol:Int) (x.stripe:Int) (x.k+x.m) set<x.k→conE ⟨r.plat,on,r.acks⟩ x.vol x.stripe true x.k (x.k+x.m)=121):=by
 obtain⟨t1,t2⟩:=keeps_plain hok (made_on hmo on hl) hx true
 have hc:=out_cnt (⟨r.plat,on,r.acks⟩:Re) x.vol x.stripe true ((x.k+x.m:Nat):Int)
 rw[cnt_on x.vol x.stripe (x.k+x.m) h8 h] at hc
 have hc':(frT (⟨r.plat,on,r.acks⟩:Re) x.vol x.stripe true (x.k+x.m)).length=cntS r (x.vol:Int) (x.stripe:Int) (x.k+x.m) set:=by
  have hd:((frT (⟨r.plat,on,r.acks⟩:Re) x.vol x.stripe true (x.k+x.m)).length:Int)=(cntS r (x.vol:Int) (x.stripe:Int) (x.k+x.m) set:Int):=hc
  omega
 rw[hc'] at t1 t2
 exact⟨t1,t2⟩
theorem need_case{F:FltM} {r:Re} {st:List Stp} {f:Int→Int→Option Value} (hok:FleetOk 2 F) (hmo:MadeOk F r st) (hdo:DataOk st f) {EX:Nat} (hEX:F.ext=(EX:Int)) {v s:Nat} (hv:v<F.vols.length) (hs:s<EX) (hk:keyP F r (condR false) (v,s)=true) :
  ∃(KN KM:Nat) (TX:ByteArray),kOf F v=(KN:Int)∧kOf F v+mOf F v=(KM:Int)∧f (v:Int) (s:Int)=some (.string TX) ∧
   1≤(rescL r (v:Int) (s:Int) KM KN).length∧(rescL r (v:Int) (s:Int) KM KN).length≤2∧(∀d∈rescL r (v:Int) (s:Int) KM KN,d<r.on.length∧onB r d=false)∧resS F r (v:Int) (s:Int)=(rescL r (v:Int) (s:Int) KM KN,0) ∧
   (rescL r (v:Int) (s:Int) KM KN).Nodup ∧
   ∀sk:Int,-1≤sk→sk<((rescL r (v:Int) (s:Int) KM KN).length:Int) →
    (sk<0→conE ⟨r.plat,onAt r.on (rescL r (v:Int) (s:Int) KM KN) sk (rescL r (v:Int) (s:Int) KM KN).length,r.acks⟩ v s true KN KM=0∧(⟨(conS ⟨r.plat,onAt r.on (rescL r (v:Int) (s:Int) KM KN) sk (rescL r (v:Int) (s:Int) KM KN).length,r.acks⟩ v s true KN KM).toArray⟩:ByteArray)=TX) ∧
    (0≤sk→conE ⟨r.plat,onAt r.on (rescL r (v:Int) (s:Int) KM KN) sk (rescL r (v:Int) (s:Int) KM KN).length,r.acks⟩ v s true KN KM=121):=by
 have hse:s<F.ext.toNat:=by omega
 obtain⟨x,hx,rfl,rfl⟩:=stp_in hmo hv hse
 have hst:=hmo.ok x hx
 obtain⟨vv,pp,h1,h2,h3,h4⟩:=hst.pol
 have hvp:volP F x.vol=vv.pol.toNat:=by unfold volP;rw[h1]
 have hkk:kOf F x.vol=(x.k:Int):=by unfold kOf;rw[hvp,h2];exact h3.symm
 have hmm:mOf F x.vol=(x.m:Int):=by unfold mOf;rw[hvp,h2];exact h4.symm
 obtain⟨kq,m1,m2,-,-⟩:=kmq_ok hok hv
 have hKM:kOf F x.vol+mOf F x.vol=((x.k+x.m:Nat):Int):=by rw[hkk,hmm];omega
 have hK12:x.k=1∨x.k=2:=by omega
 have h8:x.k+x.m≤8:=by omega
 obtain⟨a1,a2,a3⟩:=key_away hKM hkk h8 hk
 have hlt:keyP F r (condR true) (x.vol,x.stripe)=false:=by
  cases hc:keyP F r (condR true) (x.vol,x.stripe) with
  | false=>rfl
  | true =>
   have:=lost_away F r (x.vol,x.stripe) hc
   unfold awayP at this
   rw[hk] at this;cases this
 have hstr:isStr F.vols.length F.ext (x.vol:Int) (x.stripe:Int)=true:=by unfold isStr;rw[decide_eq_true_eq];omega
 have hrs:=resS_ok hKM hkk hstr hlt hk
 have hpo:r.plat.length=r.on.length:=hmo.plat.trans hmo.on.symm
 refine⟨x.k,x.k+x.m,⟨(x.rows.flatten).toArray⟩,hkk,hKM,hdo x hx,?_⟩
 have hcon:∀(on:List Bool) (set:List Nat),on.length=r.on.length→(∀d,d<r.plat.length→onB ⟨r.plat,on,r.acks⟩ d=(onB r d||decide (d∈set)))→_:=fun on set hl h=>con_on hok hmo hx h8 hl h
 rcases resc_facts hK12 a1 a2 with ⟨d,e,hd,hon,hc⟩ | ⟨a,b,e,hab,hb,hoa,hob,hc,hca,hcb⟩
 ·rw[e] at hrs ⊢
  refine⟨by simp,by simp,fun y hy=>by rw[List.mem_singleton.1 hy];exact⟨by omega,hon⟩,hrs,by simp,fun sk k1 k2=>?_⟩
  have hdl:d<r.on.length:=by omega
  have hon':onAt r.on [d] sk 1=r.on.set d (decide ((0:Int)≠sk)):=rfl
  rw[show [d].length=1 from rfl,hon']
  refine⟨fun h0=>?_,fun h0=>?_⟩
  ·obtain⟨g1,-⟩:=hcon (r.on.set d (decide ((0:Int)≠sk))) [d] (List.length_set ..) (fun c hcl=>by
    rw[onB_set hdl]
    by_cases hcd:c=d
    ·subst hcd;rw[if_pos rfl,decide_eq_true (by omega)];simp
    ·rw[if_neg hcd];simp[hcd])
   obtain⟨g3,g4⟩:=g1 hc
   exact⟨g3,by rw[g4]⟩
  ·have hsk:sk=0:=by simp at k2;omega
   obtain⟨-,g2⟩:=hcon (r.on.set d (decide ((0:Int)≠sk))) [] (List.length_set ..) (fun c hcl=>by
    rw[onB_set hdl]
    by_cases hcd:c=d
    ·subst hcd;rw[if_pos rfl,decide_eq_false (by omega),hon];simp
    ·rw[if_neg hcd];simp)
   exact g2 a2
 ·rw[e] at hrs ⊢
  refine⟨by simp,by simp,fun y hy=>by
   simp only[List.mem_cons,List.not_mem_nil,or_false] at hy
   rcases hy with rfl | rfl
   ·exact⟨by omega,hoa⟩
   ·exact⟨by omega,hob⟩,hrs,by simp;omega,fun sk k1 k2=>?_⟩
  have hal:a<r.on.length:=by omega
  have hbl:b<r.on.length:=by omega
  have hon':onAt r.on [a,b] sk 2=(r.on.set a (decide ((0:Int)≠sk))).set b (decide ((1:Int)≠sk)):=rfl
  rw[show [a,b].length=2 from rfl,hon']
  have hset:∀c,onB ⟨r.plat,(r.on.set a (decide ((0:Int)≠sk))).set b (decide ((1:Int)≠sk)),r.acks⟩ c=if c=b then decide ((1:Int)≠sk) else if c=a then decide ((0:Int)≠sk) else onB r c:=fun c=>by
   have h1:=onB_set (r:=(⟨r.plat,r.on.set a (decide ((0:Int)≠sk)),r.acks⟩:Re)) (d:=b) (c:=c) (x:=decide ((1:Int)≠sk)) (by show b<(r.on.set a _).length;rw[List.length_set];exact hbl)
   refine h1.trans ?_
   by_cases hcb2:c=b
   ·rw[if_pos hcb2,if_pos hcb2]
   ·rw[if_neg hcb2,if_neg hcb2];exact onB_set hal
  have hll:((r.on.set a (decide ((0:Int)≠sk))).set b (decide ((1:Int)≠sk))).length=r.on.length:=by rw[List.length_set,List.length_set]
  refine⟨fun h0=>?_,fun h0=>?_⟩
  ·obtain⟨g1,-⟩:=hcon _ [a,b] hll (fun c hcl=>by
    rw[hset]
    by_cases hcb2:c=b
    ·subst hcb2;rw[if_pos rfl,decide_eq_true (by omega)];simp
    ·rw[if_neg hcb2]
     by_cases hca2:c=a
     ·subst hca2;rw[if_pos rfl,decide_eq_true (by omega)];simp
     ·rw[if_neg hca2];simp[hcb2,hca2])
   obtain⟨g3,g4⟩:=g1 hc
   exact⟨g3,by rw[g4]⟩
  ·have hsk:sk=0∨sk=1:=by simp at k2;omega
   rcases hsk with rfl | rfl
   ·obtain⟨-,g2⟩:=hcon _ [b] hll (fun c hcl=>by
     rw[hset]
     by_cases hcb2:c=b
     ·subst hcb2;rw[if_pos rfl];simp
     ·rw[if_neg hcb2]
      by_cases hca2:c=a
      ·subst hca2;rw[if_pos rfl,hoa];simp[hcb2]
      ·rw[if_neg hca2];simp[hcb2])
    exact g2 hcb
   ·obtain⟨-,g2⟩:=hcon _ [a] hll (fun c hcl=>by
     rw[hset]
     by_cases hcb2:c=b
     ·subst hcb2
      have:¬c=a:=by omega
      rw[if_pos rfl,hob];simp[this]
     ·rw[if_neg hcb2]
      by_cases hca2:c=a
      ·subst hca2;rw[if_pos rfl];simp
      ·rw[if_neg hca2];simp[hca2])
    exact g2 hca
end Go.Proofs.YtcfkllnpkmebpaaGreatDoor

namespace Go.Proofs.YtcfkllnpkmebpaaGreatDoor
open Go.RowKit
set_option linter.unusedVariables false
set_option linter.unusedSimpArgs false
theorem keyL_mem{F:FltM} {r:Re} {cond:Int→Int→Int→Bool} {ext NO:Nat} {x:Nat×Nat} (h:x∈keyL F r cond ext NO 0):x.1<NO∧x.2<ext∧keyP F r cond x=true:=by
 unfold keyL at h
 obtain⟨h1,h2⟩:=List.mem_filter.1 h
 unfold keysTo at h1
 rcases List.mem_append.1 h1 with h3 | h3
 ·obtain⟨v,hv,h4⟩:=List.mem_flatMap.1 h3
  obtain⟨s,hs,rfl⟩:=List.mem_map.1 h4
  exact⟨List.mem_range.1 hv,List.mem_range.1 hs,h2⟩
 ·simp at h3
theorem wth_store{W0 w6:World} {gX:Nat} {vp va vo:Value} {on:List Bool} (hb:Below W0.heap.size W0 w6) (hX:w6.heap[gX]?=some (.cells #[.slice none 0 0,.slice none 0 0,.slice none 0 0] 40 (0,0))) (hg:W0.heap.size≤gX)
  (ho:w6.ownsRow W0.heap.size 4 1 vo on.length (on.map Value.bool)):WthT W0 gX vp va (((w6.setCell ⟨gX,0,none⟩ vp).setCell ⟨gX,1,none⟩ vo).setCell ⟨gX,2,none⟩ va) vo on:=by
 have hh:HotBy [some gX] w6 (((w6.setCell ⟨gX,0,none⟩ vp).setCell ⟨gX,1,none⟩ vo).setCell ⟨gX,2,none⟩ va):=((HotBy.setCell _ _ _ _ (by simp)).trans (HotBy.setCell _ _ _ _ (by simp))).trans (HotBy.setCell _ _ _ _ (by simp))
 exact⟨below_hotW hb hh (fun x hx=>by simp at hx;rw[hx];exact hg),store3 hX,own_hot ho hh (fun b hb e=>by simp at e;subst e;exact own_nty ho hX (by decide) hb),hg⟩
theorem WthT.setO{W0 w:World} {gX gb c d n:Nat} {vp va:Value} {on:List Bool} {x:Bool} (h:WthT W0 gX vp va w (.slice (some ⟨gb,0,none⟩) n c) on) (hn:on.length=n):WthT W0 gX vp va (w.setCell ⟨gb,d,none⟩ (.bool x)) (.slice (some ⟨gb,0,none⟩) n c) (on.set d x):=by
 subst hn
 have hh:HotBy [some gb] w (w.setCell ⟨gb,d,none⟩ (.bool x)):=HotBy.setCell _ _ _ _ (by simp)
 have hlt:=h.ons.lt gb rfl
 refine⟨below_hotW h.hot hh (fun x hx=>by simp at hx;rw[hx];exact hlt.1),?_,?_,h.ge⟩
 ·exact(hh.block gX h.lt (fun e=>by simp at e;exact own_nty h.ons h.rea (by decide) (by rw[e];rfl))).trans h.rea
 ·rw[List.length_set,List.map_set];exact(h.ons.stored d (.bool x)).1
theorem WthT.at_{W0 w:World} {gX c n:Nat} {A:Option Addr} {vp va:Value} {on:List Bool} (h:WthT W0 gX vp va w (.slice A n c) on) (he:on.length=n) (hn:0<on.length):∃gb,A=some ⟨gb,0,none⟩∧∀j (hj:j<on.length),w.cell? ⟨gb,j,none⟩=some (.bool on[j])∧w.frozen? ⟨gb,j,none⟩=false:=by
 subst he
 have hc:=fun g=>h.ons.cells (g:=g)
 have hf:=h.ons
 rcases h.ons.2 with ⟨e,h0⟩ | ⟨g,cap,cur,e,_,_,_,_,_⟩
 ·exact absurd h0 (by omega)
 ·injection e with e1 e2 e3
  refine⟨g,e1,fun j hj=>⟨?_,?_⟩⟩
  ·have:=hc g (by rw[e1];rfl) j (.bool on[j]) (by rw[List.getElem?_map,List.getElem?_eq_getElem hj];rfl)
   rw[←this]
   unfold Addr.add;split <;> simp_all
  ·subst e1
   exact World.ownsRow.frozenAt hf j
theorem needs_any(HMade:∀(vt:Value) (xs:List Int) (w:World) (R:Nat→Prop),IntS w R vt xs→(∀b,R b→b<w.heap.size)→Calls Tryz.prog 11 #[vt] w (MadePost w)) (vl:Value) (xs:List Int) (w:World) (hl:IntS w (Bl w.heap.size) vl xs) :
  Calls Tryz.prog 6 #[vl] w fun e w'=>e=.returned (.bool true)∧Below w.heap.size w w':=by
 have HAW:=zh (fun w1=>awake44_any w1)
 have HMD:=zh (HMade vl xs w _ hl (fun b h=>h))
 obtain⟨Al,nl,cl,rfl⟩:=hl.form3
 clear hl HMade
 go_enter Tryz.func6,Tryz.ntmps6
 go_wp2_with fail
 refine HMD.out.mono ?_
 rintro e w2 ⟨fl,fm,fd,fv,fp,fo,F,zp,zo,za,r,gM,n,f,st,rfl,hfs,hok,hre,hmo,hmp,hdo,hgM,hb2⟩
 obtain⟨A1,c1,hf1,-⟩:=SlS.form hfs.1
 obtain⟨A2,c2,hf2,-⟩:=SlS.form hfs.2.1
 obtain⟨A3,c3,hf3,-⟩:=SlS.form hfs.2.2.1
 obtain⟨A4,c4,hf4,-⟩:=SlS.form hfs.2.2.2.1
 obtain⟨A5,c5,hf5,-⟩:=SlS.form hfs.2.2.2.2.1
 obtain⟨A6,c6,hf6,-⟩:=SlS.form hfs.2.2.2.2.2
 obtain⟨B1,d1,hz1,-⟩:=SlS.form hre.1
 obtain⟨B2,d2,hz2,-⟩:=SlS.form hre.2.1
 obtain⟨B3,d3,hz3,-⟩:=SlS.form hre.2.2
 obtain⟨n1,hn1⟩:=zx F.laws.length
 obtain⟨n2,hn2⟩:=zx F.models.length
 obtain⟨n3,hn3⟩:=zx F.doms.length
 obtain⟨n4,hn4⟩:=zx F.dves.length
 obtain⟨n5,hn5⟩:=zx F.pols.length
 obtain⟨n6,hn6⟩:=zx F.vols.length
 obtain⟨m1,hm1⟩:=zx r.plat.length
 obtain⟨m2,hm2⟩:=zx r.on.length
 obtain⟨m3,hm3⟩:=zx r.acks.length
 rw[←hn1] at hf1
 rw[←hn2] at hf2
 rw[←hn3] at hf3
 rw[←hn4] at hf4
 rw[←hn5] at hf5
 rw[←hn6] at hf6
 rw[←hm1] at hz1
 rw[←hm2] at hz2
 rw[←hm3] at hz3
 have HFS2:=zh (hfs.mono Fr.bl)
 have HOK:=zh hok
 have HRE:=zh (hre.mono Fr.bl)
 have HPL:=zh (show r.plat.length≤9 from by rw[hmo.plat];have:=hok.dveN;omega)
 have HLEN:=zh hmo.len
 have hak:r.acks.length≤1000000:=by
  have h1:=congrArg List.length hmo.keys
  rw[List.length_map] at h1
  have h2:=keysTo_le F.ext.toNat F.vols.length 0 (by have:=hok.ext;omega) hok.volN (by omega)
  rw[hmo.acks,List.length_map];omega
 have HAK:=zh hak
 obtain⟨EXN,hEXN⟩:∃q:Nat,F.ext=(q:Int):=⟨F.ext.toNat,by have:=hok.ext;omega⟩
 have HEXN:=zh (show F.ext=(EXN:Int)∧EXN≤2∧F.vols.length≤2 from⟨hEXN,by have:=hok.ext;omega,hok.volN⟩)
 have HNC:=zh (fun(v s:Nat) (hv:v<F.vols.length) (hs:s<EXN) (hk:keyP F r (condR false) (v,s)=true)=>need_case hok hmo hdo hEXN hv hs hk)
 have HMP2:=zh hmp
 have HPO:=zh (show m1=m2∧m2≤9∧m2=r.on.length from⟨by rw[hm1,hm2,hmo.plat,hmo.on],by rw[hm2,hmo.on];exact hok.dveN,hm2⟩)
 have HB2:=zh hb2
 obtain⟨EX,hEX⟩:=zx F.ext
 rw[←hEX]
 have HEX:=zh hEX
 clear hfs hok hre hmo hmp hdo hgM hb2 hEX hak hEXN hn1 hn2 hn3 hn4 hn5 hn6 hm1 hm2 hm3
 rw[hf1,hf2,hf3,hf4,hf5,hf6,hz1,hz2,hz3]
 have HEF:=zh (And.intro hf1 (And.intro hf2 (And.intro hf3 (And.intro hf4 (And.intro hf5 hf6)))))
 have HEZ:=zh (And.intro hz1 (And.intro hz2 hz3))
 clear hf1 hf2 hf3 hf4 hf5 hf6 hz1 hz2 hz3
 go_upto_region 2 with fail
 rw[←HEF.out.1,←HEF.out.2.1,←HEF.out.2.2.1,←HEF.out.2.2.2.1,←HEF.out.2.2.2.2.1,←HEF.out.2.2.2.2.2,←HEZ.out.1,←HEZ.out.2.1,←HEZ.out.2.2]
 clear HEF
 obtain⟨g,hg⟩:=zx w2.heap.size
 obtain⟨p,hp⟩:=zx (w2.heap.size+1)
 obtain⟨W4,hW4⟩:=zx (((w2.alloc (.cells #[.int .i64 EX,fl,fm,fd,fv,fp,fo] 35)).alloc (.cells #[zp,zo,za] 40)))
 rw[←hW4,←hp,←hg]
 have hsz4:W4.heap.size=w2.heap.size+1+1:=by rw[hW4];simp
 have hb4:Below w2.heap.size w2 W4:=by rw[hW4];exact((Below.refl _ _).alloc (Nat.le_refl _) _).alloc (by simp) _
 have hbR:W4.heap[p]?=some (.cells #[zp,zo,za] 40 (0,0)):=by
  rw[hW4];exact heap_alloc_at _ _ _ (by rw[hp];simp)
 have hbF:W4.heap[g]?=some (.cells #[.int .i64 EX,fl,fm,fd,fv,fp,fo] 35 (0,0)):=by
  rw[hW4,hg];exact(Below.heap_alloc _ _ _ (by simp)).trans (heap_alloc_new w2 _)
 obtain⟨k0,k1,k2,k3,k4,k5,k6⟩:=cells7 hbF
 obtain⟨z0,z1,z2,-⟩:=cells3 hbR
 have HC:=zh (fun(w':World) (hb:Below W4.heap.size W4 w')=>And.intro (cells7 ((hb.block g (by omega)).trans hbF)) (cells3 ((hb.block p (by omega)).trans hbR)))
 have HGP:=zh (show g<W4.heap.size∧p<W4.heap.size from⟨by omega,by omega⟩)
 have HB4:=zh (HB2.out.trans (hb4.mono HB2.out.size))
 have HFS:=zh (HFS2.out.below hb4)
 have HM4:=zh (HRE.out.below hb4)
 have HMP:=zh (fun(w':World) (hb:Below W4.heap.size W4 w')=>(show MapKV w' 67 gM n f from(HMP2.out.same (hb4.block gM HMP2.out.lt)).same (hb.block gM (Nat.lt_of_lt_of_le HMP2.out.lt hb4.size))))
 have hEX:=HEX.out
 have hex:=HEXN.out
 have hun:=unav_any 2 (by omega) fl fm fd fv fp fo zp zo za F r W4 HFS.out HOK.out HM4.out (by have:=HPL.out;omega) HLEN.out HAK.out
 obtain⟨KL,hKL⟩:=zx (keyL F r (condR false) F.ext.toNat F.vols.length 0)
 rw[←hKL,←hEX] at hun
 have HUN:=zh hun
 have HKL:=zh (show ∀x∈KL,x.1<F.vols.length∧x.2<EXN∧keyP F r (condR false) x=true from fun x hx=>by
  rw[hKL] at hx
  obtain⟨h1,h2,h3⟩:=keyL_mem hx
  exact⟨h1,by omega,h3⟩)
 have hrs:=fun(v s:Int) (W:World) (hb:Below W4.heap.size W4 W)=>rescue_any 2 (by omega) fl fm fd fv fp fo zp zo za F r v s W (HFS.out.below hb) HOK.out (HM4.out.below hb) (by have:=HPL.out;omega) HLEN.out HAK.out
 rw[←hEX] at hrs
 have HRS:=zh hrs
 obtain⟨NK,hNK⟩:=zx KL.length
 have HNK:=zh (show NK=KL.length∧NK≤1000 from⟨hNK,by rw[hNK,hKL];have:=keyL_len F r (condR false) F.ext.toNat F.vols.length 0;have h2:F.vols.length * F.ext.toNat≤2 * 2:=Nat.mul_le_mul hex.2.2 (by omega);omega⟩)
 clear hW4 hg hp hsz4 hb4 hbR hbF hEX hex hun hKL hrs hNK
 go_wp2_with fail
 refine HUN.out.mono ?_
 rintro e w5 ⟨u0,rfl,hO5,hb5⟩
 obtain⟨Ak,ck,hu0⟩:=hO5.form
 rw[←HNK.out.1] at hu0
 subst hu0
 have hsl:=hO5.slS
 have HSL:=zh hsl
 have HB5:=zh hb5
 clear k0 k1 k2 k3 k4 k5 k6 z0 z1 z2 hO5 hb5 hsl
 go_wp2_with fail
 go_loopg [7] NK (fun z v7 wr=>∃i:Nat,v7=.int .i64 (i:Int)∧i≤NK∧z=NK - i∧Hid (Below w5.heap.size w5 wr))
 case atStart=>exact⟨0,rfl,Nat.zero_le _,rfl,zh (Below.refl _ _)⟩
 case round =>
  obtain⟨i,rfl,hi,rfl,HB⟩:=hrel
  by_cases hlt:i<NK
  ·have HLT:=zh hlt
   have hil:i<KL.length:=by rw[←HNK.out.1];exact hlt
   obtain⟨lb,lo,cs,hA,hR,-,hc,hcs⟩:=HSL.out.at_ (k:=i) hil
   subst hA
   obtain⟨k1,k2⟩:=two_ky hc hcs
   obtain⟨hv,hs,hkp⟩:=HKL.out KL[i] (List.getElem_mem hil)
   obtain⟨vs,hvs⟩:=zx (KL[i])
   rw[←hvs] at k1 k2 hv hs hkp
   obtain⟨v,s⟩:=vs
   simp only at k1 k2 hv hs
   obtain⟨KN,KM,TX,hKN,hKM,hf,hl1,hl2,hSm,hres,hnd,hcon⟩:=HNC.out v s hv hs hkp
   obtain⟨S,hS⟩:=zx (rescL r (v:Int) (s:Int) KM KN)
   rw[←hS] at hl1 hl2 hSm hres hnd hcon
   have hcall:∀W,Below W4.heap.size W4 W→Calls Tryz.prog 23 #[.agg #[.int .i64 EX,fl,fm,fd,fv,fp,fo],.agg #[zp,zo,za],.int .i64 (v:Int),.int .i64 (s:Int)] W (fun e w'=>∃u,e=.returned (.tuple #[u,.int .i64 0])∧OwnI w' W.heap.size u (S.map (fun x:Nat=>(x:Int)))∧Below W.heap.size W w'):=fun W hb=>by
    have h:=HRS.out (v:Int) (s:Int) W hb
    unfold RescP at h
    rw[hres] at h
    exact h
   have HCALL:=zh hcall
   have hw4:=HB5.out.trans (HB.out.mono HB5.out.size)
   have HW4B:=zh hw4
   have HL1:=zh (fun(w':World) (hb:Below w5.heap.size w5 w')=>(show w'.cell? ⟨lb,lo+i * 2,none⟩=some (.int .i64 (v:Int))∧w'.cell? ⟨lb,lo+i * 2+1,none⟩=some (.int .i64 (s:Int)) from⟨(hb.cell (p:=⟨lb,lo+i * 2,none⟩) hR.2).trans k1,(hb.cell (p:=⟨lb,lo+i * 2+1,none⟩) hR.2).trans k2⟩))
   have HS6F:=zh (fun(w':World) (hb:Below w5.heap.size w5 w')=>(show w'.cell? ⟨g,0,none⟩=some (.int .i64 EX)∧w'.cell? ⟨g,1,none⟩=some fl∧w'.cell? ⟨g,2,none⟩=some fm∧w'.cell? ⟨g,3,none⟩=some fd∧w'.cell? ⟨g,4,none⟩=some fv∧w'.cell? ⟨g,5,none⟩=some fp∧w'.cell? ⟨g,6,none⟩=some fo∧w'.cell? ⟨p,0,none⟩=some zp∧w'.cell? ⟨p,1,none⟩=some zo∧w'.cell? ⟨p,2,none⟩=some za∧w'.cell? ⟨lb,lo+i * 2,none⟩=some (.int .i64 (v:Int))∧w'.cell? ⟨lb,lo+i * 2+1,none⟩=some (.int .i64 (s:Int)) from by
    obtain⟨⟨x0,x1,x2,x3,x4,x5,x6⟩,y0,y1,y2,-⟩:=HC.out w' (HB5.out.trans (hb.mono HB5.out.size))
    exact⟨x0,x1,x2,x3,x4,x5,x6,y0,y1,y2,(HL1.out w' hb).1,(HL1.out w' hb).2⟩))
   obtain⟨LS,hLS⟩:=zx S.length
   have HLS:=zh (show LS=S.length∧1≤LS∧LS≤2 from⟨hLS,by omega,by omega⟩)
   have HSM:=zh (And.intro hSm hnd)
   have HCON:=zh hcon
   have HVS:=zh (And.intro hv (And.intro hs (And.intro hKN (And.intro hKM hf))))
   have hli:(i:Int)<(NK:Int):=by omega
   clear hil hR hc hcs k1 k2 hv hs hkp hvs hKN hKM hf hl1 hl2 hSm hres hnd hcon hS hcall hw4 hLS
   go_upto_region 6 with fail
   refine region_tail (S:=(fun w'=>w'.cell? ⟨g,0,none⟩=some (.int .i64 EX)∧w'.cell? ⟨g,1,none⟩=some fl∧w'.cell? ⟨g,2,none⟩=some fm∧w'.cell? ⟨g,3,none⟩=some fd∧w'.cell? ⟨g,4,none⟩=some fv∧w'.cell? ⟨g,5,none⟩=some fp∧w'.cell? ⟨g,6,none⟩=some fo∧w'.cell? ⟨p,0,none⟩=some zp∧w'.cell? ⟨p,1,none⟩=some zo∧w'.cell? ⟨p,2,none⟩=some za∧w'.cell? ⟨lb,lo+i * 2,none⟩=some (.int .i64 (v:Int))∧w'.cell? ⟨lb,lo+i * 2+1,none⟩=some (.int .i64 (s:Int)))) [] (by kernel_rfl) (HS6F.out _ HB.out.drew) (fun hHeld=>?_)
   refine tk 0 31 ?_
   refine tk 1 32 ?_
   refine tk 2 33 ?_
   refine tk 3 34 ?_
   refine tk 4 35 ?_
   refine tk 5 36 ?_
   refine tk 6 37 ?_
   refine tk 7 38 ?_
   refine tk 8 39 ?_
   refine tk 9 40 ?_
   refine tk 10 41 ?_
   refine tk 11 42 ?_
   refine readyT (rs:=[12]) (by kernel_rfl) (by simp) ?_
   refine AllReadyT.cons rfl (fun K hK=>?_) ?_
   ·go_simp
    refine(HCALL.out _ HW4B.out.drew).mono ?_
    rintro e w6 ⟨u1,rfl,hO6,hb6⟩
    have hS6b:=HS6F.out _ (HB.out.drew.trans (hb6.mono HB.out.drew.size))
    refine hK.out _ _ ?_ (fun hHeld=>?_)
    ·(first|exact hS6b|assumption)
    clear hK K
    (try simp only[Act.put,z1,z2,z3])
    refine tk 13 30 ?_
    refine tk 14 44 ?_
    refine tk 15 45 ?_
    refine tk 16 8 ?_
    refine tk 17 9 ?_
    refine doneT (by kernel_rfl) ?_ _
    clear hHeld hS6b
    have hb6':Below wr.heap.size wr w6:=(Below.refl wr.heap.size wr).drew.trans hb6
    obtain⟨A8,c8,hu8⟩:=hO6.form
    rw[List.length_map,←HLS.out.1] at hu8
    subst hu8
    have HIS:=zh (hO6.intS (fun x hx=>by obtain⟨d,hd,rfl⟩:=List.mem_map.1 hx;have:=(HSM.out.1 d hd).1;have:=HPO.out;unfold I64;omega))
    have HB6:=zh (HB.out.trans (hb6'.mono HB.out.size))
    have hl3:=HLS.out.2
    have hl4:(1:Int)≤(LS:Int):=by omega
    have hl5:((LS:Int)==0)=false:=by rw[beq_eq_false_iff_ne];omega
    clear hO6 hb6 hb6' hl3
    go_wp2_with fail
    go_loopg [10] (LS+1) (fun z v10 wr=>∃sk:Int,v10=.int .i64 sk ∧ -1≤sk∧sk≤(LS:Int)∧(z:Int)=(LS:Int) - sk∧Hid (Below w6.heap.size w6 wr))
    case atStart=>exact⟨-1,rfl,by omega,by omega,by omega,zh (Below.refl _ _)⟩
    case round =>
     clear HB
     obtain⟨sk,rfl,hk1,hk2,hz,HB⟩:=hrel
     by_cases hsk:sk<(LS:Int)
     ·obtain⟨WQ,hWQ⟩:=zx wr
      subst hWQ
      have HSK:=zh (And.intro hk1 (And.intro hsk hz))
      have hw5:=HB6.out.trans (HB.out.mono HB6.out.size)
      have hw4:=HB5.out.trans (hw5.mono HB5.out.size)
      have HW5B:=zh hw5
      have HW4C:=zh hw4
      have HS12:=zh (fun(w':World) (hb:Below WQ.heap.size WQ w')=>(show w'.cell? ⟨p,0,none⟩=some (.slice B1 m1 d1)∧w'.cell? ⟨p,1,none⟩=some (.slice B2 m2 d2)∧w'.cell? ⟨p,2,none⟩=some (.slice B3 m3 d3)∧Below WQ.heap.size WQ w' from by
       obtain⟨-,y0,y1,y2,-⟩:=HC.out w' (hw4.trans (hb.mono hw4.size))
       rw[HEZ.out.1] at y0
       rw[HEZ.out.2.1] at y1
       rw[HEZ.out.2.2] at y2
       exact⟨y0,y1,y2,hb⟩))
      have HCB:=zh (fun(w':World) (hb:Below WQ.heap.size WQ w') (hn:0<m2)=>(show ∃b off,B2=some ⟨b,off,none⟩∧∀j u,(r.on.map Value.bool)[j]?=some u→w'.cell? ⟨b,off+j,none⟩=some u from by
       have h1:=(HM4.out.below (hw4.trans (hb.mono hw4.size))).2.1
       rw[HEZ.out.2.1] at h1
       obtain⟨b,off,e,hR,hc⟩:=row1_cells (f:=Value.bool) (fun _ _ _ _ h=>h) h1 hn
       exact⟨b,off,e,hc⟩))
      obtain⟨i0,hi0,hz0,hz1,hz2⟩:=info_parts info_bool
      clear hk1 hz hw5 hw4
      go_upto_region 12 with fail
      go_cut [11] from 59 to 66 (fun v11 wc=>∃(gX:Nat) (vo1:Value),v11=.pointer (some ⟨gX,0,none⟩)∧Hid (WthT WQ gX (.slice B1 m1 d1) (.slice B3 m3 d3) wc vo1 r.on))
      case first =>
       refine region_tail (S:=(fun w'=>w'.cell? ⟨p,0,none⟩=some (.slice B1 m1 d1)∧w'.cell? ⟨p,1,none⟩=some (.slice B2 m2 d2)∧w'.cell? ⟨p,2,none⟩=some (.slice B3 m3 d3)∧Below WQ.heap.size WQ w')) [9] (by kernel_rfl) (HS12.out _ (Below.refl _ _).drew) (fun hHeld=>?_)
       refine tk 0 59 ?_
       refine tk 1 60 ?_
       refine tk 2 61 ?_
       refine tk 3 62 ?_
       refine tk 4 63 ?_
       refine tk 5 64 ?_
       refine readyT (rs:=[6,8]) (by kernel_rfl) (by simp) ?_
       refine AllReadyT.cons rfl (fun K hK=>?_) ?_
       ·refine step_copy rfl (.const (.slice none 0 0)) (.tmp 64) _ rfl 4 i0 _ 1 1 Tryz.underlying37 hi0 hz0 hz1 hz2 rfl (by decide) m2 B2 d2 (r.on.map Value.bool) (by rfl) (by rfl) (by rw[List.length_map,←HPO.out.2.2];omega) (HCB.out _ hHeld.2.2.2) (fun u hu=>by obtain⟨x,-,rfl⟩:=List.mem_map.1 hu;rfl) (by have:=HPO.out;unfold maxLen;omega) (by have:=HPO.out;omega) ?_
        intro vo' w7 ho7 hb7 hn7
        obtain⟨A7,c7,rfl⟩:=own_form ho7
        have hS7:=HS12.out _ (hHeld.2.2.2.trans (hb7.mono hHeld.2.2.2.size))
        have hWX:=hHeld.2.2.2.trans (hb7.mono hHeld.2.2.2.size)
        first|(have hX7:w7.heap[WQ.heap.size]?=some (.cells #[.slice none 0 0,.slice none 0 0,.slice none 0 0] 40 (0,0)):=(hb7.block WQ.heap.size (by simp)).trans (heap_alloc_new WQ.drew _);obtain⟨e0,e1,e2,g0,g1,g2⟩:=cells3 hX7)|skip
        refine hK.out _ _ ?_ (fun hHeld=>?_)
        ·(first|exact hS7|assumption|exact HS12.out _ (hHeld.2.2.2.alloc hHeld.2.2.2.size _))
        clear hK K
        (try simp only[Act.put,z1,z2,z3])
        refine tk 7 66 ?_
        refine readyT (rs:=[8]) (by kernel_rfl) (by simp) ?_
        refine AllReadyT.cons rfl (fun K hK=>?_) ?_
        ·go_simp
         refine hK.out _ _ ?_ (fun hHeld=>?_)
         ·(first|exact hS7|assumption|exact HS12.out _ (hHeld.2.2.2.alloc hHeld.2.2.2.size _))
         clear hK K
         (try simp only[Act.put,z1,z2,z3])
         refine readyT (rs:=[9]) (by kernel_rfl) (by simp) ?_
         refine AllReadyT.consT rfl rfl (fun K hK=>?_) ?_
         ·go_simp
          refine hK.out _ _ ?_
          clear hK K
          (try simp only[Act.put,z1,z2,z3])
          refine doneT (by kernel_rfl) ?_ _
          go_wp2_with fail
          go_meet
          first
          | exact⟨_,_,rfl,zh ⟨hWX.alloc hWX.size _,heap_alloc_new w7 _,by rw[←HPO.out.2.2];exact(own_base ho7 (Nat.le_refl _)).alloc _,hWX.size⟩⟩
          | exact⟨_,_,rfl,zh (wth_store hWX hX7 (Nat.le_refl _) (by rw[←HPO.out.2.2];exact own_base ho7 (by simp)))⟩
         exact AllReadyT.nil
        exact AllReadyT.nil
       refine AllReadyT.cons rfl (fun K hK=>?_) ?_
       ·go_simp
        refine hK.out _ _ ?_ (fun hHeld=>?_)
        ·(first|exact hS7|assumption|exact HS12.out _ (hHeld.2.2.2.alloc hHeld.2.2.2.size _))
        clear hK K
        (try simp only[Act.put,z1,z2,z3])
        refine readyT (rs:=[6]) (by kernel_rfl) (by simp) ?_
        refine AllReadyT.cons rfl (fun K hK=>?_) ?_
        ·refine step_copy rfl (.const (.slice none 0 0)) (.tmp 64) _ rfl 4 i0 _ 1 1 Tryz.underlying37 hi0 hz0 hz1 hz2 rfl (by decide) m2 B2 d2 (r.on.map Value.bool) (by rfl) (by rfl) (by rw[List.length_map,←HPO.out.2.2];omega) (HCB.out _ hHeld.2.2.2) (fun u hu=>by obtain⟨x,-,rfl⟩:=List.mem_map.1 hu;rfl) (by have:=HPO.out;unfold maxLen;omega) (by have:=HPO.out;omega) ?_
         intro vo' w7 ho7 hb7 hn7
         obtain⟨A7,c7,rfl⟩:=own_form ho7
         have hS7:=HS12.out _ (hHeld.2.2.2.trans (hb7.mono hHeld.2.2.2.size))
         have hWX:=hHeld.2.2.2.trans (hb7.mono hHeld.2.2.2.size)
         first|(have hX7:w7.heap[WQ.heap.size]?=some (.cells #[.slice none 0 0,.slice none 0 0,.slice none 0 0] 40 (0,0)):=(hb7.block WQ.heap.size (by simp)).trans (heap_alloc_new WQ.drew _);obtain⟨e0,e1,e2,g0,g1,g2⟩:=cells3 hX7)|skip
         refine hK.out _ _ ?_ (fun hHeld=>?_)
         ·(first|exact hS7|assumption|exact HS12.out _ (hHeld.2.2.2.alloc hHeld.2.2.2.size _))
         clear hK K
         (try simp only[Act.put,z1,z2,z3])
         refine tk 7 66 ?_
         refine readyT (rs:=[9]) (by kernel_rfl) (by simp) ?_
         refine AllReadyT.consT rfl rfl (fun K hK=>?_) ?_
         ·go_simp
          refine hK.out _ _ ?_
          clear hK K
          (try simp only[Act.put,z1,z2,z3])
          refine doneT (by kernel_rfl) ?_ _
          go_wp2_with fail
          go_meet
          first
          | exact⟨_,_,rfl,zh ⟨hWX.alloc hWX.size _,heap_alloc_new w7 _,by rw[←HPO.out.2.2];exact(own_base ho7 (Nat.le_refl _)).alloc _,hWX.size⟩⟩
          | exact⟨_,_,rfl,zh (wth_store hWX hX7 (Nat.le_refl _) (by rw[←HPO.out.2.2];exact own_base ho7 (by simp)))⟩
         exact AllReadyT.nil
        exact AllReadyT.nil
       exact AllReadyT.nil
      case rest =>
       obtain⟨gX,vo1,rfl,HX⟩:=hcut
       obtain⟨Av,cv,hvf⟩:=own_form HX.out.ons
       rw[←HPO.out.2.2] at hvf
       subst hvf
       have hl0:0<m2:=by
        have h1:=HLS.out
        obtain⟨d,hd⟩:=List.exists_mem_of_length_pos (l:=S) (by omega)
        have h2:=HSM.out.1 d hd
        rw[HPO.out.2.2];omega
       obtain⟨gb,hAv,-⟩:=HX.out.at_ HPO.out.2.2.symm (by rw[←HPO.out.2.2];exact hl0)
       subst hAv
       clear hl0
       go_wp2_with fail
       go_loopg [12] LS (fun z v12 wi=>∃k:Nat,v12=.int .i64 (k:Int)∧k≤LS∧z=LS - k∧Hid (WthT WQ gX (.slice B1 m1 d1) (.slice B3 m3 d3) wi (.slice (some ⟨gb,0,none⟩) m2 cv) (onAt r.on S sk k)))
       case atStart=>exact⟨0,rfl,Nat.zero_le _,rfl,HX⟩
       case round =>
        clear HX
        obtain⟨k,rfl,hk,rfl,HX⟩:=hrel
        by_cases hlk:k<LS
        ·have HLK:=zh hlk
         have hkS:k<S.length:=by rw[←HLS.out.1];exact hlk
         obtain⟨sb,so,hA8,hR8,hc8,-⟩:=HIS.out.at7 (k:=k) (by rw[List.length_map];exact hkS)
         subst hA8
         rw[List.getElem_map] at hc8
         obtain⟨d,hd⟩:=zx (S[k])
         rw[←hd] at hc8
         obtain⟨hdl,hdo⟩:=HSM.out.1 d (by rw[hd];exact List.getElem_mem hkS)
         have h6w:=HB.out.trans (HX.out.hot.mono HB.out.size)
         have e1:wr.cell? ⟨sb,so+k,none⟩=some (.int .i64 (d:Int)):=(h6w.cell (p:=⟨sb,so+k,none⟩) hR8.2).trans hc8
         obtain⟨x0,x1,x2,xf,-⟩:=HX.out.cells
         have hlen:(onAt r.on S sk k).length=m2:=by rw[onAt_length,HPO.out.2.2]
         have HLEN2:=zh hlen
         obtain⟨gb2,hgb2,hcl⟩:=HX.out.at_ hlen (by rw[hlen,HPO.out.2.2];omega)
         injection hgb2 with hgb2
         injection hgb2 with hgb2
         subst hgb2
         have hdm:d<m2:=by rw[HPO.out.2.2];exact hdl
         obtain⟨ec,ef⟩:=hcl d (by rw[hlen];exact hdm)
         obtain⟨bo,hbo⟩:=zx ((onAt r.on S sk k)[d]'(by rw[hlen];exact hdm))
         rw[←hbo] at ec
         obtain⟨y0,y1,y2,-⟩:=HS12.out wr HX.out.hot
         obtain⟨rb,ro,hB2,hrc⟩:=HCB.out wr HX.out.hot (by omega)
         subst hB2
         have er:=hrc d (.bool (onB r d)) (by rw[List.getElem?_map,List.getElem?_eq_getElem hdl];unfold onB;rw[getD_lt _ _ hdl];rfl)
         rw[hdo] at er
         have hdi:(d:Int)<(m2:Int):=by omega
         have hki:(k:Int)<(LS:Int):=by omega
         have HSD:=zh (show S.getD k 0=d from by rw[getD_lt _ _ hkS,hd])
         have hm9:(m2:Int)≤9:=by have:=HPO.out;omega
         have hls2:(LS:Int)≤2:=by have:=HLS.out;omega
         clear hkS hR8 hc8 hd hdl hdo h6w xf hlen hcl hbo hrc y0 y2 x0 x2
         have HS18:=zh (fun(w':World) (hh:w'.heap=wr.heap)=>(show w'.cell? ⟨gX,1,none⟩=some (.slice (some ⟨gb,0,none⟩) m2 cv)∧w'.cell? ⟨sb,so+k,none⟩=some (.int .i64 (d:Int))∧w'.cell? ⟨gb,d,none⟩=some (.bool bo)∧w'.frozen? ⟨gb,d,none⟩=false from by
          refine⟨?_,?_,?_,?_⟩
          ·rw[←x1];exact World.cell?_of_block (by rw[hh])
          ·rw[←e1];exact World.cell?_of_block (by rw[hh])
          ·rw[←ec];exact World.cell?_of_block (by rw[hh])
          ·have h2:=ef;unfold World.frozen? at h2 ⊢;rw[hh];exact h2))
         go_upto_region 16 with fail
         go_quiet (fail)
         clear y1 er ec ef
         go_upto_region 18 with fail
         refine region_tail (S:=(fun w'=>w'.cell? ⟨gX,1,none⟩=some (.slice (some ⟨gb,0,none⟩) m2 cv)∧w'.cell? ⟨sb,so+k,none⟩=some (.int .i64 (d:Int))∧w'.cell? ⟨gb,d,none⟩=some (.bool bo)∧w'.frozen? ⟨gb,d,none⟩=false)) [10] (by kernel_rfl) (HS18.out _ rfl) (fun hHeld=>?_)
         refine tk 0 98 ?_
         refine tk 1 99 ?_
         refine tk 2 100 ?_
         refine tk 3 101 ?_
         refine tk 4 102 ?_
         refine tk 5 103 ?_
         refine tk 6 104 ?_
         refine tk 7 105 ?_
         refine tk 8 106 ?_
         refine tk 9 107 ?_
         refine readyT (rs:=[10]) (by kernel_rfl) (by simp) ?_
         refine AllReadyT.consT rfl rfl (fun K hK=>?_) ?_
         ·obtain⟨h1,h2,h3,h4⟩:=HS18.out (wr.drewN (nq+1)) rfl
          go_simp
          refine hK.out _ _ ?_
          clear hK K
          (try simp only[Act.put,z1,z2,z3])
          refine doneT (by kernel_rfl) ?_ _
          go_wp2_with fail
          go_roundg (LS - (k+1))
          case measure=>have:=HLK.out;omega
          case rel =>
           refine⟨k+1,by go_num,by have:=HLK.out;omega,rfl,zh ?_⟩
           have hst:onAt r.on S sk (k+1)=(onAt r.on S sk k).set d (decide ((k:Int)≠sk)):=by
            show(onAt r.on S sk k).set (S.getD k 0) _=_
            rw[HSD.out]
           rw[hst]
           have hX2:=(HX.out.below (Below.drewN' (Below.refl _ _) (nq+1))).setO (d:=d) (x:=decide ((k:Int)≠sk)) HLEN2.out
           have hbe:((k:Int) != sk)=decide ((k:Int)≠sk):=by rw[Bool.eq_iff_iff];simp
           rw[hbe]
           exact hX2
         exact AllReadyT.nil
        ·obtain rfl:LS=k:=by omega
         obtain⟨ON,hON⟩:=zx (onAt r.on S sk S.length)
         have hx0:=HX.out
         rw[HLS.out.1,←hON] at hx0
         have honl:ON.length=m2:=by rw[hON,onAt_length,HPO.out.2.2]
         have hww:=HW4C.out.trans (hx0.hot.mono HW4C.out.size)
         have hw5:=HW5B.out.trans (hx0.hot.mono HW5B.out.size)
         have hre:ReS wr (Bl wr.heap.size) (.slice B1 m1 d1) (.slice (some ⟨gb,0,none⟩) m2 cv) (.slice B3 m3 d3) ⟨r.plat,ON,r.acks⟩:=by
          have h1:=HM4.out.below hww
          refine⟨?_,own_bools hx0.ons (fun b hb=>(hx0.ons.lt b hb).2),?_⟩
          ·have h2:=h1.1;rw[HEZ.out.1] at h2;exact h2
          ·have h2:=h1.2.2;rw[HEZ.out.2.2] at h2;exact h2
         obtain⟨hv,hs,hKN,hKM,hf⟩:=HVS.out
         have hx:=HEXN.out
         have hco:∀W,Below wr.heap.size wr W→Calls Tryz.prog 27 #[.agg #[.int .i64 EX,fl,fm,fd,fv,fp,fo],.agg #[.slice B1 m1 d1,.slice (some ⟨gb,0,none⟩) m2 cv,.slice B3 m3 d3],.int .i64 (v:Int),.int .i64 (s:Int),.bool true] W (fun e w'=>e=.returned (.tuple #[.string ⟨(conS ⟨r.plat,ON,r.acks⟩ v s true KN KM).toArray⟩,.int .i64 (conE ⟨r.plat,ON,r.acks⟩ v s true KN KM)])∧Below W.heap.size W w'):=fun W hb=>by
          have h:=contents_any 2 (by omega) fl fm fd fv fp fo _ _ _ F ⟨r.plat,ON,r.acks⟩ v s EXN KN KM true W (HFS.out.below (hww.trans (hb.mono hww.size))) HOK.out (hre.below hb) (by show r.plat.length≤1000;have:=HPL.out;omega) HLEN.out HAK.out hv hx.1 hs hKN hKM
          rw[←HEX.out] at h
          exact h
         have hcn:=HCON.out sk HSK.out.1 (by have h1:=HSK.out.2.1;rw[HLS.out.1] at h1;exact h1)
         rw[←hON] at hcn
         obtain⟨CS,hCS⟩:∃b:ByteArray,b=⟨(conS ⟨r.plat,ON,r.acks⟩ v s true KN KM).toArray⟩:=⟨_,rfl⟩
         obtain⟨CE,hCE⟩:=zx (conE ⟨r.plat,ON,r.acks⟩ v s true KN KM)
         rw[←hCS,←hCE] at hcn
         rw[←hCS,←hCE] at hco
         have HCO:=zh hco
         have HCN:=zh hcn
         have HXX:=zh hx0
         have HWW:=zh hww
         have HW5:=zh hw5
         have HLK:=zh (fun(W:World) (hb:Below wr.heap.size wr W)=>(show(Instr.lookup 41 (.map (some gM)) (.agg #[.int .i64 (v:Int),.int .i64 (s:Int)]) false).run Tryz.prog W=.ok (.string TX) W from by
          have h:=MapKV.look (t:=41) (e:=9) (z:=.string ⟨#[]⟩) (w:=W) skey_two (HMP.out W (hww.trans (hb.mono hww.size))) Tryz.underlying41 (by rfl) (x:=(v:Int)) (y:=(s:Int)) (by unfold I64;omega) (by unfold I64;omega)
          rw[hf] at h
          exact h))
         have HS19F:=zh (fun(w':World) (hb:Below wr.heap.size wr w')=>(show w'.cell? ⟨g,0,none⟩=some (.int .i64 EX)∧w'.cell? ⟨g,1,none⟩=some fl∧w'.cell? ⟨g,2,none⟩=some fm∧w'.cell? ⟨g,3,none⟩=some fd∧w'.cell? ⟨g,4,none⟩=some fv∧w'.cell? ⟨g,5,none⟩=some fp∧w'.cell? ⟨g,6,none⟩=some fo∧w'.cell? ⟨gX,0,none⟩=some (.slice B1 m1 d1)∧w'.cell? ⟨gX,1,none⟩=some (.slice (some ⟨gb,0,none⟩) m2 cv)∧w'.cell? ⟨gX,2,none⟩=some (.slice B3 m3 d3)∧w'.cell? ⟨lb,lo+i * 2,none⟩=some (.int .i64 (v:Int))∧w'.cell? ⟨lb,lo+i * 2+1,none⟩=some (.int .i64 (s:Int)) from by
          obtain⟨⟨x0,x1,x2,x3,x4,x5,x6⟩,-⟩:=HC.out w' (hww.trans (hb.mono hww.size))
          obtain⟨y0,y1,y2,-⟩:=(hx0.below hb).cells
          have hl:=HL1.out w' (hw5.trans (hb.mono hw5.size))
          exact⟨x0,x1,x2,x3,x4,x5,x6,y0,y1,y2,hl.1,hl.2⟩))
         have hli2:(i:Int)<(NK:Int):=hli
         clear hON hx0 honl hww hw5 hre hv hs hKN hKM hf hx hco hcn hCS hCE
         go_upto_region 19 with fail
         refine region_tail (S:=(fun w'=>w'.cell? ⟨g,0,none⟩=some (.int .i64 EX)∧w'.cell? ⟨g,1,none⟩=some fl∧w'.cell? ⟨g,2,none⟩=some fm∧w'.cell? ⟨g,3,none⟩=some fd∧w'.cell? ⟨g,4,none⟩=some fv∧w'.cell? ⟨g,5,none⟩=some fp∧w'.cell? ⟨g,6,none⟩=some fo∧w'.cell? ⟨gX,0,none⟩=some (.slice B1 m1 d1)∧w'.cell? ⟨gX,1,none⟩=some (.slice (some ⟨gb,0,none⟩) m2 cv)∧w'.cell? ⟨gX,2,none⟩=some (.slice B3 m3 d3)∧w'.cell? ⟨lb,lo+i * 2,none⟩=some (.int .i64 (v:Int))∧w'.cell? ⟨lb,lo+i * 2+1,none⟩=some (.int .i64 (s:Int)))) [] (by kernel_rfl) (HS19F.out _ (Below.refl _ _).drew) (fun hHeld=>?_)
         refine tk 0 109 ?_
         refine tk 1 110 ?_
         refine tk 2 111 ?_
         refine tk 3 112 ?_
         refine tk 4 113 ?_
         refine tk 5 114 ?_
         refine tk 6 115 ?_
         refine tk 7 116 ?_
         refine tk 8 117 ?_
         refine tk 9 118 ?_
         refine tk 10 119 ?_
         refine tk 11 120 ?_
         refine readyT (rs:=[12]) (by kernel_rfl) (by simp) ?_
         refine AllReadyT.cons rfl (fun K hK=>?_) ?_
         ·go_simp
          refine(HCO.out _ (Below.refl _ _).drew).mono ?_
          rintro e w9 ⟨rfl,hb9⟩
          have hS9:=HS19F.out _ ((Below.refl wr.heap.size wr).drew.trans hb9)
          refine hK.out _ _ ?_ (fun hHeld=>?_)
          ·(first|exact hS9|assumption)
          clear hK K
          (try simp only[Act.put,z1,z2,z3])
          refine tk 13 108 ?_
          refine tk 14 122 ?_
          refine tk 15 123 ?_
          refine tk 16 13 ?_
          refine tk 17 14 ?_
          refine doneT (by kernel_rfl) ?_ _
          have HB9:=zh ((Below.refl wr.heap.size wr).drew.trans hb9)
          clear hHeld hb9
          obtain⟨-,-,-,-,-,-,-,-,-,-,l1,l2⟩:=hS9
          have hlk:=HLK.out w9 HB9.out
          have hbz:=HXX.out.hot.trans (HB9.out.mono HXX.out.hot.size)
          have HBZ:=zh (HB.out.trans (hbz.mono HB.out.size))
          have HSK2:=zh HSK.out
          clear hbz
          have hsk1:=HSK.out.1
          have hsk2:=HSK.out.2.1
          have hls3:(LS:Int)≤2:=by have:=HLS.out;omega
          by_cases h0:sk<0
          ·obtain⟨hce,hcs⟩:=HCN.out.1 h0
           subst hce hcs
           have hd0:decide (sk<0)=true:=decide_eq_true h0
           go_wp2_with fail
           go_roundg (gk - 1)
           case measure=>have h1:=HSK2.out;omega
           case rel=>exact⟨sk+1,by go_num,by omega,by omega,by have h1:=HSK2.out;omega,HBZ⟩
          ·have hce:=HCN.out.2 (by omega)
           subst hce
           have hd0:decide (sk<0)=false:=decide_eq_false h0
           go_wp2_with fail
           go_roundg (gk - 1)
           case measure=>have h1:=HSK2.out;omega
           case rel=>exact⟨sk+1,by go_num,by omega,by omega,by have h1:=HSK2.out;omega,HBZ⟩
         exact AllReadyT.nil
     ·obtain rfl:sk=(LS:Int):=by omega
      have hnk:=HNK.out.2
      go_wp2_with fail
      go_roundg (NK - (i+1))
      case measure=>have:=HLT.out;omega
      case rel=>exact⟨i+1,by go_num,by have:=HLT.out;omega,rfl,zh (HB6.out.trans (HB.out.mono HB6.out.size))⟩
   exact AllReadyT.nil
  ·go_wp2_with fail
   refine(HAW.out _).mono ?_
   rintro e w8 ⟨rfl,hb8⟩
   have hb58:=HB.out.trans (hb8.mono HB.out.size)
   have hb48:=HB5.out.trans (hb58.mono HB5.out.size)
   have HBB:=zh (HB4.out.trans (hb48.mono HB4.out.size))
   clear hb58 hb48 hb8
   go_wp2_with fail
   go_ret
   exact⟨rfl,HBB.out⟩
end Go.Proofs.YtcfkllnpkmebpaaGreatDoor

namespace Go.Proofs.YtcfkllnpkmebpaaGreatDoor
open Go.RowKit Go.ChangeShapes Go.WideShapes Go.ChangeAt Go.Deep Go.Joins
set_option linter.unusedVariables false
set_option linter.unusedSimpArgs false
theorem wf_i64{x:Int} (h:(Lit.int .i64 x).wf=true):I64 x:=by
 simpa[Lit.wf,IntKind.min,IntKind.max,IntKind.signed,IntKind.bits,I64] using h
section
variable {H : Type} {enc : TypeId × Value → H} {P : Program} {W : World}
theorem open_intS{t e:TypeId} {spare:Nat→Bool} {held:Bool} {base fuel:Nat} {v:Value} {x:DataW H×List MemPlace} (ht:P.underlying t=some (.slice e)) (he:P.underlying e=some (.int .i64)) (hc:P.cellsOf e=1)
  (h:DataW.trod enc P W base spare held fuel t [v]=some x):∃xs,IntS W (Bl W.heap.size) v xs:=by
 rcases open_ints ht he hc h with ⟨hcs,_⟩ | ⟨a,len,cap,zs,hcs,_,hl,hm,hz,_,hcell,hwz⟩
 ·simp at hcs;subst hcs
  exact⟨[],IntS.nil _ _ _⟩
 ·simp at hcs;subst hcs
  have hzl:len≤zs.length:=by rw[hz];split <;> omega
  have hxl:(zs.take len).length=len:=by rw[List.length_take];omega
  refine⟨zs.take len,⟨some a,cap,by rw[hxl],by rw[hxl];exact hl,by rw[hxl];omega,fun hn=>?_⟩,fun y hy=>wf_i64 (hwz y (List.mem_of_mem_take hy))⟩
  rw[hxl] at hn
  obtain⟨b,off,spot⟩:=a
  have g0:=hcell 0 (by omega)
  have hspot:spot=none:=by simpa[Addr.add] using World.cell?_spot g0
  subst hspot
  have hb:=block_lt_of_cell g0
  refine⟨b,off,rfl,by simpa[Addr.add,Bl] using hb,fun k y hk=>?_⟩
  have hkl:k<(zs.take len).length:=(List.getElem?_eq_some_iff.1 hk).1
  rw[hxl] at hkl
  have g:=hcell k (by omega)
  have e1:(⟨b,off,none⟩:Addr).add k=⟨b,off+k,none⟩:=by unfold Addr.add;split <;> simp_all
  rw[e1] at g
  rw[g]
  rw[List.getElem?_take_of_lt hkl] at hk
  rw[List.getD,hk];rfl
end
end Go.Proofs.YtcfkllnpkmebpaaGreatDoor
