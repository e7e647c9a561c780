/- The program's choose, walked. -/
import Derived.Test.YtcfkllnpkmebpaaGreatDoorMh01
import Derived.Test.YtcfkllnpkmebpaaGreatDoorMh02
import Derived.Test.YtcfkllnpkmebpaaGreatDoorMh03
import Derived.Test.YtcfkllnpkmebpaaGreatDoorMh04
import Derived.Test.YtcfkllnpkmebpaaGreatDoorMh05
import Derived.Test.YtcfkllnpkmebpaaGreatDoorMh06
import Derived.Test.YtcfkllnpkmebpaaGreatDoorMh07
import Derived.Test.YtcfkllnpkmebpaaGreatDoorMh08
import Derived.Test.YtcfkllnpkmebpaaGreatDoorMh09
import Derived.Test.YtcfkllnpkmebpaaGreatDoorMh10
import Derived.Test.YtcfkllnpkmebpaaGreatDoorMh11
import Derived.Test.YtcfkllnpkmebpaaGreatDoorMh12
import Derived.Test.YtcfkllnpkmebpaaGreatDoorMh13
import Derived.Test.YtcfkllnpkmebpaaGreatDoorMh14
import Derived.Test.YtcfkllnpkmebpaaGreatDoorMh15
import Derived.Test.YtcfkllnpkmebpaaGreatDoorMh16
import Derived.Test.YtcfkllnpkmebpaaGreatDoorMh17
import Derived.Test.YtcfkllnpkmebpaaGreatDoorMh18
import Derived.Laws.AppendOwnNone
import Derived.Test.YtcfkllnpkmebpaaGreatDoorMn04
import Derived.Test.YtcfkllnpkmebpaaGreatDoorMn03
import Derived.Test.YtcfkllnpkmebpaaGreatDoorMn01
import Derived.Test.YtcfkllnpkmebpaaGreatDoorMn02
set_option maxRecDepth 100000
set_option maxHeartbeats 12800000
namespace Go.Proofs.YtcfkllnpkmebpaaGreatDoor
open Go.RowKit
set_option linter.unusedVariables false
set_option linter.unusedSimpArgs false
theorem app_ints{ops:Array Oper} {rest:List Oper} {o:Oper} {a:Act} {Q:Exit→Act→World→Prop} {w:World} (s x:Operand) (hgd:o.guard=none) (ho:o.op=.call { callee:=.builtin .append,args:=#[s,x],argTypes:=#[22,22] })
  (base base2:Nat) (v v2:Value) (xs ys:List Int) (hs:a.eval s=v) (hown:OwnI w base v xs)
  (hx:a.eval x=v2) (hown2:OwnI w base2 v2 ys) (hn:xs.length+ys.length≤65536) (hbase:base≤w.heap.size)
  (h:∀v' w',OwnI w' base v' (xs++ys)→w.grownBy w' v.ownBlock→(v'.ownBlock=v.ownBlock∨v'.ownBlock=some w.heap.size)→wpList Tryz.prog ops Q rest (a.put o.dst v') w') :
  wpList Tryz.prog ops Q (o :: rest) a w:=by
 obtain⟨i0,hi0,hz0,hz1,hz2⟩:=info_parts info_int2
 have hown1':w.ownsRow base 3 1 v xs.length (xs.map (Value.int .i64)):=hown
 have hown2':w.ownsRow base2 3 1 v2 ys.length (ys.map (Value.int .i64)):=hown2
 have hcells:=fun g=>hown2'.cells (g:=g)
 rcases hown2'.2 with ⟨rfl,h0⟩ | ⟨g,cap,cur,rfl,-,-,-,-⟩
 ·have e:ys=[]:=List.eq_nil_of_length_eq_zero h0
  subst e
  refine wpList_append_own_none hgd s x _ ho base _ i0 1 Tryz.underlying22 hi0 v xs.length _ hs hown1' hx (h v w ?_ ⟨rfl,rfl,rfl,Nat.le_refl _,fun _ _ _=>rfl⟩ (.inl rfl))
  rw[List.append_nil];exact hown
 ·refine wpList_append_own_at (P:=Tryz.prog) _ hgd s x _ ho base _ i0 _ 1 8 Tryz.underlying22 hi0 hz0 hz1 hz2 rfl (by omega) v xs.length _ hs hown1' ⟨g,0,none⟩ ys.length cap _ hx (by simp) (hcells g rfl) (fun u hu=>?_) (by unfold maxLen;omega) (by omega) hbase (fun v' w' a b _ d=>h v' w' ?_ b d)
  ·obtain⟨y,-,rfl⟩:=List.mem_map.1 hu
   rfl
  ·show w'.ownsRow base 3 1 v' (xs++ys).length ((xs++ys).map (Value.int .i64))
   rw[List.length_append,List.map_append]
   exact a
theorem chs_length{hv:Nat→Nat} {m k:Nat}:∀{n fr s:Nat} {l:List Nat},chs hv m k n fr s=some l→l.length=n:=by
 intro n
 induction n with
 | zero =>
  intro fr s l h
  rw[chs_zero] at h
  split at h
  ·injection h with h;rw[←h];rfl
  ·cases h
 | succ n ih =>
  intro fr s l h
  obtain⟨d,hd,h1⟩:=List.exists_of_findSome?_eq_some (show List.findSome? _ _=some l from h)
  split at h1
  ·cases h1
  ·obtain⟨l',h2,rfl⟩:=Option.map_eq_some_iff.1 h1
   rw[List.length_cons,ih h2]
def ChP(w:World) (o:Option (List Nat)) (e:Ending) (w':World):Prop :=
 ∃u,e=.returned (.tuple #[u,.bool o.isSome])∧OwnI w' w.heap.size u ((o.getD []).map (fun x:Nat=>(x:Int)))∧Below w.heap.size w w'
theorem zero_int8(w:World):(zeroValue 3).run Tryz.prog w=.ok (.int .i64 0) w:=Tryz.zeroValue3 w
theorem own_lit8(w:World) (d:Int):OwnI (w.alloc (.cells #[.int .i64 d] 3)) w.heap.size (.slice (some ⟨w.heap.size,0,none⟩) 1 1) [d] :=
 ⟨rfl,.inr ⟨w.heap.size,1,#[.int .i64 d],rfl,Nat.le_refl _,heap_alloc_new w _,Nat.le_refl _,by unfold maxLen;omega,rfl,by simp⟩⟩
theorem choose_any(b c:Nat) (f:Int→Option Value) (hv:Nat→Nat) (m k:Nat) (hf:∀d:Nat,d<m→(f (d:Int)).getD (.int .i64 0)=.int .i64 (hv d:Int)) (h256:∀d,hv d<256) (hm:m≤1000) (hk:k≤100) :
  ∀n:Nat,n≤2→∀(fr s:Nat) (w:World),fr≤m→s<256→MapG w 3 kint b c f →
   Calls Tryz.prog 63 #[.map (some b),.int .i64 (m:Int),.int .i64 (n:Int),.int .i64 (fr:Int),.int .i64 (s:Int),.int .i64 (k:Int)] w (ChP w (chs hv m k n fr s)):=by
 intro n
 induction n with
 | zero =>
  intro hn fr s w hfr hs hM
  have hp8:=popc_le s
  have HC:=zh (fun w=>count_any s w hs)
  rw[chs_zero]
  obtain⟨p,hp⟩:=zx (popc s)
  rw[←hp] at hp8 HC ⊢
  by_cases h1:k≤p
  ·rw[if_pos h1]
   have h2:(k:Int)≤(p:Int):=by omega
   clear hp hf h256 hM
   go_enter Tryz.func63,Tryz.ntmps63
   go_wp2_with (go_at_call 110;refine(HC.out _).mono ?_;rintro e w' ⟨rfl,rfl⟩)
   go_ret2
   exact⟨_,rfl,OwnI.nil _ _,Below.refl _ _⟩
  ·rw[if_neg h1]
   have h2:(p:Int)<(k:Int):=by omega
   clear hp hf h256 hM
   go_enter Tryz.func63,Tryz.ntmps63
   go_wp2_with (go_at_call 110;refine(HC.out _).mono ?_;rintro e w' ⟨rfl,rfl⟩)
   go_ret2
   exact⟨_,rfl,OwnI.nil _ _,Below.refl _ _⟩
 | succ n IH =>
  intro hn fr s w hfr hs hM
  obtain⟨nn,hnn⟩:∃q:Int,q=((n+1:Nat):Int):=⟨_,rfl⟩
  have n1:nn - 1=(n:Int):=by omega
  have n2:(nn==0)=false:=by rw[beq_eq_false_iff_ne];omega
  rw[←hnn]
  obtain⟨res,hres⟩:=zx (chs hv m k (n+1) fr s)
  rw[←hres]
  have HRES:=zh hres
  have HM:=zh hM
  have HF:=zh hf
  have H256:=zh h256
  have HIH:=zh (IH (by omega))
  have hn2:n≤1:=by omega
  clear hnn hres hM hf h256 IH hn
  go_enter Tryz.func63,Tryz.ntmps63
  go_wp2_with fail
  go_loopg [14] (m - fr) (fun z v14 wr=>∃d:Nat,v14=.int .i64 (d:Int)∧d≤m∧z=m - d∧Hid (res=chs hv m k (n+1) d s)∧Hid (Below w.heap.size w wr))
  case atStart=>exact⟨fr,rfl,hfr,rfl,zh HRES.out,zh (Below.refl _ _)⟩
  case round =>
   obtain⟨d,rfl,hd,rfl,HR,HB⟩:=hrel
   have HMW:=zh (HM.out.below HB.out HM.out.lt)
   by_cases hlt:d<m
   ·have hfd:=HF.out d hlt
    have hx:=H256.out d
    obtain⟨x,hxe⟩:=zx (hv d)
    rw[←hxe] at hfd hx
    have HX:=zh hxe
    have HFD:=zh hfd
    have HID:=zh (show I64 (d:Int) from⟨by omega,by omega⟩)
    clear hxe hfd
    by_cases h0:x=0
    ·subst h0
     go_wp2_with (at_lookup;refine kg_look rfl _ _ _ 3 3 rfl (int_key Tryz.underlying3) Tryz.underlying132 b c f (d:Int) (.int .i64 0) (by rfl) (by rfl) HMW.out (zero_int8 _) HID.out _ HFD.out ?_)
     go_roundg (m - (d+1))
     case measure=>omega
     case rel=>exact⟨d+1,by go_num,by omega,rfl,zh (HR.out.trans (chs_skip hlt HX.out.symm)),HB⟩
    ·have hx0:(x:Int)≠0:=by omega
     have hor:=i64_or_nat s x (by omega) (by omega)
     have hul:s ||| x<256:=Nat.or_lt_two_pow (n:=8) hs hx
     obtain⟨u,hu⟩:=zx (s ||| x)
     rw[←hu] at hor hul
     have HU:=zh (show u=s ||| hv d by rw[hu,HX.out])
     obtain⟨o,ho⟩:=zx (chs hv m k n (d+1) u)
     have HIC:=zh (fun(w1:World) (h1:MapG w1 3 kint b c f)=>HIH.out (d+1) u w1 (by omega) hul h1)
     rw[←ho,show((d+1:Nat):Int)=(d:Int)+1 by omega] at HIC
     have HO:=zh ho
     have HX0:=zh (show hv d≠0 by rw[←HX.out];exact h0)
     clear hu ho h0 hul
     cases o with
     | none =>
      go_wp2_with (first
       | (at_lookup;refine kg_look rfl _ _ _ 3 3 rfl (int_key Tryz.underlying3) Tryz.underlying132 b c f (d:Int) (.int .i64 0) (by rfl) (by rfl) HMW.out (zero_int8 _) HID.out _ HFD.out ?_)
       | (go_at_call 63;refine(HIC.out _ HMW.out).mono ?_;rintro e w1 ⟨v1,rfl,-,hb1⟩))
      go_roundg (m - (d+1))
      case measure=>omega
      case rel=>exact⟨d+1,by go_num,by omega,rfl,zh (HR.out.trans (chs_none hlt HX0.out (by rw[←HU.out];exact HO.out.symm))),zh (HB.out.trans (hb1.mono HB.out.size))⟩
     | some l =>
      have HLN:=zh (chs_length HO.out.symm)
      go_wp2_with (first
       | (at_lookup;refine kg_look rfl _ _ _ 3 3 rfl (int_key Tryz.underlying3) Tryz.underlying132 b c f (d:Int) (.int .i64 0) (by rfl) (by rfl) HMW.out (zero_int8 _) HID.out _ HFD.out ?_)
       | (go_at_call 63;refine(HIC.out _ HMW.out).mono ?_;rintro e w1 ⟨v1,rfl,hO1,hb1⟩;obtain⟨A1,c1,hv1⟩:=OwnI.form (xs:=l.map (fun x:Nat=>(x:Int))) hO1;rw[List.length_map] at hv1;subst hv1;have HO1:=zh hO1;have HB1:=zh hb1;clear hO1 hb1)
       | (at_builtin;refine app_ints (.tmp 51) (.tmp 52) rfl rfl w1.heap.size wr.heap.size _ _ [(d:Int)] (l.map (fun x:Nat=>(x:Int))) (by rfl) (own_lit8 w1 (d:Int)) (by rfl) (HO1.out.below ((Below.refl _ _).alloc (Nat.le_refl _) _)) (by have:=HLN.out;rw[List.length_map];simp only[List.length_cons,List.length_nil];omega) (by simp) ?_;intro v2 w2 hO2 hg2 hat2))
      go_ret2
      have hrs:res=some (d :: l):=HR.out.trans (chs_some hlt HX0.out (by rw[←HU.out];exact HO.out.symm))
      have hbb:Below w.heap.size w w1:=HB.out.trans (HB1.out.mono HB.out.size)
      have hs1:=hbb.size
      refine⟨v2,by rw[hrs];rfl,?_,?_⟩
      ·rw[hrs]
       exact hO2.base hs1
      ·exact(hbb.alloc hs1 _).grown hg2 (by simp;omega) (fun b h=>by simp[Value.ownBlock] at h;omega)
   ·have HE:=zh (show res=none from HR.out.trans (chs_end (by omega)))
    have HBF:=zh HB.out
    go_wp2_with fail
    go_ret2
    refine⟨_,by rw[HE.out];rfl,?_,HBF.out⟩
    rw[HE.out]
    exact OwnI.nil _ _
theorem srcB_off(r:Re) (v f s:Int) (x:Fd):srcB r v f s false x=isB x.p v f s:=by unfold srcB;simp
theorem srcB_on(r:Re) (v f s:Int) (x:Fd):srcB r v f s true x=(isB x.p v f s&&onB r x.drive):=by unfold srcB;simp
theorem goodTo_find(v f s:Int) (q:Int→Bool):∀(l:List Fd) (acc:List Int),(∀a∈acc,q a=false)→(l.foldl (gStep v f s) acc).find? q=(l.find? fun x=>isB x.p v f s&&q (x.drive:Int)).map fun x=>(x.drive:Int)
 | [],acc,h=>by
  simp only[List.foldl_nil,List.find?_nil,Option.map_none]
  rw[List.find?_eq_none]
  intro a ha
  rw[h a ha];decide
 | x :: l,acc,h=>by
  rw[List.foldl_cons,List.find?_cons]
  by_cases hb:isB x.p v f s=true
  ·by_cases hq:q (x.drive:Int)=true
   ·rw[hb,hq]
    simp only[Bool.and_self,Option.map_some]
    have hne:acc.getLast?≠some (x.drive:Int):=fun e=>by
     have:=h _ (List.mem_of_getLast? e)
     rw[hq] at this;cases this
    rw[gStep_new hb hne]
    have hk:∀(l:List Fd) (acc:List Int) (y:Int),acc.find? q=some y→(l.foldl (gStep v f s) acc).find? q=some y:=by
     intro l
     induction l with
     | nil=>intro acc y h;exact h
     | cons z l ih =>
      intro acc y h
      rw[List.foldl_cons]
      refine ih _ _ ?_
      unfold gStep
      split
      ·rw[List.find?_append,h];rfl
      ·exact h
    refine hk l _ _ ?_
    rw[List.find?_append]
    have hn:acc.find? q=none:=by rw[List.find?_eq_none];intro a ha;rw[h a ha];decide
    rw[hn]
    simp[hq]
   ·have hq':q (x.drive:Int)=false:=by simpa using hq
    rw[hb,hq']
    simp only[Bool.and_false]
    refine goodTo_find v f s q l _ (fun a ha=>?_)
    unfold gStep at ha
    split at ha
    ·rcases List.mem_append.1 ha with h1 | h1
     ·exact h a h1
     ·rw[List.mem_singleton.1 h1];exact hq'
    ·exact h a ha
  ·have hb':isB x.p v f s=false:=by simpa using hb
   rw[hb',gStep_off hb']
   simp only[Bool.false_and]
   exact goodTo_find v f s q l acc h
theorem good_find(r:Re) (v f s:Int) (q:Int→Bool):(goodI r v f s).find? q=((pieces r).find? fun x=>isB x.p v f s&&q (x.drive:Int)).map fun x=>(x.drive:Int):=by
 unfold goodI goodTo
 exact goodTo_find v f s q (pieces r) [] (fun a ha=>by cases ha)
def lostP(F:FltM) (r:Re) (x:Nat×Nat):Bool:=keyP F r (condR true) x
def awayP(F:FltM) (r:Re) (x:Nat×Nat):Bool:=keyP F r (condR false) x
theorem lost_away(F:FltM) (r:Re) (x:Nat×Nat) (h:lostP F r x=true):awayP F r x=false:=by
 unfold lostP keyP condR at h
 unfold awayP keyP condR
 simp only[if_true,Bool.and_eq_true,decide_eq_true_eq] at h
 simp[h.2]
def upF(r:Re) (v s:Int) (set:List Nat) (i:Nat):Bool:=(pieces r).any fun x=>isB x.p v (i:Int) s&&(onB r x.drive||decide (x.drive∈set))
def cntS(r:Re) (v s:Int) (n:Nat) (set:List Nat):Nat:=((List.range n).filter (upF r v s set)).length
def offD(r:Re) (v s:Int) (n:Nat):List Nat:=(List.range r.plat.length).filter fun d=>!onB r d&&(List.range n).any fun i=>(pieces r).any fun x=>isB x.p v (i:Int) s&&decide (x.drive=d)
theorem upF_iff{r:Re} {v s:Int} {set:List Nat} {i:Nat}:upF r v s set i=true↔∃x∈pieces r,isB x.p v (i:Int) s=true∧(onB r x.drive=true∨x.drive∈set):=by
 unfold upF
 rw[List.any_eq_true]
 constructor
 ·rintro ⟨x,hx,h⟩
  rw[Bool.and_eq_true,Bool.or_eq_true,decide_eq_true_eq] at h
  exact⟨x,hx,h⟩
 ·rintro ⟨x,hx,h1,h2⟩
  exact⟨x,hx,by rw[Bool.and_eq_true,Bool.or_eq_true,decide_eq_true_eq];exact⟨h1,h2⟩⟩
theorem upF_mono{r:Re} {v s:Int} {set set':List Nat} {i:Nat} (h:∀d∈set,d∈set') (k:upF r v s set i=true):upF r v s set' i=true:=by
 rw[upF_iff] at k ⊢
 obtain⟨x,hx,h1,h2⟩:=k
 exact⟨x,hx,h1,h2.imp id (h _)⟩
theorem pieces_lt(r:Re):∀x∈pieces r,x.drive<r.plat.length:=fun x hx=>by
 have:=piecesTo_drive r _ x hx;omega
theorem off_mem{r:Re} {v s:Int} {n:Nat} {x:Fd} {i:Nat} (hx:x∈pieces r) (hi:i<n) (hb:isB x.p v (i:Int) s=true) (ho:onB r x.drive=false):x.drive∈offD r v s n:=by
 unfold offD
 rw[List.mem_filter,List.mem_range]
 refine⟨pieces_lt r x hx,?_⟩
 rw[ho,Bool.not_false,Bool.true_and,List.any_eq_true]
 exact⟨i,by simpa using hi,by rw[List.any_eq_true];exact⟨x,hx,by rw[hb];simp⟩⟩
theorem two_of{p:Nat→Bool} {n i j:Nat} (hi:i<n) (hj:j<n) (hij:i≠j) (h1:p i=true) (h2:p j=true):2≤((List.range n).filter p).length:=by
 have hn:((List.range n).filter p).Nodup:=List.Nodup.sublist List.filter_sublist List.nodup_range
 have m1:i∈(List.range n).filter p:=List.mem_filter.2 ⟨by simpa using hi,h1⟩
 have m2:j∈(List.range n).filter p:=List.mem_filter.2 ⟨by simpa using hj,h2⟩
 match hl:(List.range n).filter p with
 | []=>rw[hl] at m1;cases m1
 | [a] =>
  rw[hl] at m1 m2
  exact absurd ((List.mem_singleton.1 m1).trans (List.mem_singleton.1 m2).symm) hij
 | a :: b :: l=>simp
theorem one_of{p:Nat→Bool} {n i:Nat} (hi:i<n) (h1:p i=true):1≤((List.range n).filter p).length :=
 List.length_pos_of_mem (List.mem_filter.2 ⟨by simpa using hi,h1⟩)
theorem have_two{p:Nat→Bool} {n:Nat} (h:2≤((List.range n).filter p).length):∃i j,i<n∧j<n∧i≠j∧p i=true∧p j=true:=by
 have hn:((List.range n).filter p).Nodup:=List.Nodup.sublist List.filter_sublist List.nodup_range
 match hl:(List.range n).filter p with
 | []=>rw[hl] at h;simp at h
 | [a]=>rw[hl] at h;simp at h
 | a :: b :: l =>
  have ma:a∈(List.range n).filter p:=by rw[hl];simp
  have mb:b∈(List.range n).filter p:=by rw[hl];simp
  rw[hl,List.nodup_cons] at hn
  obtain⟨a1,a2⟩:=List.mem_filter.1 ma
  obtain⟨b1,b2⟩:=List.mem_filter.1 mb
  exact⟨a,b,by simpa using a1,by simpa using b1,fun e=>hn.1 (by simp[e]),a2,b2⟩
theorem have_one{p:Nat→Bool} {n:Nat} (h:1≤((List.range n).filter p).length):∃i,i<n∧p i=true:=by
 obtain⟨a,ha⟩:=List.exists_mem_of_length_pos (l:=(List.range n).filter p) h
 obtain⟨h1,h2⟩:=List.mem_filter.1 ha
 exact⟨a,by simpa using h1,h2⟩
def anyF(r:Re) (v s:Int) (i:Nat):Bool:=(pieces r).any fun x=>isB x.p v (i:Int) s
theorem anyF_iff{r:Re} {v s:Int} {i:Nat}:anyF r v s i=true↔∃x∈pieces r,isB x.p v (i:Int) s=true:=by
 unfold anyF
 rw[List.any_eq_true]
theorem helps{r:Re} {v s:Int} {n i:Nat} (hi:i<n) (ha:anyF r v s i=true) (hu:upF r v s [] i=false):∃d∈offD r v s n,∀set:List Nat,d∈set→upF r v s set i=true:=by
 obtain⟨x,hx,hb⟩:=anyF_iff.1 ha
 have ho:onB r x.drive=false:=by
  cases h:onB r x.drive with
  | false=>rfl
  | true =>
   have h2:upF r v s [] i=true:=upF_iff.2 ⟨x,hx,hb,Or.inl h⟩
   rw[hu] at h2;cases h2
 exact⟨x.drive,off_mem hx hi hb ho,fun set hs=>upF_iff.2 ⟨x,hx,hb,Or.inr hs⟩⟩
theorem resc_ex{r:Re} {v s:Int} {n K:Nat} (hK:K=1∨K=2) (hl:K≤((List.range n).filter (anyF r v s)).length) (hu:cntS r v s n []<K) :
  (∃d∈offD r v s n,K≤cntS r v s n [d])∨(K=2∧∃a∈offD r v s n,∃b∈offD r v s n,a<b∧2≤cntS r v s n [a,b]):=by
 rcases hK with rfl | rfl
 ·obtain⟨i,hi,ha⟩:=have_one hl
  have hn:upF r v s [] i=false:=by
   cases h:upF r v s [] i with
   | false=>rfl
   | true=>have:=one_of hi h;unfold cntS at hu;omega
  obtain⟨d,hd,hh⟩:=helps hi ha hn
  exact .inl ⟨d,hd,one_of hi (hh [d] (by simp))⟩
 ·obtain⟨i,j,hi,hj,hij,ha,hb⟩:=have_two hl
  by_cases hui:upF r v s [] i=true
  ·have huj:upF r v s [] j=false:=by
    cases h:upF r v s [] j with
    | false=>rfl
    | true=>have:=two_of hi hj hij hui h;unfold cntS at hu;omega
   obtain⟨d,hd,hh⟩:=helps hj hb huj
   exact .inl ⟨d,hd,two_of hi hj hij (upF_mono (fun x hx=>by cases hx) hui) (hh [d] (by simp))⟩
  ·have hui':upF r v s [] i=false:=by simpa using hui
   obtain⟨d,hd,hh⟩:=helps hi ha hui'
   by_cases huj:upF r v s [] j=true
   ·exact .inl ⟨d,hd,two_of hi hj hij (hh [d] (by simp)) (upF_mono (fun x hx=>by cases hx) huj)⟩
   ·obtain⟨e,he,hk⟩:=helps hj hb (by simpa using huj)
    rcases Nat.lt_trichotomy d e with h | h | h
    ·exact .inr ⟨rfl,d,hd,e,he,h,two_of hi hj hij (hh _ (by simp)) (hk _ (by simp))⟩
    ·subst h
     exact .inl ⟨d,hd,two_of hi hj hij (hh [d] (by simp)) (hk [d] (by simp))⟩
    ·exact .inr ⟨rfl,e,he,d,hd,h,two_of hi hj hij (hh _ (by simp)) (hk _ (by simp))⟩
theorem src_up(r:Re) (v f s:Int):0≤srcI r (pieces r) v f s true↔∃x∈pieces r,isB x.p v f s=true∧onB r x.drive=true:=by
 rw[srcI_has,List.any_eq_true]
 constructor
 ·rintro ⟨x,hx,h⟩
  rw[srcB_on,Bool.and_eq_true] at h
  exact⟨x,hx,h⟩
 ·rintro ⟨x,hx,h⟩
  exact⟨x,hx,by rw[srcB_on,Bool.and_eq_true];exact h⟩
theorem int_count(r:Re) (v s:Int) (on:Bool) (n:Nat) (hn:n≤8):((intI r v s on).filter (fun x=>decide (x<(n:Int)))).length=((List.range n).filter (fun i:Nat=>decide (0≤srcI r (pieces r) v (i:Int) s on))).length:=by
 have h:∀m,((intTo r (pieces r) v s on m).filter (fun x=>decide (x<(n:Int)))).length=((List.range (min m n)).filter (fun i:Nat=>decide (0≤srcI r (pieces r) v (i:Int) s on))).length:=by
  intro m
  induction m with
  | zero=>simp[intTo]
  | succ m ih =>
   rw[intTo_succ,List.filter_append,List.length_append,ih]
   by_cases hm:m<n
   ·rw[show min (m+1) n=m+1 by omega,show min m n=m by omega,List.range_succ,List.filter_append,List.length_append]
    congr 1
    by_cases hs:0≤srcI r (pieces r) v (m:Int) s on
    ·simp[hs,hm]
    ·simp[hs]
   ·rw[show min (m+1) n=n by omega,show min m n=n by omega]
    by_cases hs:0≤srcI r (pieces r) v (m:Int) s on
    ·simp[hs,hm]
    ·simp[hs]
 unfold intI
 rw[h 8,show min 8 n=n by omega]
theorem cnt_up(r:Re) (v s:Nat) (n:Nat) (hn:n≤8):cntI r v s true (n:Int)=(cntS r (v:Int) (s:Int) n []:Int):=by
 unfold cntI cntS
 rw[int_count _ _ _ _ n hn]
 congr 2
 apply List.filter_congr
 intro i hi
 rw[Bool.eq_iff_iff,decide_eq_true_eq,src_up,upF_iff]
 simp
theorem cnt_all(r:Re) (v s:Nat) (n:Nat) (hn:n≤8):cntI r v s false (n:Int)=(((List.range n).filter (anyF r (v:Int) (s:Int))).length:Int):=by
 unfold cntI
 rw[int_count _ _ _ _ n hn]
 congr 2
 apply List.filter_congr
 intro i hi
 rw[Bool.eq_iff_iff,decide_eq_true_eq,srcI_has,List.any_eq_true,anyF_iff]
 constructor
 ·rintro ⟨x,hx,h⟩;rw[srcB_off] at h;exact⟨x,hx,h⟩
 ·rintro ⟨x,hx,h⟩;exact⟨x,hx,by rw[srcB_off];exact h⟩
def HvOk(r:Re) (v s:Int) (n:Nat) (hv:Nat→Nat):Prop:=∀d i,(hv d).testBit i=(decide (i<n)&&!onB r d&&(pieces r).any fun x=>isB x.p v (i:Int) s&&decide (x.drive=d))
def BaseOk(r:Re) (v s:Int) (n base:Nat):Prop:=∀i,base.testBit i=(decide (i<n)&&upF r v s [] i)
theorem hv_ne{r:Re} {v s:Int} {n:Nat} {hv:Nat→Nat} (h:HvOk r v s n hv) (d:Nat):hv d≠0↔(!onB r d&&(List.range n).any fun i=>(pieces r).any fun x=>isB x.p v (i:Int) s&&decide (x.drive=d))=true:=by
 rw[Bool.and_eq_true,List.any_eq_true]
 constructor
 ·intro h0
  obtain⟨i,hi⟩:=Nat.exists_testBit_of_ne_zero h0
  rw[h d i,Bool.and_eq_true,Bool.and_eq_true,decide_eq_true_eq] at hi
  exact⟨hi.1.2,i,by simpa using hi.1.1,hi.2⟩
 ·rintro ⟨h1,i,hi,h2⟩ h0
  have:=h d i
  rw[h0,Nat.zero_testBit,h1,h2,decide_eq_true (by simpa using hi)] at this
  cases this
theorem off_hv{r:Re} {v s:Int} {n:Nat} {hv:Nat→Nat} (h:HvOk r v s n hv):(List.range' 0 (r.plat.length - 0)).filter (fun d=>decide (hv d≠0))=offD r v s n:=by
 unfold offD
 rw[Nat.sub_zero,←List.range_eq_range']
 apply List.filter_congr
 intro d _
 rw[Bool.eq_iff_iff,decide_eq_true_eq]
 exact hv_ne h d
theorem popc_cnt{r:Re} {v s:Int} {n:Nat} {t:Nat} {set:List Nat} (hn:n≤8) (h:∀i,t.testBit i=(decide (i<n)&&upF r v s set i)):popc t=cntS r v s n set:=by
 unfold popc cntS
 have e:∀m,((List.range m).filter fun i=>t.testBit i).length=((List.range (min m n)).filter (upF r v s set)).length:=by
  intro m
  induction m with
  | zero=>simp
  | succ m ih =>
   rw[List.range_succ,List.filter_append,List.length_append,ih]
   by_cases hm:m<n
   ·rw[show min (m+1) n=m+1 by omega,show min m n=m by omega,List.range_succ,List.filter_append,List.length_append]
    congr 1
    rw[List.filter_cons,List.filter_cons,h m,decide_eq_true hm,Bool.true_and]
    rfl
   ·rw[show min (m+1) n=n by omega,show min m n=n by omega]
    simp[h m,hm]
 rw[e 8,show min 8 n=n by omega]
theorem upF_or{r:Re} {v s:Int} {set:List Nat} {i d:Nat} (ho:onB r d=false):upF r v s (set++[d]) i=(upF r v s set i||(pieces r).any fun x=>isB x.p v (i:Int) s&&decide (x.drive=d)):=by
 rw[Bool.eq_iff_iff,Bool.or_eq_true,upF_iff,upF_iff,List.any_eq_true]
 constructor
 ·rintro ⟨x,hx,h1,h2⟩
  rcases h2 with h2 | h2
  ·exact .inl ⟨x,hx,h1,.inl h2⟩
  ·rcases List.mem_append.1 h2 with h2 | h2
   ·exact .inl ⟨x,hx,h1,.inr h2⟩
   ·exact .inr ⟨x,hx,by rw[Bool.and_eq_true,decide_eq_true_eq];exact⟨h1,by simpa using h2⟩⟩
 ·rintro (⟨x,hx,h1,h2⟩ | ⟨x,hx,h1⟩)
  ·exact⟨x,hx,h1,h2.imp id (fun h=>by simp[h])⟩
  ·rw[Bool.and_eq_true,decide_eq_true_eq] at h1
   exact⟨x,hx,h1.1,.inr (by simp[h1.2])⟩
theorem bits_or{r:Re} {v s:Int} {n:Nat} {hv:Nat→Nat} {t:Nat} {set:List Nat} {d:Nat} (hh:HvOk r v s n hv) (h:∀i,t.testBit i=(decide (i<n)&&upF r v s set i)) (hd:d∈offD r v s n) :
  ∀i,(t ||| hv d).testBit i=(decide (i<n)&&upF r v s (set++[d]) i):=by
 intro i
 have ho:onB r d=false:=by
  unfold offD at hd
  rw[List.mem_filter,Bool.and_eq_true] at hd
  simpa using hd.2.1
 rw[Nat.testBit_or,h i,hh d i,upF_or ho,ho]
 cases decide (i<n) <;> simp
def rescL(r:Re) (v s:Int) (n K:Nat):List Nat :=
 ((offD r v s n).findSome? (fun d=>if K≤cntS r v s n [d] then some [d] else none)).getD
  ((pick2 (fun a b=>if K≤cntS r v s n [a,b] then some [a,b] else none) (offD r v s n)).getD [])
theorem find_congr{α β:Type} {f g:α→Option β}:∀{l:List α},(∀x∈l,f x=g x)→l.findSome? f=l.findSome? g
 | [],_=>rfl
 | a :: l,h=>by
  rw[List.findSome?_cons,List.findSome?_cons,h a (by simp),find_congr (l:=l) (fun x hx=>h x (by simp[hx]))]
theorem pick2_congr{β:Type} {f g:Nat→Nat→Option β}:∀{l:List Nat},(∀x∈l,∀y∈l,f x y=g x y)→pick2 f l=pick2 g l
 | [],_=>rfl
 | a :: l,h=>by
  show Option.or _ _=Option.or _ _
  rw[pick2_congr (l:=l) (fun x hx y hy=>h x (by simp[hx]) y (by simp[hy])),find_congr (l:=l) (fun y hy=>h a (by simp) y (by simp[hy]))]
theorem chs_one_eq{r:Re} {v s:Int} {n K base:Nat} {hv:Nat→Nat} (hn:n≤8) (hh:HvOk r v s n hv) (hb:BaseOk r v s n base) :
  chs hv r.plat.length K 1 0 base=(offD r v s n).findSome? (fun d=>if K≤cntS r v s n [d] then some [d] else none):=by
 rw[chs_one hv _ K base _ 0 rfl,off_hv hh]
 apply find_congr
 intro d hd
 rw[popc_cnt hn (bits_or hh hb hd)]
 rfl
theorem chs_two_eq{r:Re} {v s:Int} {n K base:Nat} {hv:Nat→Nat} (hn:n≤8) (hh:HvOk r v s n hv) (hb:BaseOk r v s n base) :
  chs hv r.plat.length K 2 0 base=pick2 (fun a b=>if K≤cntS r v s n [a,b] then some [a,b] else none) (offD r v s n):=by
 rw[chs_two hv _ K base _ 0 rfl,off_hv hh]
 apply pick2_congr
 intro a ha c hc
 rw[popc_cnt hn (bits_or hh (bits_or hh hb ha) hc)]
 rfl
theorem find_some_of{α β:Type} {f:α→Option β} {l:List α} {x:α} (hx:x∈l) (h:(f x).isSome=true):(l.findSome? f).isSome=true:=by
 rw[List.findSome?_isSome_iff]
 exact⟨x,hx,h⟩
theorem pick2_some_of{β:Type} {f:Nat→Nat→Option β}:∀{l:List Nat},l.Pairwise (·<·)→∀{a c:Nat},a∈l→c∈l→a<c→(f a c).isSome=true→(pick2 f l).isSome=true
 | [],_,a,c,ha,_,_,_=>by cases ha
 | b :: l,hp,a,c,ha,hc,hac,h=>by
  show(Option.or _ _).isSome=true
  rw[Option.isSome_or,Bool.or_eq_true]
  rw[List.pairwise_cons] at hp
  rcases List.mem_cons.1 ha with rfl | ha'
  ·rcases List.mem_cons.1 hc with rfl | hc'
   ·omega
   ·exact .inl (find_some_of hc' h)
  ·rcases List.mem_cons.1 hc with rfl | hc'
   ·have:=hp.1 a ha'
    omega
   ·exact .inr (pick2_some_of hp.2 ha' hc' hac h)
theorem off_sorted(r:Re) (v s:Int) (n:Nat):(offD r v s n).Pairwise (·<·):=List.Pairwise.sublist List.filter_sublist List.pairwise_lt_range
theorem resc_found{r:Re} {v s:Int} {n K:Nat} (hK:K=1∨K=2) (hl:K≤((List.range n).filter (anyF r v s)).length) (hu:cntS r v s n []<K) :
  ((offD r v s n).findSome? (fun d=>if K≤cntS r v s n [d] then some [d] else none)).isSome=true ∨
  (K=2∧(pick2 (fun a b=>if K≤cntS r v s n [a,b] then some [a,b] else none) (offD r v s n)).isSome=true):=by
 rcases resc_ex hK hl hu with ⟨d,hd,h⟩ | ⟨h2,a,ha,b,hb,hab,h⟩
 ·exact .inl (find_some_of hd (by rw[if_pos h];rfl))
 ·exact .inr ⟨h2,pick2_some_of (off_sorted r v s n) ha hb hab (by rw[if_pos (by omega)];rfl)⟩
def anyD(r:Re) (v s:Int) (b d:Nat):Bool:=(pieces r).any fun x=>isB x.p v (b:Int) s&&decide (x.drive=d)
theorem good_mem(r:Re) (v f s:Int) (d:Nat):(d:Int)∈goodI r v f s↔((pieces r).any fun x=>isB x.p v f s&&decide (x.drive=d))=true:=by
 have h:=good_find r v f s (fun y=>y==(d:Int))
 have e1:(d:Int)∈goodI r v f s↔((goodI r v f s).find? (fun y=>y==(d:Int))).isSome=true:=by
  rw[List.find?_isSome]
  constructor
  ·intro hm;exact⟨_,hm,by simp⟩
  ·rintro ⟨y,hm,hy⟩
   rw[beq_iff_eq] at hy
   exact hy▸hm
 rw[e1,h,Option.isSome_map,List.find?_isSome,List.any_eq_true]
 constructor
 ·rintro ⟨x,hx,h1⟩
  rw[Bool.and_eq_true,beq_iff_eq] at h1
  exact⟨x,hx,by rw[Bool.and_eq_true,decide_eq_true_eq];exact⟨h1.1,by omega⟩⟩
 ·rintro ⟨x,hx,h1⟩
  rw[Bool.and_eq_true,decide_eq_true_eq] at h1
  exact⟨x,hx,by rw[Bool.and_eq_true,beq_iff_eq];exact⟨h1.1,by omega⟩⟩
theorem good_nat(r:Re) (v f s:Int):∀y∈goodI r v f s,∃d:Nat,y=(d:Int)∧d<r.plat.length:=fun y hy=>by
 obtain⟨x,hx,e⟩:=goodTo_mem v f s _ y hy
 exact⟨x.drive,e,pieces_lt r x hx⟩
structure GotP (r:Re) (v s:Int) (i j:Nat) (hv:Nat→Nat) (base:Nat):Prop where
 have_:∀d b,(hv d).testBit b=(!onB r d&&((decide (b<i)&&anyD r v s b d)||(decide (b=i)&&decide ((d:Int)∈(goodI r v (i:Int) s).take j))))
 base_:∀b,base.testBit b=((decide (b<i)&&upF r v s [] b)||(decide (b=i)&&((goodI r v (i:Int) s).take j).any (fun y=>onB r y.toNat)))
theorem GotP.start(r:Re) (v s:Int):GotP r v s 0 0 (fun _=>0) 0 where
 have_ d b:=by simp
 base_ b:=by simp
theorem take_get{α:Type} {l:List α} {j:Nat} (h:j<l.length):l.take (j+1)=l.take j++[l[j]]:=List.take_succ_eq_append_getElem h
theorem GotP.on{r:Re} {v s:Int} {i j:Nat} {hv:Nat→Nat} {base d:Nat} (h:GotP r v s i j hv base) (hj:j<(goodI r v (i:Int) s).length) (hd:(goodI r v (i:Int) s)[j]=(d:Int)) (ho:onB r d=true):GotP r v s i (j+1) hv (base ||| 2 ^ i) where
 have_ c b:=by
  rw[h.have_ c b,take_get hj,hd]
  by_cases hc:c=d
  ·subst hc;rw[ho];simp
  ·have e:decide ((c:Int)∈(goodI r v (i:Int) s).take j++[(d:Int)])=decide ((c:Int)∈(goodI r v (i:Int) s).take j):=by
    rw[decide_eq_decide,List.mem_append,List.mem_singleton]
    constructor
    ·rintro (h | h)
     ·exact h
     ·omega
    ·exact .inl
   rw[e]
 base_ b:=by
  rw[Nat.testBit_or,h.base_ b,take_get hj,hd,List.any_append,Nat.testBit_two_pow]
  have e:[(d:Int)].any (fun y=>onB r y.toNat)=true:=by simp[ho]
  rw[e]
  by_cases hb:i=b
  ·subst hb;simp
  ·have hb':¬b=i:=fun e=>hb e.symm
   simp[hb,hb']
def updN(hv:Nat→Nat) (d x:Nat):Nat→Nat:=fun c=>if c=d then x else hv c
theorem GotP.off{r:Re} {v s:Int} {i j:Nat} {hv:Nat→Nat} {base d:Nat} (h:GotP r v s i j hv base) (hj:j<(goodI r v (i:Int) s).length) (hd:(goodI r v (i:Int) s)[j]=(d:Int)) (ho:onB r d=false):GotP r v s i (j+1) (updN hv d (hv d ||| 2 ^ i)) base where
 have_ c b:=by
  unfold updN
  rw[take_get hj,hd]
  by_cases hc:c=d
  ·subst hc
   rw[if_pos rfl,Nat.testBit_or,h.have_ c b,ho,Nat.testBit_two_pow]
   have e:decide ((c:Int)∈(goodI r v (i:Int) s).take j++[(c:Int)])=true:=by simp
   rw[e]
   by_cases hb:i=b
   ·subst hb;simp
   ·have hb':¬b=i:=fun e=>hb e.symm
    simp[hb,hb']
  ·rw[if_neg hc,h.have_ c b]
   have e:decide ((c:Int)∈(goodI r v (i:Int) s).take j++[(d:Int)])=decide ((c:Int)∈(goodI r v (i:Int) s).take j):=by
    rw[decide_eq_decide,List.mem_append,List.mem_singleton]
    constructor
    ·rintro (h | h)
     ·exact h
     ·omega
    ·exact .inl
   rw[e]
 base_ b:=by
  rw[h.base_ b,take_get hj,hd,List.any_append]
  have e:[(d:Int)].any (fun y=>onB r y.toNat)=false:=by simp[ho]
  rw[e,Bool.or_false]
theorem GotP.next{r:Re} {v s:Int} {i j:Nat} {hv:Nat→Nat} {base:Nat} (h:GotP r v s i j hv base) (hj:(goodI r v (i:Int) s).length≤j):GotP r v s (i+1) 0 hv base where
 have_ d b:=by
  rw[h.have_ d b,List.take_of_length_le hj,List.take_zero]
  have e:decide ((d:Int)∈goodI r v (i:Int) s)=anyD r v s i d:=by
   rw[Bool.eq_iff_iff,decide_eq_true_eq];exact good_mem r v (i:Int) s d
  rw[e]
  by_cases hb:b=i
  ·subst hb;simp
  ·by_cases hl:b<i
   ·have:b<i+1:=by omega
    simp[hb,hl,this]
   ·have:¬b<i+1:=by omega
    simp[hb,hl,this]
 base_ b:=by
  rw[h.base_ b,List.take_of_length_le hj,List.take_zero]
  have e:(goodI r v (i:Int) s).any (fun y=>onB r y.toNat)=upF r v s [] i:=by
   rw[Bool.eq_iff_iff,List.any_eq_true,upF_iff]
   constructor
   ·rintro ⟨y,hy,ho⟩
    obtain⟨d,rfl,-⟩:=good_nat r v (i:Int) s y hy
    have hm:=(good_mem r v (i:Int) s d).1 hy
    rw[List.any_eq_true] at hm
    obtain⟨x,hx,h1⟩:=hm
    rw[Bool.and_eq_true,decide_eq_true_eq] at h1
    rw[Int.toNat_natCast] at ho
    exact⟨x,hx,h1.1,.inl (h1.2▸ho)⟩
   ·rintro ⟨x,hx,h1,h2⟩
    have ho:onB r x.drive=true:=h2.resolve_right (fun h=>by cases h)
    refine⟨(x.drive:Int),(good_mem r v (i:Int) s x.drive).2 ?_,by rw[Int.toNat_natCast];exact ho⟩
    rw[List.any_eq_true]
    exact⟨x,hx,by rw[h1];simp⟩
  rw[e]
  by_cases hb:b=i
  ·subst hb;simp
  ·by_cases hl:b<i
   ·have:b<i+1:=by omega
    simp[hb,hl,this]
   ·have:¬b<i+1:=by omega
    simp[hb,hl,this]
theorem GotP.end_{r:Re} {v s:Int} {n:Nat} {hv:Nat→Nat} {base:Nat} (h:GotP r v s n 0 hv base):HvOk r v s n hv∧BaseOk r v s n base:=by
 constructor
 ·intro d b
  rw[h.have_ d b,List.take_zero]
  unfold anyD
  cases onB r d <;> cases decide (b<n) <;> simp
 ·intro b
  rw[h.base_ b,List.take_zero]
  simp
theorem GotP.small{r:Re} {v s:Int} {i j:Nat} {hv:Nat→Nat} {base:Nat} (h:GotP r v s i j hv base) (hi:i≤7):base<256∧∀d,hv d<256:=by
 constructor
 ·refine Nat.lt_pow_two_of_testBit (n:=8) _ (fun b hb=>?_)
  rw[h.base_ b,decide_eq_false (show ¬b<i by omega),decide_eq_false (show ¬b=i by omega)]
  rfl
 ·intro d
  refine Nat.lt_pow_two_of_testBit (n:=8) _ (fun b hb=>?_)
  rw[h.have_ d b,decide_eq_false (show ¬b<i by omega),decide_eq_false (show ¬b=i by omega)]
  simp
def from1{β:Type} (p:Nat→Option β) (off:List Nat) (i:Nat):Option β:=(off.drop i).findSome? p
def from2{β:Type} (p:Nat→Nat→Option β) (off:List Nat) (i j:Nat):Option β:=((off.drop j).findSome? (p (off.getD i 0))).or (pick2 p (off.drop (i+1)))
theorem drop_getD{off:List Nat} {i:Nat} (h:i<off.length):off.drop i=off.getD i 0 :: off.drop (i+1):=by
 rw[List.drop_eq_getElem_cons h]
 simp[List.getD_eq_getElem?_getD,h]
theorem pick2_from{β:Type} {p:Nat→Nat→Option β} {off:List Nat} {i:Nat} (h:i<off.length):pick2 p (off.drop i)=from2 p off i (i+1):=by
 rw[drop_getD h]
 rfl
theorem pick2_short{β:Type} {p:Nat→Nat→Option β} {off:List Nat} {i:Nat} (h:off.length≤i+1):pick2 p (off.drop i)=none:=by
 by_cases hi:i<off.length
 ·rw[drop_getD hi,List.drop_eq_nil_of_le h];rfl
 ·rw[List.drop_eq_nil_of_le (by omega)];rfl
theorem ionline_any(vp vo va:Value) (r:Re) (d:Nat) (w:World) (h:ReS w (Bl w.heap.size) vp vo va r) (hd:d≤1048576) :
  Calls Tryz.prog 62 #[.agg #[vp,vo,va],.int .i64 (d:Int)] w fun e w'=>e=.returned (.bool (onB r d))∧Below w.heap.size w w':=by
 obtain⟨A,c,rfl,-,hm⟩:=h.2.1.form
 unfold maxLen at hm
 by_cases hlt:d<r.on.length
 ·obtain⟨b,off,cs,rfl,hR,-,hc,hk⟩:=h.2.1.at_ hlt
  have hk':cs=[.bool r.on[d]]:=hk
  have hcell:=hc 0 (.bool r.on[d]) (by rw[hk'];rfl)
  simp only[Nat.mul_one,Nat.add_zero] at hcell
  have hcell2:(w.alloc (.cells #[vp,.slice (some ⟨b,off,none⟩) r.on.length c,va] 40)).cell? ⟨b,off+d,none⟩=some (.bool r.on[d]) :=
   (((Below.refl w.heap.size w).alloc (Nat.le_refl _) _).cell (p:=⟨b,off+d,none⟩) hR).trans hcell
  have hE:onB r d=r.on[d]:=getD_lt _ _ hlt
  rw[hE]
  generalize r.on[d]=x at *
  clear hc hk hk' hcell h hE
  go_enter Tryz.func62,Tryz.ntmps62
  go_wp2
  go_ret
  exact⟨rfl,(Below.refl _ _).alloc (Nat.le_refl _) _⟩
 ·have hE:onB r d=false:=by unfold onB;rw[List.getD,List.getElem?_eq_none (by omega)];rfl
  rw[hE]
  clear h hE
  go_enter Tryz.func62,Tryz.ntmps62
  go_wp2
  go_ret
  exact⟨rfl,(Below.refl _ _).alloc (Nat.le_refl _) _⟩
def isStr(n:Nat) (ext v s:Int):Bool:=decide (0≤v∧v<(n:Int)∧0≤s∧s<ext)
theorem iisStripe_any(x1 x2 x3 x4 x5:Value) (A:Option Addr) (n c:Nat) (ext v s:Int) (w:World) (hn:n≤16777216) :
  Calls Tryz.prog 49 #[.agg #[.int .i64 ext,x1,x2,x3,x4,x5,.slice A n c],.int .i64 v,.int .i64 s] w fun e w'=>e=.returned (.bool (isStr n ext v s))∧Below w.heap.size w w':=by
 by_cases h1:0≤v
 ·by_cases h2:v<(n:Int)
  ·by_cases h3:0≤s
   ·by_cases h4:s<ext
    ·rw[show isStr n ext v s=true from decide_eq_true ⟨h1,h2,h3,h4⟩]
     go_enter Tryz.func49,Tryz.ntmps49
     go_wp2
     go_ret
     exact⟨rfl,(Below.refl _ _).alloc (Nat.le_refl _) _⟩
    ·rw[show isStr n ext v s=false from decide_eq_false (fun h=>h4 h.2.2.2)]
     go_enter Tryz.func49,Tryz.ntmps49
     go_wp2
     go_ret
     exact⟨rfl,(Below.refl _ _).alloc (Nat.le_refl _) _⟩
   ·rw[show isStr n ext v s=false from decide_eq_false (fun h=>h3 h.2.2.1)]
    go_enter Tryz.func49,Tryz.ntmps49
    go_wp2
    go_ret
    exact⟨rfl,(Below.refl _ _).alloc (Nat.le_refl _) _⟩
  ·rw[show isStr n ext v s=false from decide_eq_false (fun h=>h2 h.2.1)]
   go_enter Tryz.func49,Tryz.ntmps49
   go_wp2
   go_ret
   exact⟨rfl,(Below.refl _ _).alloc (Nat.le_refl _) _⟩
 ·rw[show isStr n ext v s=false from decide_eq_false (fun h=>h1 h.1)]
  go_enter Tryz.func49,Tryz.ntmps49
  go_wp2
  go_ret
  exact⟨rfl,(Below.refl _ _).alloc (Nat.le_refl _) _⟩
theorem keyL_in(F:FltM) (r:Re) (cond:Int→Int→Int→Bool) (ext NO v s:Nat) (hv:v<NO) (hs:s<ext):(v,s)∈keyL F r cond ext NO 0↔keyP F r cond (v,s)=true:=by
 unfold keyL
 rw[List.mem_filter]
 have hm:(v,s)∈keysTo ext NO 0:=by
  unfold keysTo
  exact List.mem_append_left _ (List.mem_flatMap.2 ⟨v,List.mem_range.2 hv,List.mem_map.2 ⟨s,List.mem_range.2 hs,rfl⟩⟩)
 exact⟨fun h=>h.2,fun h=>⟨hm,h⟩⟩
theorem keyL_dec(F:FltM) (r:Re) (cond:Int→Int→Int→Bool) (ext NO v s:Nat) (hv:v<NO) (hs:s<ext):decide ((v,s)∈keyL F r cond ext NO 0)=keyP F r cond (v,s):=by
 rw[Bool.eq_iff_iff,decide_eq_true_eq];exact keyL_in F r cond ext NO v s hv hs
theorem key_away{F:FltM} {r:Re} {v s n K:Nat} (hn:kOf F v+mOf F v=(n:Int)) (hK:kOf F v=(K:Int)) (h8:n≤8) (h:keyP F r (condR false) (v,s)=true) :
  K≤((List.range n).filter (anyF r (v:Int) (s:Int))).length∧cntS r (v:Int) (s:Int) n []<K∧(verOf r.acks (v:Int) (s:Int)).isSome=true:=by
 unfold keyP condR at h
 simp only at h
 rw[hn,hK,cnt_all r v s n h8,cnt_up r v s n h8] at h
 simp only[Bool.false_eq_true,if_false,Bool.and_eq_true,Bool.not_eq_true',decide_eq_true_eq,decide_eq_false_iff_not] at h
 exact⟨by omega,by omega,h.1⟩
def resS(F:FltM) (r:Re) (v s:Int):List Nat×Int :=
 if isStr F.vols.length F.ext v s=true then
  if keyP F r (condR true) (v.toNat,s.toNat)=true then([],121)
  else if keyP F r (condR false) (v.toNat,s.toNat)=true then(rescL r v s (kOf F v.toNat+mOf F v.toNat).toNat (kOf F v.toNat).toNat,0)
  else([],110)
 else([],1)
theorem resS_arg{F:FltM} {r:Re} {v s:Int} (h:isStr F.vols.length F.ext v s=false):resS F r v s=([],1):=by
 unfold resS;rw[h];rfl
theorem resS_lost{F:FltM} {r:Re} {v s:Nat} (h:isStr F.vols.length F.ext (v:Int) (s:Int)=true) (h1:keyP F r (condR true) (v,s)=true):resS F r (v:Int) (s:Int)=([],121):=by
 unfold resS;rw[h,if_pos rfl]
 simp only[Int.toNat_natCast]
 rw[h1,if_pos rfl]
theorem resS_state{F:FltM} {r:Re} {v s:Nat} (h:isStr F.vols.length F.ext (v:Int) (s:Int)=true) (h1:keyP F r (condR true) (v,s)=false) (h2:keyP F r (condR false) (v,s)=false):resS F r (v:Int) (s:Int)=([],110):=by
 unfold resS;rw[h,if_pos rfl]
 simp only[Int.toNat_natCast]
 rw[h1,h2];rfl
theorem resS_ok{F:FltM} {r:Re} {v s n K:Nat} (hn:kOf F v+mOf F v=(n:Int)) (hK:kOf F v=(K:Int)) (h:isStr F.vols.length F.ext (v:Int) (s:Int)=true) (h1:keyP F r (condR true) (v,s)=false) (h2:keyP F r (condR false) (v,s)=true):resS F r (v:Int) (s:Int)=(rescL r (v:Int) (s:Int) n K,0):=by
 unfold resS;rw[h,if_pos rfl]
 simp only[Int.toNat_natCast]
 rw[h1,h2,hn,hK];simp
def oneP(r:Re) (v s:Int) (n K:Nat) (d:Nat):Option (List Nat):=if K≤cntS r v s n [d] then some [d] else none
def twoP(r:Re) (v s:Int) (n K:Nat) (a b:Nat):Option (List Nat):=if K≤cntS r v s n [a,b] then some [a,b] else none
theorem resc_one{r:Re} {v s:Int} {n K:Nat} {l:List Nat} (h:(offD r v s n).findSome? (oneP r v s n K)=some l):rescL r v s n K=l:=by
 unfold rescL
 rw[show(offD r v s n).findSome? (fun d=>if K≤cntS r v s n [d] then some [d] else none)=some l from h]
 rfl
theorem resc_two{r:Re} {v s:Int} {n K:Nat} {l:List Nat} (h:(offD r v s n).findSome? (oneP r v s n K)=none) (h2:pick2 (twoP r v s n K) (offD r v s n)=some l):rescL r v s n K=l:=by
 unfold rescL
 rw[show(offD r v s n).findSome? (fun d=>if K≤cntS r v s n [d] then some [d] else none)=none from h,show pick2 (fun a b=>if K≤cntS r v s n [a,b] then some [a,b] else none) (offD r v s n)=some l from h2]
 rfl
theorem resc_left{r:Re} {v s:Int} {n K:Nat} (hK:K=1∨K=2) (hl:K≤((List.range n).filter (anyF r v s)).length) (hu:cntS r v s n []<K) (h:(offD r v s n).findSome? (oneP r v s n K)=none):K=2∧∃l,pick2 (twoP r v s n K) (offD r v s n)=some l:=by
 rcases resc_found hK hl hu with h1 | ⟨h1,h2⟩
 ·rw[show(offD r v s n).findSome? (fun d=>if K≤cntS r v s n [d] then some [d] else none)=none from h] at h1
  cases h1
 ·exact⟨h1,Option.isSome_iff_exists.1 h2⟩
theorem kindex_any(va:Value) (ks:List (Nat×Nat)) (x y:Nat) (R:Nat→Prop) (w:World) (ha:SlS 2 KyK w R va ks) (hR:∀b,R b→b<w.heap.size) :
  Calls Tryz.prog 108 #[va,.agg #[.int .i64 (x:Int),.int .i64 (y:Int)]] w fun e w'=>(∃i:Int,e=.returned (.int .i64 i)∧(0≤i↔(x,y)∈ks))∧Below w.heap.size w w':=by
 obtain⟨A,c,rfl,h1,h2⟩:=ha.form
 unfold maxLen at h2
 obtain⟨W0,hW0⟩:=zx (w.alloc (.cells #[.int .i64 (x:Int),.int .i64 (y:Int)] 67))
 obtain⟨q,hq⟩:=zx w.heap.size
 have hb0:Below w.heap.size w W0:=by rw[hW0];exact(Below.refl _ _).alloc (Nat.le_refl _) _
 have p0:W0.cell? ⟨q,0,none⟩=some (.int .i64 (x:Int)):=by rw[hW0,hq];simp
 have p1:W0.cell? ⟨q,1,none⟩=some (.int .i64 (y:Int)):=by rw[hW0,hq];simp
 have hq0:q<W0.heap.size:=by rw[hW0,hq];simp
 have HA:=zh ha
 have HB0:=zh hb0
 have HW0:=zh hW0
 have HQ:=zh hq
 have HQ0:=zh hq0
 have HR:=zh hR
 obtain⟨L,hL⟩:=zx ks.length
 rw[←hL] at HA h1 h2 ⊢
 have HL:=zh hL
 clear ha hL hW0 hq hb0 hq0 hR
 go_enter Tryz.func108,Tryz.ntmps108
 go_wp2_with fail
 rw[←HW0.out,←HQ.out]
 go_loopg [8] L (fun z v8 wr=>∃j:Nat,j≤L∧z=L - j∧v8=.int .i64 (j:Int)∧Hid (∀k∈ks.take j,k≠(x,y))∧Hid (Below W0.heap.size W0 wr))
 case atStart=>exact⟨0,by omega,rfl,rfl,zh (fun k hk=>by simp at hk),zh (Below.refl _ _)⟩
 case round =>
  obtain⟨j,hj,rfl,rfl,HN,HB⟩:=hrel
  have e0:=(HB.out.cell (p:=⟨q,0,none⟩) HQ0.out).trans p0
  have e1:=(HB.out.cell (p:=⟨q,1,none⟩) HQ0.out).trans p1
  have HBB:=zh (HB0.out.trans (HB.out.mono HB0.out.size))
  by_cases hlt:j<L
  ·have hjl:j<ks.length:=by rw[←HL.out];exact hlt
   obtain⟨b,off,cs,rfl,hRb,-,hc,hcs⟩:=HA.out.at_ (k:=j) hjl
   obtain⟨c0,c1⟩:=two_ky hc hcs
   have hbw:=HR.out b hRb
   have d0:=(HBB.out.cell (p:=⟨b,off+j * 2,none⟩) hbw).trans c0
   have d1:=(HBB.out.cell (p:=⟨b,off+j * 2+1,none⟩) hbw).trans c1
   have HKM:=zh (List.getElem_mem hjl)
   have HST:=zh (fun(h:ks[j]≠(x,y))=>(fun k hk=>by
    rw[List.take_succ_eq_append_getElem hjl,List.mem_append,List.mem_singleton] at hk
    rcases hk with hk | rfl
    ·exact HN.out k hk
    ·exact h:∀k∈ks.take (j+1),k≠(x,y)))
   clear c0 c1 hc hcs
   generalize ks[j]=u at *
   obtain⟨u1,u2⟩:=u
   simp only at d0 d1
   by_cases hu:u1=x∧u2=y
   ·obtain⟨rfl,rfl⟩:=hu
    go_upto_region 4 with fail
    go_quiet (fail)
    go_wp2_with fail
    go_ret
    exact⟨⟨_,rfl,⟨fun _=>HKM.out,fun _=>by omega⟩⟩,(by first | exact HBB.out | exact Below.drewN' HBB.out _)⟩
   ·have HS:=zh (HST.out (fun e=>hu (by injection e with e1 e2;exact⟨e1,e2⟩)))
    by_cases e:u1=x
    ·subst e
     have hv:((y:Int)==(u2:Int))=false:=by rw[beq_eq_false_iff_ne];exact fun e2=>hu ⟨rfl,by omega⟩
     clear hu
     go_upto_region 4 with fail
     go_quiet (fail)
     go_wp2_with fail
     go_roundg (L - (j+1))
     case measure=>omega
     case rel=>exact⟨j+1,by omega,rfl,by go_num,HS,zh (by first | exact HB.out | exact Below.drewN' HB.out _)⟩
    ·have hv:((x:Int)==(u1:Int))=false:=by rw[beq_eq_false_iff_ne];omega
     clear hu e
     go_upto_region 4 with fail
     go_quiet (fail)
     go_wp2_with fail
     go_roundg (L - (j+1))
     case measure=>omega
     case rel=>exact⟨j+1,by omega,rfl,by go_num,HS,zh (by first | exact HB.out | exact Below.drewN' HB.out _)⟩
  ·have HE:=zh (fun(h:(x,y)∈ks)=>HN.out _ (by rw[List.take_of_length_le (by have:=HL.out;omega)];exact h) rfl)
   go_wp2_with fail
   go_ret
   exact⟨⟨_,rfl,⟨fun h=>by omega,fun h=>(HE.out h).elim⟩⟩,HBB.out⟩
theorem kcontains_any(va:Value) (ks:List (Nat×Nat)) (x y:Nat) (R:Nat→Prop) (w:World) (ha:SlS 2 KyK w R va ks) (hR:∀b,R b→b<w.heap.size) :
  Calls Tryz.prog 60 #[va,.agg #[.int .i64 (x:Int),.int .i64 (y:Int)]] w fun e w'=>e=.returned (.bool (decide ((x,y)∈ks)))∧Below w.heap.size w w':=by
 obtain⟨W0,hW0⟩:=zx (w.alloc (.cells #[.int .i64 (x:Int),.int .i64 (y:Int)] 67))
 obtain⟨q,hq⟩:=zx w.heap.size
 have hb0:Below w.heap.size w W0:=by rw[hW0];exact(Below.refl _ _).alloc (Nat.le_refl _) _
 have p0:W0.cell? ⟨q,0,none⟩=some (.int .i64 (x:Int)):=by rw[hW0,hq];simp
 have p1:W0.cell? ⟨q,1,none⟩=some (.int .i64 (y:Int)):=by rw[hW0,hq];simp
 have HS:=zh (fun(w':World) (hb:Below w.heap.size w w')=>kindex_any va ks x y R w' (SlS.keep kyK ha (fun b h=>hb.block b (hR b h))) (fun b h=>Nat.lt_of_lt_of_le (hR b h) hb.size))
 have HW0:=zh hW0
 have HQ:=zh hq
 have HB0:=zh hb0
 clear ha hR hW0 hq hb0
 go_enter Tryz.func60,Tryz.ntmps60
 go_upto_region 1 with fail
 rw[←HW0.out,←HQ.out]
 go_wp2_with fail
 refine(HS.out _ HB0.out).mono ?_
 rintro e w2 ⟨⟨i,rfl,hi⟩,hb2⟩
 have HI:=zh hi
 have HB2:=zh (HB0.out.trans (hb2.mono HB0.out.size))
 clear hi hb2 p0 p1
 by_cases h0:0≤i
 ·go_wp2_with fail
  go_ret
  refine⟨ret_bool ?_,HB2.out⟩
  rw[decide_eq_true (HI.out.1 h0)]
 ·go_wp2_with fail
  go_ret
  refine⟨ret_bool ?_,HB2.out⟩
  rw[decide_eq_false (fun h:(x,y)∈ks=>by have:=HI.out.2 h;omega)]
  exact decide_eq_false (by omega)
end Go.Proofs.YtcfkllnpkmebpaaGreatDoor
