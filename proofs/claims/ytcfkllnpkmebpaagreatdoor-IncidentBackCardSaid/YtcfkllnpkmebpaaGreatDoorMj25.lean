/- Format undoes Parse: plain. -/
import Derived.Test.YtcfkllnpkmebpaaGreatDoorMj24
import Derived.Test.YtcfkllnpkmebpaaGreatDoorMj01
import Derived.Deep.MidRow
import Derived.Test.YtcfkllnpkmebpaaGreatDoorMj18
import Derived.Test.YtcfkllnpkmebpaaGreatDoorMj19
import Derived.Test.YtcfkllnpkmebpaaGreatDoorMj21
import Derived.Test.YtcfkllnpkmebpaaGreatDoorMj15
import Derived.Test.YtcfkllnpkmebpaaGreatDoorMj23
import Derived.Test.YtcfkllnpkmebpaaGreatDoorMj02
import Derived.Deep.CutRange
import Derived.Deep.AppendLies
set_option linter.unusedSectionVars false
set_option maxRecDepth 100000
set_option maxHeartbeats 12800000
namespace Go.Proofs.YtcfkllnpkmebpaaGreatDoor
open Go.RowKit
set_option linter.unusedVariables false
set_option linter.unusedSimpArgs false
theorem able_fin{F:FltM} {x:Inc} (h:ableB F x=true) (hl:lackI F x=0):finB (kOf F x.vol.toNat) (mOf F x.vol.toNat) x.need x.lost x.causes=true:=by
 rw[fin_poss _ _ _ _ _ (by unfold lackI at hl;omega)]
 unfold ableB at h
 rw[hl] at h
 exact h
theorem mac_nil(F:FltM):MacOk F []:=⟨fun i h=>(by simp at h),fun x h=>(by cases h),fun i h=>(by simp at h)⟩
theorem able_mk(F:FltM) (v s:Nat) (b:Bool):ableB F (mkI F v s b)=possB 0 0 (kOf F v+mOf F v) (kOf F v) b:=by
 unfold ableB
 show possB 0 0 (kOf F ((v:Int).toNat)+mOf F ((v:Int).toNat) - ((0:Nat):Int)) (kOf F v) b=_
 rw[Int.toNat_natCast]
 simp
theorem poss_head{K M:Int} (hk:1≤K) (hm:0≤M) (b:Bool):possB 0 0 (K+M) K b=true:=by
 unfold possB
 rw[if_neg (by omega)]
 cases b with
 | true=>rw[if_pos rfl,decide_eq_true_eq];omega
 | false=>rw[if_neg (by decide),Bool.or_eq_true,decide_eq_true_eq,decide_eq_true_eq];right;omega
theorem bang_snoc_lt{L:List Inc} {x:Inc} {i:Nat} (h:i<L.length):(L++[x])[i]! = L[i]! := by
 rw[getBang (show i<(L++[x]).length by simp;omega),getBang h,List.getElem_append_left h]
theorem bang_snoc{L:List Inc} {x:Inc}:(L++[x])[L.length]! = x:=by
 rw[getBang (show L.length<(L++[x]).length by simp)]
 simp
theorem fmt_snoc(F:FltM) (L:List Inc) (x:Inc):fmtT F (L++[x])=fmtT F L++incT F x:=by
 unfold fmtT
 rw[List.flatMap_append]
 simp
theorem snoc_last{L:List Inc} (h:L≠[]):∃L0 x,L=L0++[x]:=⟨L.dropLast,L.getLast h,(List.dropLast_concat_getLast h).symm⟩
section
variable {N : Nat} {F : FltM} (hok : FleetOk N F) (hN : N ≤ 12)
include hok hN
theorem step_mac(hkm:∀v,v<F.vols.length→1≤kOf F v∧0≤mOf F v) {L L':List Inc} {t:List UInt8} (hm:MacOk F L) (h:stepP F L t=some L'):MacOk F L'∧fmtT F L'=fmtT F L++(t++[10]):=by
 unfold stepP at h
 by_cases hl:leftOf F L=0
 ·rw[if_pos hl] at h
  cases hh:headOf F t with
  | none=>rw[hh] at h;cases h
  | some x =>
   rw[hh] at h
   dsimp only at h
   obtain⟨hx,hxt⟩:=headOf_spec hh
   obtain⟨v,s,b,hv,hs,rfl⟩:=headC_mem.1 hx
   split at h
   ·rename_i ho
    injection h with h
    subst h
    refine⟨⟨fun i hi=>?_,fun y hy=>?_,fun i hi=>?_⟩,?_⟩
    ·rw[List.length_append,List.length_singleton] at hi
     unfold ordAt
     by_cases h0:i=0
     ·rw[decide_eq_true h0];rfl
     ·rw[decide_eq_false h0,Bool.false_or]
      rcases Nat.lt_or_ge i L.length with h1 | h1
      ·have h2:=hm.ord i h1
       unfold ordAt at h2
       rw[decide_eq_false h0,Bool.false_or] at h2
       rw[bang_snoc_lt h1,bang_snoc_lt (by omega)]
       exact h2
      ·have e:i=L.length:=by omega
       subst e
       rw[bang_snoc,bang_snoc_lt (by omega)]
       rcases ho with h2 | h2
       ·exact absurd (by rw[h2];rfl) h0
       ·exact h2
    ·rcases List.mem_append.1 hy with h1 | h1
     ·exact hm.str y h1
     ·rw[List.mem_singleton.1 h1]
      obtain⟨k1,k2⟩:=hkm v hv
      refine⟨?_,?_,fun c hc=>(by cases hc),?_⟩
      ·rw[isStr_iff]
       show(0≤(v:Int)∧(v:Int)<(F.vols.length:Int))∧(0≤(s:Int)∧(s:Int)<F.ext)
       have:=hok.ext
       omega
      ·show kOf F v=kOf F ((v:Int).toNat)
       rw[Int.toNat_natCast]
      ·rw[able_mk];exact poss_head k1 k2 b
    ·rw[List.length_append,List.length_singleton] at hi
     rw[bang_snoc_lt (by omega)]
     rcases Nat.lt_or_ge (i+1) L.length with h1 | h1
     ·exact hm.full i h1
     ·have e:i=L.length - 1:=by omega
      have h0:L≠[]:=by intro e2;subst e2;simp at hi
      unfold leftOf at hl
      rw[if_neg h0] at hl
      rw[e];exact hl
    ·rw[fmt_snoc]
     congr 1
     unfold incT
     rw[←hxt]
     unfold headF mkI
     simp[linesT]
   ·cases h
 ·rw[if_neg hl] at h
  have h0:L≠[]:=by
   intro e
   unfold leftOf at hl
   rw[if_pos e] at hl
   exact hl rfl
  obtain⟨L0,x,rfl⟩:=snoc_last h0
  rw[last_snoc] at h
  rw[left_snoc] at hl
  cases hh:causeIs F x.causes.length t with
  | none=>rw[hh] at h;cases h
  | some c =>
   rw[hh] at h
   dsimp only at h
   obtain⟨hc,hct⟩:=causeIs_spec hh
   split at h
   ·rename_i ha
    rw[set_snoc] at h
    injection h with h
    subst h
    have hxm:=hm.str x (List.mem_append_right _ (List.mem_singleton.2 rfl))
    refine⟨⟨fun i hi=>?_,fun y hy=>?_,fun i hi=>?_⟩,?_⟩
    ·rw[List.length_append,List.length_singleton] at hi
     have h2:=hm.ord i (by simp;omega)
     unfold ordAt at h2 ⊢
     by_cases h0:i=0
     ·rw[decide_eq_true h0];rfl
     ·rw[decide_eq_false h0,Bool.false_or] at h2 ⊢
      rcases Nat.lt_or_ge i L0.length with h1 | h1
      ·rw[bang_snoc_lt h1,bang_snoc_lt (by omega)] at h2 ⊢
       exact h2
      ·have e:i=L0.length:=by omega
       subst e
       rw[bang_snoc,bang_snoc_lt (by omega)] at h2 ⊢
       exact h2
    ·rcases List.mem_append.1 hy with h1 | h1
     ·exact hm.str y (List.mem_append_left _ h1)
     ·rw[List.mem_singleton.1 h1]
      refine⟨hxm.1,hxm.2.1,fun d hd=>?_,ha⟩
      rcases List.mem_append.1 (show d∈x.causes++[c] from hd) with h2 | h2
      ·exact hxm.2.2.1 d h2
      ·rw[List.mem_singleton.1 h2];exact causeC_ok.1 hc
    ·rw[List.length_append,List.length_singleton] at hi
     have h2:=hm.full i (by simp;omega)
     rw[bang_snoc_lt (by omega)] at h2 ⊢
     exact h2
    ·rw[fmt_snoc,fmt_snoc,List.append_assoc]
     congr 1
     unfold incT withC
     simp only
     rw[linesT_snoc,Nat.zero_add,←hct]
     unfold lineF
     simp
   ·cases h
theorem run_back(hkm:∀v,v<F.vols.length→1≤kOf F v∧0≤mOf F v):∀(k:Nat) (L:List Inc) (s:List UInt8) (n:Nat) (z:List Inc) (m:Nat),s.length<k→MacOk F L→runP F k L s n=(z,0,m)→validB F z=true∧fmtT F z=fmtT F L++s
 | 0,L,s,n,z,m,hk,_,_=>by omega
 | k+1,L,s,n,z,m,hk,hm,h=>by
  unfold runP at h
  split at h
  ·rename_i hs
   subst hs
   split at h
   ·rename_i hl
    injection h with h1 h2
    subst h1
    refine⟨valid_hit fun i hi=>?_,by simp⟩
    unfold okAt
    rw[Bool.and_eq_true]
    refine⟨?_,hm.ord i hi⟩
    rw[getBang hi]
    obtain⟨a1,a2,a3,a4⟩:=hm.str _ (List.getElem_mem hi)
    have hlk:lackI F L[i]=0:=by
     rcases Nat.lt_or_ge (i+1) L.length with h1 | h1
     ·have:=hm.full i h1
      rwa [getBang hi] at this
     ·have e:i=L.length - 1:=by omega
      have h0:L≠[]:=by intro e2;subst e2;simp at hi
      unfold leftOf at hl
      rw[if_neg h0,←e,getBang hi] at hl
      exact hl
    have hf:=able_fin a4 hlk
    unfold oneB
    rw[a1,decide_eq_true a2,List.all_eq_true.2 a3,←a2] at *
    simp[hf]
   ·injection h with h1 h2
    injection h2 with h2 h3
    cases h2
  ·rename_i hs
   split at h
   ·injection h with h1 h2
    injection h2 with h2 h3
    cases h2
   ·rename_i p hp
    obtain⟨t,r⟩:=p
    have e:=(lineOf_some hp).1
    dsimp only at h
    split at h
    ·injection h with h1 h2
     injection h2 with h2 h3
     cases h2
    ·rename_i L' hL'
     obtain⟨h1,h2⟩:=step_mac hok hN hkm hm hL'
     have hlen:r.length<s.length:=by rw[e];simp;omega
     obtain⟨g1,g2⟩:=run_back hkm k L' r (n+1) z m (by omega) h1 h
     refine⟨g1,?_⟩
     rw[g2,h2,e]
     simp
theorem pars_back(hkm:∀v,v<F.vols.length→1≤kOf F v∧0≤mOf F v) {s:List UInt8} {n:Nat} (h:(parsR F [] s n).2.1=0):validB F (parsR F [] s n).1=true∧fmtT F (parsR F [] s n).1=s:=by
 obtain⟨⟨z,e,m⟩,hz⟩:∃q,q=parsR F [] s n:=⟨_,rfl⟩
 rw[←hz] at h ⊢
 simp only at h
 subst h
 have:=run_back hok hN hkm (s.length+1) [] s n z m (by omega) (mac_nil F) (by unfold parsR at hz;exact hz.symm)
 exact⟨this.1,by rw[this.2];rfl⟩
end
end Go.Proofs.YtcfkllnpkmebpaaGreatDoor

namespace Go.Proofs.YtcfkllnpkmebpaaGreatDoor
open Go.RowKit
set_option linter.unusedVariables false
set_option linter.unusedSimpArgs false
end Go.Proofs.YtcfkllnpkmebpaaGreatDoor

namespace Go.Proofs.YtcfkllnpkmebpaaGreatDoor
open Go.RowKit Go.Shelf
set_option linter.unusedVariables false
set_option linter.unusedSimpArgs false
end Go.Proofs.YtcfkllnpkmebpaaGreatDoor

namespace Go.Proofs.YtcfkllnpkmebpaaGreatDoor
open Go.RowKit Go.Shelf
set_option linter.unusedVariables false
set_option linter.unusedSimpArgs false
end Go.Proofs.YtcfkllnpkmebpaaGreatDoor

namespace Go.Proofs.YtcfkllnpkmebpaaGreatDoor
open Go.RowKit Go.Shelf
set_option linter.unusedVariables false
set_option linter.unusedSimpArgs false
end Go.Proofs.YtcfkllnpkmebpaaGreatDoor

namespace Go.Proofs.YtcfkllnpkmebpaaGreatDoor
open Go.RowKit
set_option linter.unusedVariables false
set_option linter.unusedSimpArgs false
end Go.Proofs.YtcfkllnpkmebpaaGreatDoor

namespace Go.Proofs.YtcfkllnpkmebpaaGreatDoor
open Go.RowKit Go.Shelf
set_option linter.unusedVariables false
set_option linter.unusedSimpArgs false
end Go.Proofs.YtcfkllnpkmebpaaGreatDoor

namespace Go.Proofs.YtcfkllnpkmebpaaGreatDoor
open Go.RowKit
set_option linter.unusedVariables false
set_option linter.unusedSimpArgs false
end Go.Proofs.YtcfkllnpkmebpaaGreatDoor

namespace Go.Proofs.YtcfkllnpkmebpaaGreatDoor
open Go.RowKit
set_option linter.unusedVariables false
set_option linter.unusedSimpArgs false
theorem step_acau{ops:Array Oper} {o:Oper} {a:Act} {K:Act→World→Prop} {Q:Exit→Act→World→Prop} {E:Prop} {w:World} (c:Cau) (hgd:o.guard=none) (s x:Operand)
  (ho:o.op=.call { callee:=.builtin .append,args:=#[s,x],argTypes:=#[25,25] }) (base:Nat) (v:Value) (l:List Cau) (hs:a.eval s=v) (hown:OwnCau w base v l) (gb:Nat) (hx:a.eval x=.slice (some ⟨gb,0,none⟩) 1 1)
  (hbk:w.heap[gb]?=some (.cells #[.int .i64 c.state,.int .i64 c.drive] 102 (0,0))) (hn:l.length+1≤16777216) (hbase:base≤w.heap.size)
  (h:∀v' w',OwnCau w' base v' (l++[c])→w.grownBy w' v.ownBlock→(v'.ownBlock=v.ownBlock∨v'.ownBlock=some w.heap.size)→K (a.put o.dst v') w') :
  if Region.wanted o (yielded ops a.tmps)=true then Oper.wp Tryz.prog o a w K Q else E:=by
 obtain⟨i0,hi0,hz0,hz1,hz2⟩:=info_parts info_cau
 refine step_append_lies _ hgd s x _ ho base 102 i0 _ 2 16 Tryz.underlying25 hi0 hz0 hz1 hz2 rfl (by omega) v l.length (l.flatMap cauC) hs hown ⟨gb,0,none⟩ 1 1 [.int .i64 c.state,.int .i64 c.drive] hx rfl (World.news_of_block (cs:=#[.int .i64 c.state,.int .i64 c.drive]) hbk)
  (fun u hu=>by simp at hu;rcases hu with rfl | rfl <;> rfl) (by omega) (by unfold maxLen;omega) (by omega) hbase w.heap.size rfl (fun g cap w' h1 h2 h3 _=>h _ w' ?_ h2 ?_)
 ·unfold OwnCau
  rw[List.length_append,List.length_singleton,List.flatMap_append]
  simpa[cauC] using h1
 ·rcases h3 with h3 | h3
  ·exact .inl h3.symm
  ·right;rw[h3];rfl
section
variable {N : Nat} {F : FltM} (hok : FleetOk N F) (hN : N ≤ 12) {L : List Inc} {S : List UInt8} {x0 : Inc}
include hok hN
end
end Go.Proofs.YtcfkllnpkmebpaaGreatDoor
