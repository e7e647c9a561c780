/- Words on memory shared by the proofs of this seat: slices that read as lists. -/
import Derived.WalkKit
import Derived.Lib.Hide
import Derived.Maps.AppendAt
import Derived.BigQuiet
import Derived.Deep.QuietTactic
import Derived.Deep.RegionHeld
import Derived.Laws.BitsAllLaws
import Derived.IntWalk
import Derived.Test.YtmacgpnlcdapfaaGreatRows
import Derived.ProofKit
import Derived.Deep.LoopGhost
import Derived.Deep.DeepCutAuto
import Derived.Deep.RegionHeld3
import Derived.Deep.RegionLaw
import Derived.StillTailTactics
import Derived.Laws.CopyOwn
import Derived.OwnWalk
import Derived.BigRegion
import Derived.Deep.Cut
import Derived.Lib.BufferWrite
import Derived.RegionTactic
import Derived.DeepKeys4
import Derived.WideKeyEntry
import Derived.Maps.RangeWalk
import Derived.Laws.AppendOwnNone
set_option linter.unusedSectionVars false
set_option maxRecDepth 100000
set_option maxHeartbeats 12800000
namespace Go.Proofs.YtmacgpnlcdapfaaGreat
open Go.RowKit
set_option linter.unusedVariables false
set_option linter.unusedSimpArgs false
def I64(x:Int):Prop := -9223372036854775808≤x∧x≤9223372036854775807
def Bl(B:Nat) (b:Nat):Prop:=b<B
def Kept(R:Nat→Prop) (w w':World):Prop:=∀b,R b→w'.heap[b]?=w.heap[b]?
theorem Kept.trans{R:Nat→Prop} {a b c:World} (h:Kept R a b) (k:Kept R b c):Kept R a c:=fun x hx=>(k x hx).trans (h x hx)
theorem Kept.mono{R R':Nat→Prop} {a b:World} (h:Kept R a b) (hr:∀x,R' x→R x):Kept R' a b:=fun x hx=>h x (hr x hx)
theorem Kept.cell{R:Nat→Prop} {w w':World} (h:Kept R w w') {b o:Nat} (hb:R b):w'.cell? ⟨b,o,none⟩=w.cell? ⟨b,o,none⟩:=World.cell?_of_block (w:=w) (h b hb)
theorem kept_below{B:Nat} {w w':World} (h:Below B w w'):Kept (Bl B) w w':=fun b hb=>h.block b hb
theorem kept_below'{B B':Nat} {w w':World} (h:Below B w w') (hB:B'≤B):Kept (Bl B') w w':=fun b hb=>h.block b (Nat.lt_of_lt_of_le hb hB)
theorem kept_alloc(w:World) (o:Obj):Kept (Bl w.heap.size) w (w.alloc o):=fun b hb=>Below.heap_alloc w o b hb
theorem Bl.mono{B B':Nat} (h:B≤B'):∀b,Bl B b→Bl B' b:=fun _ hb=>Nat.lt_of_lt_of_le hb h
def Row(R:Nat→Prop) (v:Value) (n:Nat) (C:Nat→Nat→Prop):Prop :=
 ∃A c,v=.slice A n c∧n≤c∧n≤maxLen∧(0<n→∃b off,A=some ⟨b,off,none⟩∧R b∧C b off)
theorem Row.imp{R R':Nat→Prop} {v:Value} {n:Nat} {C C':Nat→Nat→Prop} (h:Row R v n C) (hr:∀b,R b→R' b) (hc:∀b off,R b→C b off→C' b off):Row R' v n C':=by
 obtain⟨A,c,h1,h2,h3,h4⟩:=h
 refine⟨A,c,h1,h2,h3,fun hn=>?_⟩
 obtain⟨b,off,e,hb,k⟩:=h4 hn
 exact⟨b,off,e,hr b hb,hc b off hb k⟩
theorem Row.nil(R:Nat→Prop) (c:Nat) (C:Nat→Nat→Prop):Row R (.slice none 0 c) 0 C:=⟨none,c,rfl,Nat.zero_le _,Nat.zero_le _,fun h=>absurd h (by omega)⟩
def IntS(w:World) (R:Nat→Prop) (v:Value) (xs:List Int):Prop :=
 Row R v xs.length (fun b off=>∀k x,xs[k]?=some x→w.cell? ⟨b,off+k,none⟩=some (.int .i64 x))∧∀x∈xs,I64 x
theorem IntS.keep{w w':World} {R:Nat→Prop} {v:Value} {xs:List Int} (h:IntS w R v xs) (hk:Kept R w w'):IntS w' R v xs :=
 ⟨h.1.imp (fun _ hb=>hb) fun b off hb hc k x hx=>(hk.cell hb).trans (hc k x hx),h.2⟩
theorem IntS.mono{w:World} {R R':Nat→Prop} {v:Value} {xs:List Int} (h:IntS w R v xs) (hr:∀b,R b→R' b):IntS w R' v xs :=
 ⟨h.1.imp hr fun _ _ _ hc=>hc,h.2⟩
theorem IntS.nil(w:World) (R:Nat→Prop) (c:Nat):IntS w R (.slice none 0 c) []:=⟨Row.nil _ _ _,fun _ h=>by cases h⟩
def bys(l:List UInt8):List Value:=l.map fun b=>Value.int .u8 (b.toNat:Int)
def ByS(w:World) (R:Nat→Prop) (v:Value) (l:List UInt8):Prop :=
 Row R v l.length (fun b off=>∀k x,l[k]?=some x→w.cell? ⟨b,off+k,none⟩=some (.int .u8 (x.toNat:Int)))
theorem ByS.conv{P:Program} {w:World} {R:Nat→Prop} {v:Value} {l:List UInt8} (h:ByS w R v l) {src dst e:TypeId} (hs:P.underlying src=some (.slice e)) (he:P.underlying e=some (.int .u8)) (hd:P.underlying dst=some .string) :
  (convert src dst v).run P w=.ok (.string ⟨l.toArray⟩) w:=by
 obtain⟨A,c,rfl,h1,h2,h3⟩:=h
 by_cases h0:0<l.length
 ·obtain⟨b,off,rfl,_,hc⟩:=h3 h0
  refine run_convert_bytes_back w src dst e _ c l hs he hd fun j hj=>?_
  have:=hc j l[j] (List.getElem?_eq_getElem hj)
  rw[←this]
  unfold Addr.add;split <;> simp_all
 ·have hn:l=[]:=List.eq_nil_of_length_eq_zero (by omega)
  subst hn
  cases A with
  | none=>exact run_convert_bytes_nil w src e hs he _ _ dst hd
  | some ad=>exact run_convert_bytes_back w src dst e ad c [] hs he hd fun j hj=>absurd hj (by simp)
theorem ByS.lit(w:World) (l:List UInt8) (t:TypeId) (hl:l.length≤maxLen):ByS (w.alloc (.cells (bys l).toArray t)) (Bl (w.heap.size+1)) (.slice (some ⟨w.heap.size,0,none⟩) l.length l.length) l :=
 ⟨_,_,rfl,Nat.le_refl _,hl,fun _=>⟨_,_,rfl,Nat.lt_succ_self _,fun k x hk=>by
  rw[Nat.zero_add,cell_of_row _ _ _ _ _ _ (heap_alloc_new w _)]
  simp[bys,hk]⟩⟩
theorem wpList_append1{P:Program} {ops:Array Oper} {rest:List Oper} {o:Oper} {a:Act} {Q:Exit→Act→World→Prop} {w:World} {cs:Array Value} {e:TypeId} (hgd:o.guard=none) (s x:Operand) (t:TypeId)
  (ho:o.op=.call { callee:=.builtin .append,args:=#[s,x],argTypes:=#[t,t] })
  (base:Nat) (i:TypeInfo) (z:Value) (size bytes:Nat) (ht:P.underlying t=some (.slice e)) (hi:P.info? e=some i) (hz:i.zero=some z)
  (hsize:i.size=size) (hby:i.bytes=bytes) (hzs:z.cells.size=size) (hsz:0<size) (hbs:bytes≤4096)
  (v:Value) (n:Nat) (xs:List Value) (hs:a.eval s=v) (hown:w.ownsRow base e size v n xs)
  (hx:a.eval x=.slice (some ⟨w.heap.size,0,none⟩) 1 1) (hcs:cs.size=size) (h1:∀u∈cs.toList,u.oneCell'=true)
  (hn:n+1≤16777216) (hbase:base≤w.heap.size)
  (h:∀v' w',w'.ownsRow base e size v' (n+1) (xs++cs.toList)→w.grownBy w' v.ownBlock→(v'.ownBlock=v.ownBlock∨v'.ownBlock=some (w.heap.size+1))→wpList P ops Q rest (a.put o.dst v') w') :
  wpList P ops Q (o :: rest) a (w.alloc (.cells cs e)):=by
 refine wpList_append_own_at (P:=P) _ hgd s x t ho base e i z size bytes ht hi hz hsize hby hzs hsz v n xs hs (hown.alloc _) ⟨w.heap.size,0,none⟩ 1 1 cs.toList hx (by simp[hcs]) ?_ h1 (by unfold maxLen;omega) ?_ (by simp;omega) ?_
 ·intro j u hj
  have e1:(⟨w.heap.size,0,none⟩:Addr).add j=⟨w.heap.size,j,none⟩:=by unfold Addr.add;split <;> simp_all
  rw[e1,cell_of_row _ _ _ _ _ _ (heap_alloc_new w _)]
  simpa using hj
 ·calc (n+1) * bytes≤16777216 * 4096:=Nat.mul_le_mul hn hbs
   _≤140737488355328:=by decide
 ·intro v' w' h2 h3 _ h5
  refine h v' w' h2 ⟨h3.os,h3.tape,h3.output,Nat.le_trans (by simp) h3.size,fun k hk hne=>(h3.block k (by simp;omega) hne).trans (Below.heap_alloc w _ k hk)⟩ ?_
  simpa using h5
theorem Below.on{B:Nat} {w W w2:World} (h1:Below B w W) (hB:B≤W.heap.size) (h:Below W.heap.size W w2):Below B w w2:=h1.trans (h.mono hB)
theorem below_box{w w2:World} {o:Obj} (h:Below (w.alloc o).heap.size (w.alloc o) w2):Below w.heap.size w w2 :=
 Below.on ((Below.refl w.heap.size w).alloc (Nat.le_refl _) o) (by simp) h
theorem ret_int{k:IntKind} {a b:Int} (h:a=b):Ending.returned (.int k a)=.returned (.int k b):=by rw[h]
theorem ret_bool{a b:Bool} (h:a=b):Ending.returned (.bool a)=.returned (.bool b):=by rw[h]
theorem Below.drewN'{B:Nat} {a w:World} (h:Below B a w) (n:Nat):Below B a (w.drewN n):=⟨h.os,h.tape,h.output,h.size,h.block⟩
end Go.Proofs.YtmacgpnlcdapfaaGreat

namespace Go.Proofs.YtmacgpnlcdapfaaGreat
open Go.RowKit
set_option linter.unusedVariables false
set_option linter.unusedSimpArgs false
section
variable {P : Program} {ops : Array Oper} {Q : Exit → Act → World → Prop} {md : Region.Mode} {S : World → Prop} {T : List Nat}
def wpTail(P:Program) (md:Region.Mode) (ops:Array Oper) (Q:Exit→Act→World→Prop) (S:World→Prop) (T:List Nat):Nat→Array Bool→Act→World→Prop
 | 0,l,a,w=>Region.ready md ops l=[]∧Q .normal a w
 | n+1,l,a,w=>(Region.ready md ops l=[]→Q .normal a w) ∧
  ∀i∈Region.ready md ops l,wpOp P ops Q i (fun a' w'=>(i∉T→S w')∧wpTail P md ops Q S T n (l.setIfInBounds i true) a' w') a w
theorem wpAny_of_tail:∀(n:Nat) (l:Array Bool) (a:Act) (w:World),wpTail P md ops Q S T n l a w→wpAny P md ops Q n l a w
 | 0,_,_,_,h=>h
 | n+1,_,_,_,h=>⟨h.1,fun i hi=>wpOp_mono (fun a' w' h'=>wpAny_of_tail n _ a' w' h'.2) (h.2 i hi)⟩
def Closed(md:Region.Mode) (ops:Array Oper) (l:Array Bool):Prop:=∀k o,ops[k]?=some o→l.getD k true=true→∀e∈o.after,Region.binds md e=true→l.getD e.on true=true
theorem getD_ft{l:Array Bool} {k:Nat} (h:l.getD k false=true):l.getD k true=true:=by
 rcases Nat.lt_or_ge k l.size with h1 | h1
 ·simp[Array.getD,h1] at h ⊢;exact h
 ·unfold Array.getD;rw[dif_neg (by omega)]
theorem Closed.start:Closed md ops (Array.replicate ops.size false):=fun k o ho hk=>by
 have h1:k<ops.size:=(Array.getElem?_eq_some_iff.1 ho).1
 simp[Array.getD,h1] at hk
theorem Closed.set_{l:Array Bool} (h:Closed md ops l) {i:Nat} (hr:i∈Region.ready md ops l):Closed md ops (l.setIfInBounds i true):=by
 have hmono:∀k,l.getD k true=true→(l.setIfInBounds i true).getD k true=true:=fun k hk=>by
  by_cases e:i=k
  ·subst e
   rcases Nat.lt_or_ge i l.size with h1 | h1
   ·simp[Array.getD,h1]
   ·simp[Array.getD,h1]
  ·rw[getD_set_ne true e];exact hk
 intro k o ho hk e he hb
 by_cases hki:i=k
 ·subst hki
  obtain⟨_,o',ho',hall⟩:=mem_ready.1 hr
  rw[ho] at ho'
  injection ho' with ho'
  subst ho'
  have h1:=hall e he hb
  exact hmono _ (getD_ft h1)
 ·rw[getD_set_ne true hki] at hk
  exact hmono _ (h k o ho hk e he hb)
def reach(md:Region.Mode) (ops:Array Oper) (i:Nat):Nat→Nat→Bool
 | 0,_=>false
 | n+1,t=>match ops[t]? with
  | some o=>(o.after.toList.any fun e=>Region.binds md e&&e.on==i)||(o.after.toList.any fun e=>Region.binds md e&&reach md ops i n e.on)
  | none=>false
theorem reach_spec{i:Nat} {l:Array Bool} (hc:Closed md ops l) (hi:l.getD i true=false):∀(n t:Nat),reach md ops i n t=true→∃o,ops[t]?=some o∧∃e∈o.after,Region.binds md e=true∧l.getD e.on true=false:=by
 intro n
 induction n with
 | zero=>intro t h;simp[reach] at h
 | succ n ih =>
  intro t h
  unfold reach at h
  cases ho:ops[t]? with
  | none=>rw[ho] at h;cases h
  | some o =>
   rw[ho] at h
   refine⟨o,rfl,?_⟩
   simp only[Bool.or_eq_true] at h
   rcases h with h | h
   ·obtain⟨e,he,h2⟩:=List.any_eq_true.1 h
    rw[Bool.and_eq_true] at h2
    have h3:e.on=i:=by simpa using h2.2
    exact⟨e,by simpa using he,h2.1,by rw[h3];exact hi⟩
   ·obtain⟨e,he,h2⟩:=List.any_eq_true.1 h
    rw[Bool.and_eq_true] at h2
    obtain⟨o2,ho2,e2,he2,hb2,hl2⟩:=ih e.on h2.2
    refine⟨e,by simpa using he,h2.1,?_⟩
    cases hl:l.getD e.on true with
    | false=>rfl
    | true=>rw[hc e.on o2 ho2 hl e2 he2 hb2] at hl2;cases hl2
def waits(md:Region.Mode) (ops:Array Oper) (T:List Nat) (i:Nat):Bool:=T.all fun t=>reach md ops i 4 t
theorem wpTail_first{i:Nat} {oi:Oper} {v:Value} (hi:ops[i]?=some oi) (hsel:∀(j:Nat) (o:Oper) cs b,ops[j]?=some o→o.op≠.select cs b)
  (hQ:∀c a w,Q (.panic c) (a.put oi.dst v) w→Q (.panic c) a w) (hT:∀t∈T,reach md ops i 4 t=true) :
  ∀(n:Nat) (l:Array Bool) (a:Act) (w:World),Closed md ops l →
   (∀j oj,ops[j]?=some oj→j≠i→l.getD j true=false→(∀e∈oj.after,Region.binds md e=true→e.on≠i)→oi.apart ops oj=true) →
   i∈Region.ready md ops l→YieldsIf P ops S oi v a→S w →
   wpTail P md ops Q S T n (l.setIfInBounds i true) (a.put oi.dst v) w→wpTail P md ops Q S T (n+1) l a w:=by
 intro n
 induction n with
 | zero =>
  intro l a w _ _ hr hy hS H
  refine⟨fun h=>(by rw[h] at hr;cases hr),fun j hj=>?_⟩
  by_cases hji:j=i
  ·subst hji;exact hy.wpOp hi hS ⟨fun _=>hS,H⟩
  ·have:=ready_mono hj hji
   rw[H.1] at this
   cases this
 | succ n ih =>
  intro l a w hcl hfree hr hy hS H
  refine⟨fun h=>(by rw[h] at hr;cases hr),fun j hj=>?_⟩
  by_cases hji:j=i
  ·subst hji;exact hy.wpOp hi hS ⟨fun _=>hS,H⟩
  ·have h1:=H.2 j (ready_mono hj hji)
   obtain⟨hjun,oj,hoj,hall⟩:=mem_ready.1 hj
   have hiun:=(mem_ready.1 hr).1
   have hnot:∀e∈oj.after,Region.binds md e=true→e.on≠i:=fun e he hb heq=>by
    have h1:=hall e he hb
    have h0:=hiun
    rw[heq] at h1
    rcases Nat.lt_or_ge i l.size with h' | h'
    ·simp[h'] at h0 h1;rw[h0] at h1;cases h1
    ·simp[Array.getElem?_eq_none h'] at h1
   have hi0:l.getD i true=false:=hiun
   have hjT:j∉T:=fun ht=>by
    obtain⟨o,ho,e,he,hb,hl⟩:=reach_spec hcl hi0 4 j (hT j ht)
    rw[hoj] at ho
    injection ho with ho
    subst ho
    have h2:=hall e he hb
    have h3:l.getD e.on true=true:=getD_ft h2
    rw[h3] at hl
    cases hl
   have h2:=wpOp_putIf hoj (hfree j oj hoj hji hjun hnot) (fun cs b=>hsel i oi cs b hi) (fun cs b=>hsel j oj cs b hoj) hQ hy h1
   have hfree':∀k ok,ops[k]?=some ok→k≠i→(l.setIfInBounds j true).getD k true=false →
     (∀e∈ok.after,Region.binds md e=true→e.on≠i)→oi.apart ops ok=true:=fun k ok hk hki hun hno=>by
    refine hfree k ok hk hki ?_ hno
    by_cases hjk:j=k
    ·subst hjk;exact hjun
    ·rw[getD_set_ne true hjk] at hun;exact hun
   refine wpOp_mono (fun a' w' h3=>⟨fun _=>h3.2.1 hjT,ih (l.setIfInBounds j true) a' w' (hcl.set_ hj) hfree' (ready_mono hr (Ne.symm hji)) h3.1 (h3.2.1 hjT) ?_⟩) h2
   rw[Array.setIfInBounds_comm _ _ hji]
   exact h3.2.2
def Tail(P:Program) (md:Region.Mode) (ops:Array Oper) (Q:Exit→Act→World→Prop) (S:World→Prop) (T:List Nat) (n:Nat) (l:Array Bool) (a:Act) (w:World):Prop:=Closed md ops l→wpTail P md ops Q S T n l a w
theorem takeT{i d:Nat} {oi:Oper} {v:Value} {n:Nat} {l:Array Bool} {a:Act} {w:World} (hi:ops[i]?=some oi) (hd:oi.dst=some d)
  (hs:Region.noSelect ops=true) (hf:Region.free md ops l i=true) (hr:(Region.ready md ops l).contains i=true) (hT:waits md ops T i=true)
  (hQ:∀c a w,Q (.panic c) (a.put (some d) v) w→Q (.panic c) a w) (hy:YieldsIf P ops S oi v a) (hS:S w)
  (h:Tail P md ops Q S T n (l.setIfInBounds i true) (a.put (some d) v) w):Tail P md ops Q S T (n+1) l a w:=fun hc =>
 wpTail_first hi (Region.noSelect_spec hs) (by rw[hd];exact hQ) (fun t ht=>List.all_eq_true.1 hT t ht) n l a w hc (Region.free_spec hi hf) (by simpa using hr) hy hS (by rw[hd];exact h (hc.set_ (by simpa using hr)))
theorem doneT{l:Array Bool} {a:Act} {w:World} (hr:Region.ready md ops l=[]) (h:Q .normal a w):∀n,Tail P md ops Q S T n l a w
 | 0=>fun _=>⟨hr,h⟩
 | _+1=>fun _=>⟨fun _=>h,by rw[hr];simp⟩
def AllReadyT(P:Program) (md:Region.Mode) (ops:Array Oper) (Q:Exit→Act→World→Prop) (S:World→Prop) (T:List Nat) (n:Nat) (l:Array Bool) (a:Act) (w:World) (rs:List Nat):Prop :=
 ∀i∈rs,wpOp P ops Q i (fun a' w'=>(i∉T→S w')∧Tail P md ops Q S T n (l.setIfInBounds i true) a' w') a w
theorem AllReadyT.nil{n:Nat} {l:Array Bool} {a:Act} {w:World}:AllReadyT P md ops Q S T n l a w []:=fun _ h=>by cases h
theorem AllReadyT.cons{n:Nat} {l:Array Bool} {a:Act} {w:World} {i:Nat} {o:Oper} {rs:List Nat} (ho:ops[i]?=some o)
  (h:∀K':Act→World→Prop,Shut (∀a w,S w→(S w→Tail P md ops Q S T n (l.setIfInBounds i true) a w)→K' a w)→if Region.wanted o (yielded ops a.tmps)=true then Oper.wp P o a w K' Q else K' (a.put o.dst undef) w)
  (hs:AllReadyT P md ops Q S T n l a w rs):AllReadyT P md ops Q S T n l a w (i :: rs):=fun j hj=>by
 rcases List.mem_cons.1 hj with rfl | hj
 ·exact wpOp_step ho (fun K' hK=>h K' (fun a w hS hW=>hK a w ⟨fun _=>hS,hW hS⟩))
 ·exact hs j hj
theorem AllReadyT.consT{n:Nat} {l:Array Bool} {a:Act} {w:World} {i:Nat} {o:Oper} {rs:List Nat} (ho:ops[i]?=some o) (hi:T.contains i=true)
  (h:∀K':Act→World→Prop,Shut (∀a w,Tail P md ops Q S T n (l.setIfInBounds i true) a w→K' a w)→if Region.wanted o (yielded ops a.tmps)=true then Oper.wp P o a w K' Q else K' (a.put o.dst undef) w)
  (hs:AllReadyT P md ops Q S T n l a w rs):AllReadyT P md ops Q S T n l a w (i :: rs):=fun j hj=>by
 rcases List.mem_cons.1 hj with rfl | hj
 ·exact wpOp_step ho (fun K' hK=>h K' (fun a w hW=>hK a w ⟨fun hn=>absurd (by simpa using hi) hn,hW⟩))
 ·exact hs j hj
theorem readyT{rs:List Nat} {n:Nat} {l:Array Bool} {a:Act} {w:World} (hr:Region.ready md ops l=rs) (hne:rs≠[])
  (h:AllReadyT P md ops Q S T n l a w rs):Tail P md ops Q S T (n+1) l a w:=fun hc =>
 ⟨fun h0=>absurd (hr▸h0) hne,fun i hi=>wpOp_mono (fun a' w' h'=>⟨h'.1,h'.2 (hc.set_ hi)⟩) (h i (hr▸hi))⟩
theorem region_tail{id:Nat} {a:Act} {w:World} (T:List Nat) (hm:P.follows .mixedOrders=true) (hS:S w.drew)
  (h:S w.drew→Tail P .any ops Q S T ops.size (Array.replicate ops.size false) a w.drew):(Code.region id ops true).wp P Q a w :=
 wp_region_any hm (wpAny_of_tail _ _ _ _ (h hS Closed.start))
end
end Go.Proofs.YtmacgpnlcdapfaaGreat

namespace Go.Proofs.YtmacgpnlcdapfaaGreat
open Go.RowKit
section
variable {P : Program} {md : Region.Mode} {ops : Array Oper} {Q : Exit → Act → World → Prop} {S : World → Prop} {T : List Nat}
theorem tk(i d:Nat) {oi:Oper} {v:Value} {n:Nat} {l:Array Bool} {a a':Act} {w:World} (h:Tail P md ops Q S T n (l.setIfInBounds i true) a' w) (hi:ops[i]?=some oi:=by rfl) (hd:oi.dst=some d:=by rfl)
  (hs:Region.noSelect ops=true:=by kernel_rfl) (hf:Region.free md ops l i=true:=by kernel_rfl) (hr:(Region.ready md ops l).contains i=true:=by kernel_rfl) (hT:waits md ops T i=true:=by kernel_rfl)
  (hQ:∀c a w,Q (.panic c) (a.put (some d) v) w→Q (.panic c) a w:=by exact fun _ _ _ h=>h) (hw:Region.wanted oi (yielded ops a.tmps)=true:=by rfl)
  (hy:∀w,S w→(execOp a.eval oi).run P w=.ok (.value v) w:=by intro w hSw;(try dsimp only at hSw);go_simp;first | done | with_reducible rfl)
  (hS:S w:=by assumption) (ha:a.put (some d) v=a':=by first | (simp only[Act.put,List.setIfInBounds_toArray,List.set_cons_zero,List.set_cons_succ];done) | (simp only[Act.put,List.setIfInBounds_toArray,List.set_cons_zero,List.set_cons_succ];rfl) | rfl) :
  Tail P md ops Q S T (n+1) l a w:=takeT (i:=i) (d:=d) (v:=v) hi hd hs hf hr hT hQ (Or.inl ⟨hw,hy⟩) hS (ha▸h)
end
theorem zx {α : Sort _} (a : α) : ∃ x, x = a := ⟨_, rfl⟩
theorem zh {p : Prop} (h : p) : Hid p := h
theorem z1 : type_of% @List.setIfInBounds_toArray := @List.setIfInBounds_toArray
theorem z2 : type_of% @List.set_cons_zero := @List.set_cons_zero
theorem z3 : type_of% @List.set_cons_succ := @List.set_cons_succ
end Go.Proofs.YtmacgpnlcdapfaaGreat

namespace Go.Proofs.YtmacgpnlcdapfaaGreat
def num(l:List UInt8):Nat:=l.foldl (fun a c=>a * 256+c.toNat) 0
end Go.Proofs.YtmacgpnlcdapfaaGreat

namespace Go.Proofs.YtmacgpnlcdapfaaGreat
end Go.Proofs.YtmacgpnlcdapfaaGreat

namespace Go.Proofs.YtmacgpnlcdapfaaGreat
open Go.RowKit
set_option linter.unusedVariables false
set_option linter.unusedSimpArgs false
theorem heap_alloc_at(w:World) (o:Obj) (n:Nat) (h:n=w.heap.size):(w.alloc o).heap[n]?=some o:=by subst h;exact heap_alloc_new w o
end Go.Proofs.YtmacgpnlcdapfaaGreat

namespace Go.Proofs.YtmacgpnlcdapfaaGreat
def bitU(b:UInt8) (n:Nat):Bool:=b.toNat.testBit n
def xt(a:UInt8):UInt8:=(a <<< 1) ^^^ (if bitU a 7 then 29 else 0)
def xtK:Nat→UInt8→UInt8
 | 0,a=>a
 | n+1,a=>xt (xtK n a)
theorem all8{P:UInt8→Prop} (h:∀n:Nat,n<256→P (UInt8.ofNat n)) (a:UInt8):P a:=by
 have:=h a.toNat a.toNat_lt
 rwa [UInt8.ofNat_toNat] at this
theorem bitU_xor(a b:UInt8) (n:Nat):bitU (a ^^^ b) n=(bitU a n ^^ bitU b n):=by unfold bitU;rw[UInt8.toNat_xor,Nat.testBit_xor]
theorem u8_ext{a b:UInt8} (h:∀n,n<8→bitU a n=bitU b n):a=b:=by
 apply UInt8.toNat_inj.1
 apply Nat.eq_of_testBit_eq
 intro i
 by_cases hi:i<8
 ·exact h i hi
 ·have hb:∀c:UInt8,c.toNat.testBit i=false:=fun c=>Nat.testBit_lt_two_pow (Nat.lt_of_lt_of_le c.toNat_lt (Nat.pow_le_pow_right (by omega) (by omega)))
  rw[hb,hb]
theorem bitU_shl(a:UInt8) (n:Nat) (h:n<8):bitU (a <<< 1) n=(decide (1≤n)&&bitU a (n - 1)):=by
 unfold bitU
 rw[UInt8.toNat_shiftLeft]
 show((a.toNat <<< 1) % 2 ^ 8).testBit n=_
 rw[Nat.testBit_mod_two_pow,Nat.testBit_shiftLeft]
 simp[h]
theorem shl_xor(a b:UInt8):(a ^^^ b) <<< 1=(a <<< 1) ^^^ (b <<< 1):=by
 apply u8_ext
 intro n hn
 rw[bitU_xor,bitU_shl _ _ hn,bitU_shl _ _ hn,bitU_shl _ _ hn,bitU_xor]
 cases decide (1≤n) <;> simp
theorem xor4u(a b c d:UInt8):(a ^^^ b) ^^^ (c ^^^ d)=(a ^^^ c) ^^^ (b ^^^ d):=by
 rw[UInt8.xor_assoc,UInt8.xor_assoc,←UInt8.xor_assoc b,UInt8.xor_comm b c,UInt8.xor_assoc c]
theorem xor_zero(a:UInt8):a ^^^ 0=a:=UInt8.xor_zero
theorem xt_xor(a b:UInt8):xt (a ^^^ b)=xt a ^^^ xt b:=by
 unfold xt
 rw[bitU_xor,shl_xor,xor4u (a <<< 1)]
 congr 1
 cases bitU a 7 <;> cases bitU b 7 <;> decide
theorem xt_zero:xt 0=0:=by decide
theorem xtK_zero(n:Nat):xtK n 0=0:=by
 induction n with
 | zero=>rfl
 | succ n ih=>show xt (xtK n 0)=0;rw[ih,xt_zero]
theorem xtK_add(m n:Nat) (a:UInt8):xtK (m+n) a=xtK m (xtK n a):=by
 induction m with
 | zero=>rw[Nat.zero_add];rfl
 | succ m ih=>rw[Nat.succ_add];show xt (xtK (m+n) a)=xt (xtK m (xtK n a));rw[ih]
def gm:Nat→UInt8→UInt8→UInt8
 | 0,_,_=>0
 | n+1,a,b=>gm n a b ^^^ (if bitU b n then xtK n a else 0)
def gmul(a b:UInt8):UInt8:=gm 8 a b
theorem gm_right(n:Nat) (a b b':UInt8):gm n a (b ^^^ b')=gm n a b ^^^ gm n a b':=by
 induction n with
 | zero=>exact(xor_zero 0).symm
 | succ n ih =>
  show gm n a (b ^^^ b') ^^^ _=(gm n a b ^^^ _) ^^^ (gm n a b' ^^^ _)
  rw[ih,bitU_xor,xor4u]
  cases bitU b n <;> cases bitU b' n <;> simp
theorem gmul_right(a b b':UInt8):gmul a (b ^^^ b')=gmul a b ^^^ gmul a b':=gm_right 8 a b b'
theorem gm_zero_left(n:Nat) (b:UInt8):gm n 0 b=0:=by
 induction n with
 | zero=>rfl
 | succ n ih=>show gm n 0 b ^^^ _=0;rw[ih,xtK_zero];simp
theorem gm_zero_right(n:Nat) (a:UInt8):gm n a 0=0:=by
 induction n with
 | zero=>rfl
 | succ n ih =>
  show gm n a 0 ^^^ _=0
  rw[ih]
  have:bitU 0 n=false:=by unfold bitU;simp
  rw[this];simp
theorem zero_gmul(b:UInt8):gmul 0 b=0:=gm_zero_left 8 b
theorem gmul_zero(a:UInt8):gmul a 0=0:=gm_zero_right 8 a
theorem gmul_one(a:UInt8):gmul a 1=a:=by
 have h0:bitU 1 0=true:=by decide
 have h1:bitU 1 1=false:=by decide
 have h2:bitU 1 2=false:=by decide
 have h3:bitU 1 3=false:=by decide
 have h4:bitU 1 4=false:=by decide
 have h5:bitU 1 5=false:=by decide
 have h6:bitU 1 6=false:=by decide
 have h7:bitU 1 7=false:=by decide
 simp[gmul,gm,h0,h1,h2,h3,h4,h5,h6,h7,xtK]
theorem gm_shl(a b:UInt8):∀n,n<8→gm (n+1) a (b <<< 1)=xt (gm n a b):=by
 intro n
 induction n with
 | zero =>
  intro _
  show(0:UInt8) ^^^ _=xt 0
  rw[bitU_shl _ _ (by omega),xt_zero];simp
 | succ n ih =>
  intro h
  show gm (n+1) a (b <<< 1) ^^^ _=xt (gm n a b ^^^ _)
  rw[ih (by omega),xt_xor,bitU_shl _ _ (by omega)]
  congr 1
  have e:n+1 - 1=n:=rfl
  rw[e]
  cases bitU b n
  ·simp[xt_zero]
  ·simp;rfl
theorem gmul_29(a:UInt8):gmul a 29=xtK 8 a:=all8 (P:=fun a=>gmul a 29=xtK 8 a) (by decide +kernel) a
theorem gmul_xt(a b:UInt8):gmul a (xt b)=xt (gmul a b):=by
 have e:xt (gmul a b)=xt (gm 7 a b) ^^^ (if bitU b 7 then xtK 8 a else 0):=by
  show xt (gm 7 a b ^^^ _)=_
  rw[xt_xor]
  cases bitU b 7
  ·simp[xt_zero]
  ·simp;rfl
 rw[e]
 unfold xt
 rw[gmul_right]
 have h:=gm_shl a b 7 (by omega)
 show gm 8 a (b <<< 1) ^^^ _=_
 rw[h]
 congr 1
 cases bitU b 7
 ·simp[gmul_zero]
 ·simp[gmul_29]
theorem gmul_xtK(a b:UInt8) (n:Nat):gmul a (xtK n b)=xtK n (gmul a b):=by
 induction n with
 | zero=>rfl
 | succ n ih=>show gmul a (xt (xtK n b))=xt (xtK n (gmul a b));rw[gmul_xt,ih]
theorem gmul_gen(a:UInt8) (n:Nat):gmul a (xtK n 1)=xtK n a:=by rw[gmul_xtK,gmul_one]
def logT:List Nat:=[0,0,1,25,2,50,26,198,3,223,51,238,27,104,199,75,4,100,224,14,52,141,239,129,28,193,105,248,200,8,76,113,5,138,101,47,225,36,15,33,53,147,142,218,240,18,130,69,29,181,194,125,106,39,249,185,201,154,9,120,77,228,114,166,6,191,139,98,102,221,48,253,226,152,37,179,16,145,34,136,54,208,148,206,143,150,219,189,241,210,19,92,131,56,70,64,30,66,182,163,195,72,126,110,107,58,40,84,250,133,186,61,202,94,155,159,10,21,121,43,78,212,229,172,115,243,167,87,7,112,192,247,140,128,99,13,103,74,222,237,49,197,254,24,227,165,153,119,38,184,180,124,17,68,146,217,35,32,137,46,55,63,209,91,149,188,207,205,144,135,151,178,220,252,190,97,242,86,211,171,20,42,93,158,132,60,57,83,71,109,65,162,31,45,67,216,183,123,164,118,196,23,73,236,127,12,111,246,108,161,59,82,41,157,85,170,251,96,134,177,187,204,62,90,203,89,95,176,156,169,160,81,11,245,22,235,122,117,44,215,79,174,213,233,230,231,173,232,116,214,244,234,168,80,88,175]
theorem log_all:∀n:Nat,n<256→n=0∨xtK (logT.getD n 0) 1=UInt8.ofNat n:=by decide +kernel
theorem gen_all(a:UInt8) (h:a≠0):∃k,a=xtK k 1:=by
 refine⟨logT.getD a.toNat 0,?_⟩
 rcases log_all a.toNat a.toNat_lt with h0 | h0
 ·exact absurd (UInt8.toNat_inj.1 (by simpa using h0)) h
 ·rw[h0,UInt8.ofNat_toNat]
theorem gmul_comm(a b:UInt8):gmul a b=gmul b a:=by
 by_cases ha:a=0
 ·rw[ha,zero_gmul,gmul_zero]
 by_cases hb:b=0
 ·rw[hb,zero_gmul,gmul_zero]
 obtain⟨j,rfl⟩:=gen_all a ha
 obtain⟨k,rfl⟩:=gen_all b hb
 rw[gmul_gen,gmul_gen,←xtK_add,←xtK_add,Nat.add_comm]
theorem gmul_assoc(a b c:UInt8):gmul (gmul a b) c=gmul a (gmul b c):=by
 by_cases hc:c=0
 ·rw[hc,gmul_zero,gmul_zero,gmul_zero]
 obtain⟨k,rfl⟩:=gen_all c hc
 rw[gmul_gen,gmul_gen,gmul_xtK]
end Go.Proofs.YtmacgpnlcdapfaaGreat

namespace Go.Proofs.YtmacgpnlcdapfaaGreat
instance:Std.Associative gmul:=⟨gmul_assoc⟩
instance:Std.Commutative gmul:=⟨gmul_comm⟩
section
variable {α β : Type}
end
end Go.Proofs.YtmacgpnlcdapfaaGreat

namespace Go.Proofs.YtmacgpnlcdapfaaGreat
abbrev Mat:=List (List UInt8)
def en(t:Mat) (i j:Nat):UInt8:=(t.getD i []).getD j 0
end Go.Proofs.YtmacgpnlcdapfaaGreat

namespace Go.Proofs.YtmacgpnlcdapfaaGreat
set_option linter.unusedVariables false
def two(v w:Nat→UInt8) (n:Nat) (j:Nat):UInt8:=if j<n then v j else w (j - n)
end Go.Proofs.YtmacgpnlcdapfaaGreat

namespace Go.Proofs.YtmacgpnlcdapfaaGreat
set_option linter.unusedVariables false
end Go.Proofs.YtmacgpnlcdapfaaGreat

namespace Go.Proofs.YtmacgpnlcdapfaaGreat
open Go.RowKit
set_option linter.unusedVariables false
set_option linter.unusedSimpArgs false
end Go.Proofs.YtmacgpnlcdapfaaGreat

namespace Go.Proofs.YtmacgpnlcdapfaaGreat
open Go.RowKit
set_option linter.unusedVariables false
set_option linter.unusedSimpArgs false
theorem madeCells_one(v:Value) (n:Nat):madeCells #[v] n=Array.replicate n v:=by
 apply Array.ext
 ·simp[madeCells]
 ·intro i h1 h2;simp[madeCells,Nat.mod_one]
def Fr(B n:Nat) (b:Nat):Prop:=B≤b∧b<n
theorem Fr.bl{B n:Nat}:∀b,Fr B n b→Bl n b:=fun _ h=>h.2
end Go.Proofs.YtmacgpnlcdapfaaGreat

namespace Go.Proofs.YtmacgpnlcdapfaaGreat
open Go.RowKit
set_option linter.unusedVariables false
set_option linter.unusedSimpArgs false
end Go.Proofs.YtmacgpnlcdapfaaGreat

namespace Go.Proofs.YtmacgpnlcdapfaaGreat
open Go.RowKit
set_option linter.unusedVariables false
set_option linter.unusedSimpArgs false
end Go.Proofs.YtmacgpnlcdapfaaGreat

namespace Go.Proofs.YtmacgpnlcdapfaaGreat
open Go.RowKit
set_option linter.unusedVariables false
set_option linter.unusedSimpArgs false
end Go.Proofs.YtmacgpnlcdapfaaGreat

namespace Go.Proofs.YtmacgpnlcdapfaaGreat
open Go.RowKit
set_option linter.unusedVariables false
set_option linter.unusedSimpArgs false
section
variable {W : World} {B g : Nat} {qs : List Nat} {t : Mat} {m : Nat} {rest : List Value}
end
end Go.Proofs.YtmacgpnlcdapfaaGreat

namespace Go.Proofs.YtmacgpnlcdapfaaGreat
open Go.RowKit
set_option linter.unusedVariables false
set_option linter.unusedSimpArgs false
section
variable {W : World} {B g : Nat} {qs cs : List Nat} {t : Mat} {m : Nat}
end
end Go.Proofs.YtmacgpnlcdapfaaGreat

namespace Go.Proofs.YtmacgpnlcdapfaaGreat
open Go.RowKit
set_option linter.unusedVariables false
set_option linter.unusedSimpArgs false
theorem own_form{w:World} {base:Nat} {e:TypeId} {size:Nat} {v:Value} {n:Nat} {xs:List Value} (h:w.ownsRow base e size v n xs):∃A c,v=.slice A n c:=by
 rcases h.2 with ⟨rfl,rfl⟩ | ⟨g,cap,cur,rfl,_⟩
 ·exact⟨none,0,rfl⟩
 ·exact⟨_,cap,rfl⟩
end Go.Proofs.YtmacgpnlcdapfaaGreat

namespace Go.Proofs.YtmacgpnlcdapfaaGreat
open Go.RowKit
set_option linter.unusedVariables false
set_option linter.unusedSimpArgs false
theorem grown_of_below{W W':World} (hb:Below W.heap.size W W'):W.grownBy W' none:=⟨hb.os,hb.tape,hb.output,hb.size,fun k hk _=>hb.block k hk⟩
theorem own_below{w w2:World} {base:Nat} {e:TypeId} {size:Nat} {v:Value} {n:Nat} {xs:List Value} (h:w.ownsRow base e size v n xs) (hb:Below w.heap.size w w2):w2.ownsRow base e size v n xs:=by
 refine h.kept (w':=w2) (row:=none) (grown_of_below hb) ?_
 cases hv:v.ownBlock with
 | none=>exact .inl rfl
 | some g=>exact .inr (by simp)
theorem own_base{W:World} {B B':Nat} {e:TypeId} {s n:Nat} {v:Value} {xs:List Value} (h:W.ownsRow B e s v n xs) (hB:B'≤B):W.ownsRow B' e s v n xs:=by
 refine⟨h.1,?_⟩
 rcases h.2 with h1 | ⟨g,cap,cur,h1,h2,h3⟩
 ·exact .inl h1
 ·exact .inr ⟨g,cap,cur,h1,by omega,h3⟩
end Go.Proofs.YtmacgpnlcdapfaaGreat

namespace Go.Proofs.YtmacgpnlcdapfaaGreat
open Go.RowKit
set_option linter.unusedVariables false
set_option linter.unusedSimpArgs false
end Go.Proofs.YtmacgpnlcdapfaaGreat

namespace Go.Proofs.YtmacgpnlcdapfaaGreat
open Go.RowKit
set_option linter.unusedVariables false
set_option linter.unusedSimpArgs false
end Go.Proofs.YtmacgpnlcdapfaaGreat

namespace Go.Proofs.YtmacgpnlcdapfaaGreat
open Go.RowKit
set_option linter.unusedVariables false
set_option linter.unusedSimpArgs false
end Go.Proofs.YtmacgpnlcdapfaaGreat

namespace Go.Proofs.YtmacgpnlcdapfaaGreat
open Go.RowKit
set_option linter.unusedVariables false
set_option linter.unusedSimpArgs false
theorem info_bool:(Tryz.prog.info? 4).map (fun i=>(i.zero,i.size,i.bytes))=some (some (.bool false),1,1):=by kernel_rfl
theorem conv_bytes{w:World} {R:Nat→Prop} {v:Value} {l:List UInt8} (h:ByS w R v l):(convert 107 9 v).run Tryz.prog w=.ok (.string ⟨l.toArray⟩) w :=
 h.conv Tryz.underlying107 Tryz.underlying5 Tryz.underlying9
theorem only_set1(w:World) (g i:Nat) (u:Value):w.grownBy (w.setCell ⟨g,i,none⟩ u) (some g) :=
 ⟨rfl,rfl,rfl,by simp[World.setCell],fun k hk hne=>Below.heap_setCell w _ u k (fun e=>hne (by rw[e]))⟩
end Go.Proofs.YtmacgpnlcdapfaaGreat

namespace Go.Proofs.YtmacgpnlcdapfaaGreat
open Go.RowKit
set_option linter.unusedVariables false
set_option linter.unusedSimpArgs false
def within(x n:Int):Int:=if n<1 then 0 else x % n
theorem within_small(x n:Int) (h:n<1):within x n=0:=by unfold within;rw[if_pos h]
theorem within_range(x n:Int) (h:1≤n):0≤within x n∧within x n<n:=by
 unfold within;rw[if_neg (by omega)];exact⟨Int.emod_nonneg _ (by omega),Int.emod_lt_of_pos _ (by omega)⟩
theorem tmod_cases{x n:Int} (hn:1≤n):x.tmod n=x % n∨(x.tmod n=x % n - n∧0<x % n):=by
 have e:=Int.tmod_eq_emod (a:=x) (b:=n)
 have h1:=Int.emod_nonneg x (show n≠0 by omega)
 by_cases h:0≤x∨n ∣ x
 ·rw[if_pos h] at e;left;omega
 ·rw[if_neg h] at e
  have h2:x % n≠0:=fun h0=>h (.inr (Int.dvd_of_emod_eq_zero h0))
  right;omega
theorem tmod_neg{x n:Int} (hn:1≤n) (h:x.tmod n<0):x.tmod n+n=x % n ∧ -n<x.tmod n:=by
 have h1:=Int.emod_nonneg x (show n≠0 by omega)
 rcases tmod_cases (x:=x) hn with e | ⟨e,h2⟩ <;> omega
theorem tmod_pos{x n:Int} (hn:1≤n) (h:0≤x.tmod n):x.tmod n=x % n:=by
 have h1:=Int.emod_lt_of_pos x (show 0<n by omega)
 rcases tmod_cases (x:=x) hn with e | ⟨e,h2⟩ <;> omega
theorem within_any(x n:Int) (w:World) (hx:I64 x) (hn:I64 n) :
  Calls Tryz.prog 8 #[.int .i64 x,.int .i64 n] w fun e w'=>e=.returned (.int .i64 (within x n))∧w=w':=by
 obtain⟨h0,h1⟩:=hx
 obtain⟨g0,g1⟩:=hn
 go_enter Tryz.func8,Tryz.ntmps8
 go_wp2
 ·go_ret
  exact⟨ret_int (within_small _ _ (by assumption)).symm,rfl⟩
 ·go_ret
  have hn:1≤n:=by assumption
  have h:=tmod_neg hn (by assumption)
  refine⟨ret_int ?_,rfl⟩
  show wrap64 _=_
  rw[IntWalk.wrap64_in _ (by omega),h.1]
  unfold within;rw[if_neg (by omega)]
 ·go_ret
  have hn:1≤n:=by assumption
  refine⟨ret_int ?_,rfl⟩
  show Int.tmod _ _=_
  rw[tmod_pos hn (by assumption)]
  unfold within;rw[if_neg (by omega)]
def TapeB(W:World) (g:Nat) (vl:Value) (I:Nat):Prop:=W.heap[g]?=some (.cells #[vl,.int .i64 (I:Int)] 25 (0,0))
theorem TapeB.cells{W:World} {g:Nat} {vl:Value} {I:Nat} (h:TapeB W g vl I):W.cell? ⟨g,0,none⟩=some vl∧W.cell? ⟨g,1,none⟩=some (.int .i64 (I:Int))∧W.frozen? ⟨g,1,none⟩=false∧g<W.heap.size:=by
 have h0:=cell_of_row W g 0 _ _ _ h
 have h1:=cell_of_row W g 1 _ _ _ h
 exact⟨by simpa using h0,by simpa using h1,frozen_of_row W g 1 _ _ h,block_lt_of_cell h0⟩
def tapeX(xs:List Int) (I:Nat):Int:=if h:I<xs.length then xs[I] else((I:Int) % 3)
theorem only_set2{a w:World} {g:Nat} (h:a.grownBy w (some g)) (i:Nat) (u:Value):a.grownBy (w.setCell ⟨g,i,none⟩ u) (some g) :=
 ⟨h.os,h.tape,h.output,by simpa[World.setCell] using h.size,fun k hk hne=>(Below.heap_setCell w _ u k (fun e=>hne (by rw[e]))).trans (h.block k hk hne)⟩
theorem only_drew2{a w:World} {g:Nat} (h:a.grownBy w (some g)) (n:Nat):a.grownBy (w.drewN n) (some g):=⟨h.os,h.tape,h.output,h.size,h.block⟩
theorem only_refl2(w:World) (g:Nat):w.grownBy w (some g):=⟨rfl,rfl,rfl,Nat.le_refl _,fun _ _ _=>rfl⟩
theorem next_any(g:Nat) (vl:Value) (xs:List Int) (I:Nat) (n:Int) (w:World) (R:Nat→Prop) (hT:TapeB w g vl I) (hx:IntS w R vl xs) (hI:I≤4611686018427387904) (hn:I64 n) :
  Calls Tryz.prog 10 #[.pointer (some ⟨g,0,none⟩),.int .i64 n] w fun e w'=>e=.returned (.int .i64 (within (tapeX xs I) n))∧TapeB w' g vl (I+1)∧w.grownBy w' (some g):=by
 obtain⟨c0,c1,f1,hg⟩:=hT.cells
 obtain⟨g0,g1⟩:=hn
 obtain⟨A,c,rfl,-,hm⟩:∃A c,vl=.slice A xs.length c∧xs.length≤c∧xs.length≤maxLen:=by
  obtain⟨⟨A',c',e,h1,h2,h3⟩,h4⟩:=hx
  exact⟨A',c',e,h1,h2⟩
 unfold maxLen at hm
 have hT2:=heap_setCell_same w g 1 _ _ (.int .i64 ((I+1:Nat):Int)) hT
 have e1:(((I+1:Nat):Int))=(I:Int)+1:=by omega
 rw[e1] at hT2
 have HT2:=zh hT2
 have i0:(0:Int)≤(I:Int):=by omega
 by_cases hlt:I<xs.length
 ·have hx0:tapeX xs I=xs[I]:=dif_pos hlt
  obtain⟨b,off,hA,hc,h64⟩:∃b off,A=some ⟨b,off,none⟩∧w.cell? ⟨b,off+I,none⟩=some (.int .i64 xs[I])∧I64 xs[I]:=by
   obtain⟨⟨A',c',e,_,_,h3⟩,h4⟩:=hx
   obtain⟨b,off,e2,hb,hc⟩:=h3 (by omega)
   injection e with e
   exact⟨b,off,e.trans e2,hc I _ (List.getElem?_eq_getElem hlt),h4 _ (List.getElem_mem hlt)⟩
  subst hA
  rw[hx0]
  obtain⟨x,hxx⟩:=zx (xs[I])
  rw[←hxx] at hc h64 ⊢
  obtain⟨h0,h1⟩:=h64
  have il:(I:Int)<(xs.length:Int):=by omega
  clear hx0 hxx hT hx e1 hT2
  go_enter Tryz.func10,Tryz.ntmps10
  go_wp2_with fail
  go_quiet (fail)
  go_wp2_with fail
  go_quiet (fail)
  go_wp2
  ·go_ret
   exact⟨ret_int (within_small _ _ (by assumption)).symm,HT2.out,only_set2 (only_drew2 (only_refl2 w g) _) 1 _⟩
  ·go_ret
   have hn:1≤n:=by assumption
   have h:=tmod_neg hn (by assumption)
   refine⟨ret_int ?_,HT2.out,only_set2 (only_drew2 (only_refl2 w g) _) 1 _⟩
   show wrap64 _=_
   rw[IntWalk.wrap64_in _ (by omega),h.1]
   unfold within;rw[if_neg (by omega)]
  ·go_ret
   have hn:1≤n:=by assumption
   refine⟨ret_int ?_,HT2.out,only_set2 (only_drew2 (only_refl2 w g) _) 1 _⟩
   show Int.tmod _ _=_
   rw[tmod_pos hn (by assumption)]
   unfold within;rw[if_neg (by omega)]
 ·have hx0:tapeX xs I=(I:Int) % 3:=dif_neg hlt
  rw[hx0]
  obtain⟨x,hxx⟩:=zx ((I:Int) % 3)
  rw[←hxx]
  have HXX:=zh hxx
  have il:¬(I:Int)<(xs.length:Int):=by omega
  clear hx0 hxx hT hx e1 hT2
  go_enter Tryz.func10,Tryz.ntmps10
  go_wp2_with fail
  go_quiet (fail)
  go_wp2
  ·go_ret
   exact⟨ret_int (within_small _ _ (by assumption)).symm,HT2.out,only_set2 (only_drew2 (only_refl2 w g) _) 1 _⟩
  ·go_ret
   have hn:1≤n:=by assumption
   refine⟨ret_int ?_,HT2.out,only_set2 (only_drew2 (only_refl2 w g) _) 1 _⟩
   rw[HXX.out]
   unfold within;rw[if_neg (by omega)]
end Go.Proofs.YtmacgpnlcdapfaaGreat

namespace Go.Proofs.YtmacgpnlcdapfaaGreat
open Go.RowKit
set_option linter.unusedVariables false
set_option linter.unusedSimpArgs false
end Go.Proofs.YtmacgpnlcdapfaaGreat

namespace Go.Proofs.YtmacgpnlcdapfaaGreat
open Go.RowKit
set_option linter.unusedVariables false
set_option linter.unusedSimpArgs false
end Go.Proofs.YtmacgpnlcdapfaaGreat

namespace Go.Proofs.YtmacgpnlcdapfaaGreat
open Go.RowKit
set_option linter.unusedVariables false
set_option linter.unusedSimpArgs false
end Go.Proofs.YtmacgpnlcdapfaaGreat

namespace Go.Proofs.YtmacgpnlcdapfaaGreat
open Go.RowKit
set_option linter.unusedVariables false
end Go.Proofs.YtmacgpnlcdapfaaGreat

namespace Go.Proofs.YtmacgpnlcdapfaaGreat
open Go.RowKit
set_option linter.unusedVariables false
set_option linter.unusedSimpArgs false
end Go.Proofs.YtmacgpnlcdapfaaGreat

namespace Go.Proofs.YtmacgpnlcdapfaaGreat
open Go.RowKit
set_option linter.unusedVariables false
set_option linter.unusedSimpArgs false
end Go.Proofs.YtmacgpnlcdapfaaGreat

namespace Go.Proofs.YtmacgpnlcdapfaaGreat
open Go.RowKit
set_option linter.unusedVariables false
set_option linter.unusedSimpArgs false
end Go.Proofs.YtmacgpnlcdapfaaGreat

namespace Go.Proofs.YtmacgpnlcdapfaaGreat
open Go.RowKit
set_option linter.unusedVariables false
set_option linter.unusedSimpArgs false
end Go.Proofs.YtmacgpnlcdapfaaGreat

namespace Go.Proofs.YtmacgpnlcdapfaaGreat
open Go.RowKit
set_option linter.unusedVariables false
set_option linter.unusedSimpArgs false
end Go.Proofs.YtmacgpnlcdapfaaGreat

namespace Go.Proofs.YtmacgpnlcdapfaaGreat
open Go.RowKit
set_option linter.unusedVariables false
set_option linter.unusedSimpArgs false
end Go.Proofs.YtmacgpnlcdapfaaGreat

namespace Go.Proofs.YtmacgpnlcdapfaaGreat
open Go.RowKit
set_option linter.unusedVariables false
set_option linter.unusedSimpArgs false
end Go.Proofs.YtmacgpnlcdapfaaGreat

namespace Go.Proofs.YtmacgpnlcdapfaaGreat
open Go.RowKit
set_option linter.unusedVariables false
set_option linter.unusedSimpArgs false
theorem below_drewL{w w2:World} (h:Below w.drew.heap.size w.drew w2):Below w.heap.size w w2:=⟨h.os,h.tape,h.output,h.size,h.block⟩
end Go.Proofs.YtmacgpnlcdapfaaGreat

namespace Go.Proofs.YtmacgpnlcdapfaaGreat
open Go.RowKit
set_option linter.unusedVariables false
set_option linter.unusedSimpArgs false
def SlAt{α:Type} (size:Nat) (K:World→(Nat→Prop)→List Value→α→Prop) (w:World) (R:Nat→Prop) (es:List α) (b off:Nat):Prop :=
 ∀k a,es[k]?=some a→∃cs,cs.length=size∧(∀i c,cs[i]?=some c→w.cell? ⟨b,off+k * size+i,none⟩=some c)∧K w R cs a
def SlS{α:Type} (size:Nat) (K:World→(Nat→Prop)→List Value→α→Prop) (w:World) (R:Nat→Prop) (v:Value) (es:List α):Prop:=Row R v es.length (SlAt size K w R es)
structure Steady {α:Type} (K:World→(Nat→Prop)→List Value→α→Prop):Prop where
 keep:∀{w w':World} {R:Nat→Prop} {cs:List Value} {a:α},Kept R w w'→K w R cs a→K w' R cs a
 mono:∀{w:World} {R R':Nat→Prop} {cs:List Value} {a:α},(∀b,R b→R' b)→K w R cs a→K w R' cs a
theorem SlS.keep{α:Type} {size:Nat} {K:World→(Nat→Prop)→List Value→α→Prop} (hK:Steady K) {w w':World} {R:Nat→Prop} {v:Value} {es:List α} (h:SlS size K w R v es) (hk:Kept R w w'):SlS size K w' R v es :=
 Row.imp h (fun _ hb=>hb) fun b off hb hc k a ha=>by
  obtain⟨cs,h1,h2,h3⟩:=hc k a ha
  exact⟨cs,h1,fun i c hi=>(hk.cell hb).trans (h2 i c hi),hK.keep hk h3⟩
theorem SlS.mono{α:Type} {size:Nat} {K:World→(Nat→Prop)→List Value→α→Prop} (hK:Steady K) {w:World} {R R':Nat→Prop} {v:Value} {es:List α} (h:SlS size K w R v es) (hr:∀b,R b→R' b):SlS size K w R' v es :=
 Row.imp h hr fun b off _ hc k a ha=>by
  obtain⟨cs,h1,h2,h3⟩:=hc k a ha
  exact⟨cs,h1,h2,hK.mono hr h3⟩
theorem SlS.below{α:Type} {size:Nat} {K:World→(Nat→Prop)→List Value→α→Prop} (hK:Steady K) {w w':World} {v:Value} {es:List α} (h:SlS size K w (Bl w.heap.size) v es) (hb:Below w.heap.size w w'):SlS size K w' (Bl w'.heap.size) v es :=
 SlS.mono hK (SlS.keep hK h (kept_below hb)) (Bl.mono hb.size)
theorem SlS.form{α:Type} {size:Nat} {K:World→(Nat→Prop)→List Value→α→Prop} {w:World} {R:Nat→Prop} {v:Value} {es:List α} (h:SlS size K w R v es):∃A c,v=.slice A es.length c∧es.length≤c∧es.length≤maxLen:=by
 obtain⟨A',c',e,h1,h2,h3⟩:=h
 exact⟨A',c',e,h1,h2⟩
theorem SlS.at_{α:Type} {size:Nat} {K:World→(Nat→Prop)→List Value→α→Prop} {w:World} {R:Nat→Prop} {A:Option Addr} {n c:Nat} {es:List α} (h:SlS size K w R (.slice A n c) es) {k:Nat} (hk:k<es.length) :
  ∃b off cs,A=some ⟨b,off,none⟩∧R b∧cs.length=size∧(∀i c,cs[i]?=some c→w.cell? ⟨b,off+k * size+i,none⟩=some c)∧K w R cs es[k]:=by
 obtain⟨A',c',e,_,_,h3⟩:=h
 obtain⟨b,off,e2,hb,hc⟩:=h3 (by omega)
 obtain⟨cs,g1,g2,g3⟩:=hc k es[k] (List.getElem?_eq_getElem hk)
 injection e with e
 exact⟨b,off,cs,e.trans e2,hb,g1,g2,g3⟩
def StrK(w:World) (R:Nat→Prop) (cs:List Value) (s:ByteArray):Prop:=cs=[.string s]∧s.size≤maxLen
theorem strK:Steady StrK:=⟨fun _ h=>h,fun _ h=>h⟩
theorem four{cs:List Value} {a b c d:Value} {w:World} {p o:Nat} (h:∀i c,cs[i]?=some c→w.cell? ⟨p,o+i,none⟩=some c) (e:cs=[a,b,c,d]) :
  w.cell? ⟨p,o,none⟩=some a∧w.cell? ⟨p,o+1,none⟩=some b∧w.cell? ⟨p,o+2,none⟩=some c∧w.cell? ⟨p,o+3,none⟩=some d:=by
 subst e
 exact⟨h 0 _ rfl,h 1 _ rfl,h 2 _ rfl,h 3 _ rfl⟩
end Go.Proofs.YtmacgpnlcdapfaaGreat

namespace Go.Proofs.YtmacgpnlcdapfaaGreat
open Go.RowKit
set_option linter.unusedVariables false
set_option linter.unusedSimpArgs false
theorem IntS.form7{w:World} {R:Nat→Prop} {v:Value} {xs:List Int} (h:IntS w R v xs):∃A c,v=.slice A xs.length c∧xs.length≤c∧xs.length≤maxLen:=by
 obtain⟨⟨A,c,h1,h2,h3,-⟩,-⟩:=h
 exact⟨A,c,h1,h2,h3⟩
theorem IntS.at7{w:World} {R:Nat→Prop} {A:Option Addr} {n c:Nat} {xs:List Int} (h:IntS w R (.slice A n c) xs) {k:Nat} (hk:k<xs.length):∃b off,A=some ⟨b,off,none⟩∧R b∧w.cell? ⟨b,off+k,none⟩=some (.int .i64 xs[k])∧I64 xs[k]:=by
 obtain⟨⟨A',c',e,_,_,h3⟩,h4⟩:=h
 obtain⟨b,off,e2,hb,hc⟩:=h3 (by omega)
 injection e with e
 exact⟨b,off,e.trans e2,hb,hc k _ (List.getElem?_eq_getElem hk),h4 _ (List.getElem_mem hk)⟩
end Go.Proofs.YtmacgpnlcdapfaaGreat

namespace Go.Proofs.YtmacgpnlcdapfaaGreat
open Go.RowKit
set_option linter.unusedVariables false
set_option linter.unusedSimpArgs false
end Go.Proofs.YtmacgpnlcdapfaaGreat

namespace Go.Proofs.YtmacgpnlcdapfaaGreat
open Go.RowKit
set_option linter.unusedVariables false
set_option linter.unusedSimpArgs false
end Go.Proofs.YtmacgpnlcdapfaaGreat

namespace Go.Proofs.YtmacgpnlcdapfaaGreat
open Go.RowKit
set_option linter.unusedVariables false
set_option linter.unusedSimpArgs false
end Go.Proofs.YtmacgpnlcdapfaaGreat

namespace Go.Proofs.YtmacgpnlcdapfaaGreat
open Go.RowKit
set_option linter.unusedVariables false
set_option linter.unusedSimpArgs false
end Go.Proofs.YtmacgpnlcdapfaaGreat

namespace Go.Proofs.YtmacgpnlcdapfaaGreat
open Go.RowKit
set_option linter.unusedVariables false
set_option linter.unusedSimpArgs false
end Go.Proofs.YtmacgpnlcdapfaaGreat

namespace Go.Proofs.YtmacgpnlcdapfaaGreat
open Go.RowKit
set_option linter.unusedVariables false
set_option linter.unusedSimpArgs false
end Go.Proofs.YtmacgpnlcdapfaaGreat

namespace Go.Proofs.YtmacgpnlcdapfaaGreat
open Go.RowKit
open Go.ChangeMaps Go.MapKept Go.WideShapes
open Go.WideElems (Fit rd rg pl rd_key rd_val rg_of)
open Go.Maps (Keyed)
set_option linter.unusedVariables false
set_option linter.unusedSimpArgs false
def kv(a b:Int):Value:=.agg #[.int .i64 a,.int .i64 b]
def rawR(v:Value):Option (DataW Value×List MemPlace):=some (.held v,[])
theorem rawR_inj{v:Value} {d:DataW Value} {ps:List MemPlace} (h:rawR v=some (d,ps)):d=.held v:=by
 unfold rawR at h
 injection h with h
 injection h with h1 h2
 exact h1.symm
theorem held_inj{a b:Value} (h:(DataW.held a:DataW Value)=.held b):a=b:=by injection h
section
variable {w : World} {kt t e : TypeId} {b n : Nat} {f : Int → Int → Option Value} {x y : Int} {z : Value}
end
section
variable {w : World} {ops : Array Oper} {rest : List Oper} {o : Oper} {a : Act} {Q : Exit → Act → World → Prop}
end
end Go.Proofs.YtmacgpnlcdapfaaGreat

namespace Go.Proofs.YtmacgpnlcdapfaaGreat
open Go.RowKit
open Go.ChangeMaps Go.MapKept Go.WideShapes
open Go.Maps (Keyed)
set_option linter.unusedVariables false
set_option linter.unusedSimpArgs false
section
variable {w : World} {ops : Array Oper} {rest : List Oper} {o : Oper} {a : Act} {Q : Exit → Act → World → Prop}
end
noncomputable def gotten (kt : TypeId) (D : DataW Value) (left : Lit → Bool) (z : Value) : Int → Int → Option Value := fun x y =>
  match keyOf Tryz.prog kt (kv x y) with
  | some l => if Maps.has D l = true ∧ left l = false then some z else none
  | none => none
end Go.Proofs.YtmacgpnlcdapfaaGreat

namespace Go.Proofs.YtmacgpnlcdapfaaGreat
open Go.RowKit
open Go.Maps (Keyed)
set_option linter.unusedVariables false
set_option linter.unusedSimpArgs false
end Go.Proofs.YtmacgpnlcdapfaaGreat

namespace Go.Proofs.YtmacgpnlcdapfaaGreat
open Go.RowKit
set_option linter.unusedVariables false
set_option linter.unusedSimpArgs false
end Go.Proofs.YtmacgpnlcdapfaaGreat

namespace Go.Proofs.YtmacgpnlcdapfaaGreat
open Go.RowKit
set_option linter.unusedVariables false
set_option linter.unusedSimpArgs false
end Go.Proofs.YtmacgpnlcdapfaaGreat

namespace Go.Proofs.YtmacgpnlcdapfaaGreat
open Go.RowKit
set_option linter.unusedVariables false
set_option linter.unusedSimpArgs false
end Go.Proofs.YtmacgpnlcdapfaaGreat

namespace Go.Proofs.YtmacgpnlcdapfaaGreat
open Go.RowKit
set_option linter.unusedVariables false
set_option linter.unusedSimpArgs false
def u32V(x:Nat):Value:=.int .u32 (x:Int)
def LS(w:World) (R:Nat→Prop) (v:Value) (l:List Nat):Prop :=
 ((v=.slice none 0 0∧l=[])∨∃b off c,v=.slice (some ⟨b,off,none⟩) l.length c∧l.length≤c∧c≤maxLen∧R b∧∀k x,l[k]?=some x→w.cell? ⟨b,off+k,none⟩=some (u32V x))∧(∀x∈l,x<4294967296)
theorem LS.keep{w w':World} {R:Nat→Prop} {v:Value} {l:List Nat} (h:LS w R v l) (hk:Kept R w w'):LS w' R v l:=by
 refine⟨?_,h.2⟩
 rcases h.1 with h1 | ⟨b,off,c,h1,h2,h3,h4,h5⟩
 ·exact .inl h1
 ·exact .inr ⟨b,off,c,h1,h2,h3,h4,fun k x hx=>(hk.cell h4).trans (h5 k x hx)⟩
theorem LS.mono{w:World} {R R':Nat→Prop} {v:Value} {l:List Nat} (h:LS w R v l) (hr:∀b,R b→R' b):LS w R' v l:=by
 refine⟨?_,h.2⟩
 rcases h.1 with h1 | ⟨b,off,c,h1,h2,h3,h4,h5⟩
 ·exact .inl h1
 ·exact .inr ⟨b,off,c,h1,h2,h3,hr b h4,h5⟩
theorem LS.below{w w':World} {v:Value} {l:List Nat} (h:LS w (Bl w.heap.size) v l) (hb:Below w.heap.size w w'):LS w' (Bl w'.heap.size) v l:=(h.keep (kept_below hb)).mono (Bl.mono hb.size)
theorem LS.form{w:World} {R:Nat→Prop} {v:Value} {l:List Nat} (h:LS w R v l):∃A c,v=.slice A l.length c∧l.length≤c∧l.length≤maxLen:=by
 rcases h.1 with ⟨rfl,rfl⟩ | ⟨b,off,c,h1,h2,h3,h4,h5⟩
 ·exact⟨none,0,rfl,Nat.le_refl _,by unfold maxLen;simp⟩
 ·exact⟨_,c,h1,h2,Nat.le_trans h2 h3⟩
theorem LS.at_{w:World} {R:Nat→Prop} {A:Option Addr} {n c:Nat} {l:List Nat} (h:LS w R (.slice A n c) l) {k:Nat} (hk:k<l.length):∃b off,A=some ⟨b,off,none⟩∧R b∧w.cell? ⟨b,off+k,none⟩=some (.int .u32 (l[k]:Int))∧l[k]<4294967296:=by
 rcases h.1 with ⟨_,rfl⟩ | ⟨b,off,c',h1,h2,h3,h4,h5⟩
 ·cases hk
 ·injection h1 with h1
  exact⟨b,off,h1,h4,h5 k _ (List.getElem?_eq_getElem hk),h.2 _ (List.getElem_mem hk)⟩
theorem LS.nil(w:World) (R:Nat→Prop):LS w R (.slice none 0 0) []:=⟨.inl ⟨rfl,rfl⟩,fun x h=>by cases h⟩
def OwnL(w:World) (base:Nat) (v:Value) (l:List Nat):Prop:=w.ownsRow base 234 1 v l.length (l.map u32V)
theorem OwnL.nil(w:World) (base:Nat):OwnL w base (.slice none 0 0) []:=World.ownsRow_nil _ _ _ _
theorem OwnL.base{w:World} {B B':Nat} {v:Value} {l:List Nat} (h:OwnL w B v l) (hB:B'≤B):OwnL w B' v l:=own_base h hB
theorem OwnL.below{w w2:World} {base:Nat} {v:Value} {l:List Nat} (h:OwnL w base v l) (hb:Below w.heap.size w w2):OwnL w2 base v l:=own_below h hb
theorem OwnL.ls{w:World} {base:Nat} {v:Value} {l:List Nat} (h:OwnL w base v l) (hx:∀x∈l,x<4294967296):LS w (Fr base w.heap.size) v l:=by
 have h1:w.ownsRow base 234 1 v l.length (l.map u32V):=h
 have hc:=fun g=>h1.cells (g:=g)
 have hlt:=h1.lt
 refine⟨?_,hx⟩
 rcases h1.2 with ⟨rfl,h0⟩ | ⟨g,cap,cur,rfl,_,_,h2,h3,_⟩
 ·exact .inl ⟨rfl,List.eq_nil_of_length_eq_zero h0⟩
 ·refine .inr ⟨g,0,cap,rfl,h2,h3,hlt g rfl,fun k x hk=>?_⟩
  have:=hc g rfl k (u32V x) (by simp[hk])
  rw[←this]
  unfold Addr.add;split <;> simp_all
theorem OwnL.lsBl{w:World} {base:Nat} {v:Value} {l:List Nat} (h:OwnL w base v l) (hx:∀x∈l,x<4294967296):LS w (Bl w.heap.size) v l:=(h.ls hx).mono (fun _ hb=>hb.2)
theorem info_u32:(Tryz.prog.info? 234).map (fun i=>(i.zero,i.size,i.bytes))=some (some (.int .u32 0),1,4):=by kernel_rfl
def trimL(l:List Nat):List Nat:=(l.reverse.dropWhile (·==0)).reverse
theorem dropWhile_zeros:∀(a b:List Nat),(∀x∈a,x=0)→(a++b).dropWhile (·==0)=b.dropWhile (·==0)
 | [],_,_=>rfl
 | x :: a,b,h=>by
  have hx:x=0:=h x (by simp)
  subst hx
  simp only[List.cons_append,List.dropWhile_cons]
  exact dropWhile_zeros a b (fun y hy=>h y (List.mem_cons_of_mem _ hy))
theorem trim_at(l:List Nat) (j:Nat) (hj:j≤l.length) (hz:∀i (h:i<l.length),j≤i→l[i]=0) (hn:∀k (h:k<l.length),j=k+1→l[k]≠0):trimL l=l.take j:=by
 unfold trimL
 have e:l.reverse=(l.drop j).reverse++(l.take j).reverse:=by rw[←List.reverse_append,List.take_append_drop]
 rw[e,dropWhile_zeros]
 ·cases j with
  | zero=>simp
  | succ k =>
   have hk:k<l.length:=by omega
   have h1:(l.take (k+1)).reverse=l[k] :: (l.take k).reverse:=by rw[List.take_succ_eq_append_getElem hk,List.reverse_append];rfl
   have h2:(l[k]==0)=false:=by simpa using hn k hk rfl
   rw[h1,List.dropWhile_cons,h2]
   simp only[Bool.false_eq_true,if_false]
   rw[←h1,List.reverse_reverse]
 ·intro x hx
  rw[List.mem_reverse] at hx
  obtain⟨i,hi,rfl⟩:=List.getElem_of_mem hx
  rw[List.getElem_drop]
  exact hz _ _ (by omega)
theorem trimL_length(l:List Nat):(trimL l).length≤l.length:=by
 unfold trimL
 rw[List.length_reverse]
 exact Nat.le_trans (List.dropWhile_sublist _).length_le (by simp)
def natL(n:Nat):List Nat:=if n=0 then [] else [n]
theorem natL_zero:natL 0=[]:=rfl
theorem natL_pos{n:Nat} (h:0<n):natL n=[n]:=if_neg (by omega)
theorem trim_natL(n:Nat):trimL (natL n)=natL n:=by
 by_cases h:n=0
 ·subst h;rfl
 ·rw[natL_pos (by omega)];simp[trimL,h]
theorem trim_two(n:Nat):trimL [n,0]=natL n:=by
 by_cases h:n=0
 ·subst h;rfl
 ·rw[natL_pos (by omega)];simp[trimL,h]
theorem natL_mem{n:Nat} (h:n<4294967296):∀x∈natL n,x<4294967296:=by
 intro x hx
 unfold natL at hx
 split at hx
 ·cases hx
 ·simp at hx;omega
theorem natL_length(n:Nat):(natL n).length≤1:=by unfold natL;split <;> simp
theorem below_none{w w':World} (hg:w.grownBy w' (Value.slice none 0 0).ownBlock):Below w.heap.size w w':=⟨hg.os,hg.tape,hg.output,hg.size,fun k hk=>hg.block k hk (fun e=>by cases e)⟩
theorem trim_any(v:Value) (l:List Nat) (R:Nat→Prop) (w:World) (h:LS w R v l) (hR:∀b,R b→b<w.heap.size) (hl:l.length≤1048576) :
  Calls Tryz.prog 111 #[v] w fun e w'=>∃u,e=.returned u∧OwnL w' w.heap.size u (trimL l)∧Below w.heap.size w w':=by
 obtain⟨i0,hi0,hz0,hz1,hz2⟩:=info_parts info_u32
 have HL:=zh h
 rcases h.1 with ⟨rfl,rfl⟩ | ⟨b,off,c,rfl,hlc,hcm,hRb,hcs⟩
 ·clear h
  go_enter Tryz.func111,Tryz.ntmps111
  go_wp2_with fail
  go_loopg [3] 0 (fun z v3 wr=>w=wr∧v3=.int .i64 0)
  case atStart=>exact⟨rfl,rfl⟩
  case round =>
   obtain⟨rfl,rfl⟩:=hrel
   go_wp2_with (at_builtin;refine wpList_append_own_none rfl _ _ _ rfl w.heap.size 234 i0 1 Tryz.underlying53 hi0 (.slice none 0 0) 0 [] (by rfl) (World.ownsRow_nil _ _ _ _) (by rfl) ?_)
   go_ret
   exact⟨_,rfl,OwnL.nil _ _,Below.refl _ _⟩
 ·clear h
  unfold maxLen at hcm
  have hRl:=hR b hRb
  have HCS:=zh hcs
  clear hcs
  go_enter Tryz.func111,Tryz.ntmps111
  go_wp2_with fail
  go_loopg [3] l.length (fun z v3 wr=>w=wr∧∃j:Nat,j≤l.length∧z=0+j∧v3=.int .i64 (j:Int)∧Hid (∀i (h:i<l.length),j≤i→l[i]=0))
  case atStart=>exact⟨rfl,l.length,Nat.le_refl _,(Nat.zero_add _).symm,rfl,fun i h h2=>by omega⟩
  case round =>
   obtain⟨rfl,j,hj,rfl,rfl,HZ⟩:=hrel
   by_cases h0:j=0
   ·subst h0
    have htl:trimL l=l.take 0:=trim_at l 0 hj HZ.out (fun k _ e=>by omega)
    have HT:=zh htl
    have hnews:∀j2 u,((l.take 0).map u32V)[j2]?=some u→w.cell? ((⟨b,off,none⟩:Addr).add j2)=some u:=by
     intro j2 u hu
     have e1:(⟨b,off,none⟩:Addr).add j2=⟨b,off+j2,none⟩:=by unfold Addr.add;split <;> simp_all
     rw[e1]
     rw[List.getElem?_map] at hu
     cases hx:(l.take 0)[j2]? with
     | none=>rw[hx] at hu;cases hu
     | some x =>
      rw[hx] at hu
      injection hu with hu
      rw[←hu]
      refine HCS.out j2 x ?_
      rw[List.getElem?_take] at hx
      split at hx
      ·exact hx
      ·cases hx
    have hlt:((l.take 0).map u32V).length=0 * 1:=by simp <;> omega
    have HNW:=zh hnews
    have HLT:=zh hlt
    clear htl hnews hlt
    go_wp2_with (at_builtin;refine wpList_append_own_at (P:=Tryz.prog) _ rfl _ _ _ rfl w.heap.size 234 i0 _ 1 4 Tryz.underlying53 hi0 hz0 hz1 hz2 rfl (by decide) (.slice none 0 0) 0 [] (by rfl) (World.ownsRow_nil _ _ _ _) ⟨b,off,none⟩ 0 c ((l.take 0).map u32V) (by rfl) HLT.out HNW.out (fun u hu=>by obtain⟨x,-,rfl⟩:=List.mem_map.1 hu;rfl) (by unfold maxLen;omega) (by omega) (Nat.le_refl _) ?_;intro v' w' hown' hg' _ hat')
    go_ret
    refine⟨_,rfl,?_,below_none hg'⟩
    have h2:=hown'
    rw[Nat.zero_add,List.nil_append] at h2
    unfold OwnL
    rw[HT.out,show(l.take 0).length=0 by simp]
    exact h2
   ·obtain⟨k,rfl⟩:∃k,j=k+1:=⟨j - 1,by omega⟩
    have hkl:k<l.length:=by omega
    have hck:=HCS.out k l[k] (List.getElem?_eq_getElem hkl)
    unfold u32V at hck
    have hpos:(0:Int)<((k+1:Nat):Int):=by omega
    have hsub:IntKind.i64.wrap (((k+1:Nat):Int) - 1)=(k:Int):=by rw[show((k+1:Nat):Int) - 1=(k:Int) by omega];exact IntWalk.i64_in _ (by omega)
    have hi0':(0:Int)≤(k:Int):=by omega
    have hi1':(k:Int)<(l.length:Int):=by omega
    have hz2':l[k]=0→∀i (h:i<l.length),k≤i→l[i]=0:=fun e i h1 h2=>by
     by_cases e2:i=k
     ·subst e2;exact e
     ·exact HZ.out i h1 (by omega)
    have hnz:l[k]≠0→trimL l=l.take (k+1):=fun e=>trim_at l (k+1) hj HZ.out (fun k2 h2 e2=>by
     have e3:k2=k:=by omega
     subst e3;exact e)
    have HZ2:=zh hz2'
    have HNZ:=zh hnz
    obtain⟨x,hx⟩:=zx (l[k])
    rw[←hx] at hck HZ2 HNZ
    obtain⟨K1,hK1⟩:=zx (k+1)
    rw[←hK1] at hpos hsub HNZ hj ⊢
    have HK1:=zh hK1
    clear hz2' hnz hx HZ hK1
    by_cases hx0:x=0
    ·have HZ3:=zh (HZ2.out hx0)
     have q1:((x:Int)==0)=true:=by simpa using hx0
     clear hx0
     go_wp2_with fail
     go_roundg k
     case measure=>omega
     case rel=>exact⟨rfl,k,by omega,(Nat.zero_add _).symm,rfl,HZ3⟩
    ·have q1:((x:Int)==0)=false:=by simpa using hx0
     have hnz2:=HNZ.out hx0
     have htl:trimL l=l.take K1:=hnz2
     have HT:=zh htl
     have hnews:∀j2 u,((l.take K1).map u32V)[j2]?=some u→w.cell? ((⟨b,off,none⟩:Addr).add j2)=some u:=by
      intro j2 u hu
      have e1:(⟨b,off,none⟩:Addr).add j2=⟨b,off+j2,none⟩:=by unfold Addr.add;split <;> simp_all
      rw[e1]
      rw[List.getElem?_map] at hu
      cases hx:(l.take K1)[j2]? with
      | none=>rw[hx] at hu;cases hu
      | some x =>
       rw[hx] at hu
       injection hu with hu
       rw[←hu]
       refine HCS.out j2 x ?_
       rw[List.getElem?_take] at hx
       split at hx
       ·exact hx
       ·cases hx
     have hlt:((l.take K1).map u32V).length=K1 * 1:=by simp <;> omega
     have HNW:=zh hnews
     have HLT:=zh hlt
     clear htl hnews hlt hnz2
     go_wp2_with (at_builtin;refine wpList_append_own_at (P:=Tryz.prog) _ rfl _ _ _ rfl w.heap.size 234 i0 _ 1 4 Tryz.underlying53 hi0 hz0 hz1 hz2 rfl (by decide) (.slice none 0 0) 0 [] (by rfl) (World.ownsRow_nil _ _ _ _) ⟨b,off,none⟩ K1 c ((l.take K1).map u32V) (by rfl) HLT.out HNW.out (fun u hu=>by obtain⟨x,-,rfl⟩:=List.mem_map.1 hu;rfl) (by unfold maxLen;omega) (by omega) (Nat.le_refl _) ?_;intro v' w' hown' hg' _ hat')
     go_ret
     refine⟨_,rfl,?_,below_none hg'⟩
     have h2:=hown'
     rw[Nat.zero_add,List.nil_append] at h2
     unfold OwnL
     rw[HT.out,show(l.take K1).length=K1 by simp;omega]
     exact h2
end Go.Proofs.YtmacgpnlcdapfaaGreat
