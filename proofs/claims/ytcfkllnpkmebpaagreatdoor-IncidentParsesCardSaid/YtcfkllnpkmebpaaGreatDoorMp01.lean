/- Words on memory shared by the proofs of this seat: slices that read as lists. -/
import Derived.WalkKit
import Derived.Lib.Hide
import Derived.Maps.AppendAt
import Derived.BigQuiet
import Derived.Deep.QuietTactic
import Derived.Deep.RegionHeld
import Derived.Laws.BitsAllLaws
import Derived.IntWalk
import Derived.Test.YtcfkllnpkmebpaaGreatDoorRows
import Derived.ProofKit
import Derived.Deep.LoopGhost
import Derived.Deep.DeepCutAuto
import Derived.Deep.RegionHeld3
import Derived.Deep.RegionLaw
import Derived.StillTailTactics
import Derived.Laws.CopyOwn
import Derived.OwnWalk
import Derived.BigRegion
import Derived.Deep.Cut
set_option linter.unusedSectionVars false
set_option maxRecDepth 100000
set_option maxHeartbeats 12800000
namespace Go.Proofs.YtcfkllnpkmebpaaGreatDoor
open Go.RowKit
set_option linter.unusedVariables false
set_option linter.unusedSimpArgs false
def I64(x:Int):Prop := -9223372036854775808≤x∧x≤9223372036854775807
def Bl(B:Nat) (b:Nat):Prop:=b<B
def Kept(R:Nat→Prop) (w w':World):Prop:=∀b,R b→w'.heap[b]?=w.heap[b]?
theorem Kept.refl(R:Nat→Prop) (w:World):Kept R w w:=fun _ _=>rfl
theorem Kept.trans{R:Nat→Prop} {a b c:World} (h:Kept R a b) (k:Kept R b c):Kept R a c:=fun x hx=>(k x hx).trans (h x hx)
theorem Kept.mono{R R':Nat→Prop} {a b:World} (h:Kept R a b) (hr:∀x,R' x→R x):Kept R' a b:=fun x hx=>h x (hr x hx)
theorem Kept.cell{R:Nat→Prop} {w w':World} (h:Kept R w w') {b o:Nat} (hb:R b):w'.cell? ⟨b,o,none⟩=w.cell? ⟨b,o,none⟩:=World.cell?_of_block (w:=w) (h b hb)
theorem kept_below{B:Nat} {w w':World} (h:Below B w w'):Kept (Bl B) w w':=fun b hb=>h.block b hb
theorem kept_below'{B B':Nat} {w w':World} (h:Below B w w') (hB:B'≤B):Kept (Bl B') w w':=fun b hb=>h.block b (Nat.lt_of_lt_of_le hb hB)
theorem kept_alloc(w:World) (o:Obj):Kept (Bl w.heap.size) w (w.alloc o):=fun b hb=>Below.heap_alloc w o b hb
theorem Bl.mono{B B':Nat} (h:B≤B'):∀b,Bl B b→Bl B' b:=fun _ hb=>Nat.lt_of_lt_of_le hb h
def Row(R:Nat→Prop) (v:Value) (n:Nat) (C:Nat→Nat→Prop):Prop :=
 ∃A c,v=.slice A n c∧n≤c∧n≤maxLen∧(0<n→∃b off,A=some ⟨b,off,none⟩∧R b∧C b off)
theorem Row.imp{R R':Nat→Prop} {v:Value} {n:Nat} {C C':Nat→Nat→Prop} (h:Row R v n C) (hr:∀b,R b→R' b) (hc:∀b off,R b→C b off→C' b off):Row R' v n C':=by
 obtain⟨A,c,h1,h2,h3,h4⟩:=h;refine⟨A,c,h1,h2,h3,fun hn=>?_⟩;obtain⟨b,off,e,hb,k⟩:=h4 hn;exact⟨b,off,e,hr b hb,hc b off hb k⟩
theorem Row.nil(R:Nat→Prop) (c:Nat) (C:Nat→Nat→Prop):Row R (.slice none 0 c) 0 C:=⟨none,c,rfl,Nat.zero_le _,Nat.zero_le _,fun h=>absurd h (by omega)⟩
def IntS(w:World) (R:Nat→Prop) (v:Value) (xs:List Int):Prop :=
 Row R v xs.length (fun b off=>∀k x,xs[k]?=some x→w.cell? ⟨b,off+k,none⟩=some (.int .i64 x))∧∀x∈xs,I64 x
theorem IntS.keep{w w':World} {R:Nat→Prop} {v:Value} {xs:List Int} (h:IntS w R v xs) (hk:Kept R w w'):IntS w' R v xs :=
 ⟨h.1.imp (fun _ hb=>hb) fun b off hb hc k x hx=>(hk.cell hb).trans (hc k x hx),h.2⟩
theorem IntS.mono{w:World} {R R':Nat→Prop} {v:Value} {xs:List Int} (h:IntS w R v xs) (hr:∀b,R b→R' b):IntS w R' v xs :=
 ⟨h.1.imp hr fun _ _ _ hc=>hc,h.2⟩
theorem IntS.nil(w:World) (R:Nat→Prop) (c:Nat):IntS w R (.slice none 0 c) []:=⟨Row.nil _ _ _,fun _ h=>by cases h⟩
theorem IntS.own{w:World} {base:Nat} {e:TypeId} {v:Value} {n:Nat} {xs:List Int} {R:Nat→Prop} (h:w.ownsRow base e 1 v n (xs.map (Value.int .i64))) (hR:∀b,v.ownBlock=some b→R b) (hx:∀x∈xs,I64 x):IntS w R v xs:=by
 have hl:xs.length=n:=by have:=h.1;simpa using this
 refine⟨?_,hx⟩
 have hc:=fun g=>h.cells (g:=g)
 rcases h.2 with ⟨rfl,rfl⟩ | ⟨g,cap,cur,rfl,_,_,h2,h3,_⟩
 ·rw[hl];exact Row.nil _ _ _
 ·rw[hl];refine⟨_,cap,rfl,h2,Nat.le_trans h2 h3,fun _=>⟨g,0,rfl,hR g rfl,fun k x hk=>?_⟩⟩;have:=hc g rfl k (.int .i64 x) (by simp[hk]);rw[←this];unfold Addr.add;split <;> simp_all
def bys(l:List UInt8):List Value:=l.map fun b=>Value.int .u8 (b.toNat:Int)
theorem bys_snoc(l:List UInt8) (c:UInt8):bys (l++[c])=bys l++[.int .u8 (c.toNat:Int)]:=by simp[bys]
def ByS(w:World) (R:Nat→Prop) (v:Value) (l:List UInt8):Prop :=
 Row R v l.length (fun b off=>∀k x,l[k]?=some x→w.cell? ⟨b,off+k,none⟩=some (.int .u8 (x.toNat:Int)))
theorem ByS.keep{w w':World} {R:Nat→Prop} {v:Value} {l:List UInt8} (h:ByS w R v l) (hk:Kept R w w'):ByS w' R v l :=
 h.imp (fun _ hb=>hb) fun b off hb hc k x hx=>(hk.cell hb).trans (hc k x hx)
theorem ByS.mono{w:World} {R R':Nat→Prop} {v:Value} {l:List UInt8} (h:ByS w R v l) (hr:∀b,R b→R' b):ByS w R' v l:=h.imp hr fun _ _ _ hc=>hc
theorem ByS.own{w:World} {base:Nat} {e:TypeId} {v:Value} {n:Nat} {l:List UInt8} {R:Nat→Prop} (h:w.ownsRow base e 1 v n (bys l)) (hR:∀b,v.ownBlock=some b→R b):ByS w R v l:=by
 have hl:l.length=n:=by have:=h.1;simpa[bys] using this
 have hc:=fun g=>h.cells (g:=g)
 unfold ByS;rcases h.2 with ⟨rfl,rfl⟩ | ⟨g,cap,cur,rfl,_,_,h2,h3,_⟩
 ·rw[hl];exact Row.nil _ _ _
 ·rw[hl];refine⟨_,cap,rfl,h2,Nat.le_trans h2 h3,fun _=>⟨g,0,rfl,hR g rfl,fun k x hk=>?_⟩⟩;have:=hc g rfl k (.int .u8 (x.toNat:Int)) (by simp[bys,hk]);rw[←this];unfold Addr.add;split <;> simp_all
theorem ByS.conv{P:Program} {w:World} {R:Nat→Prop} {v:Value} {l:List UInt8} (h:ByS w R v l) {src dst e:TypeId} (hs:P.underlying src=some (.slice e)) (he:P.underlying e=some (.int .u8)) (hd:P.underlying dst=some .string) :
  (convert src dst v).run P w=.ok (.string ⟨l.toArray⟩) w:=by
 obtain⟨A,c,rfl,h1,h2,h3⟩:=h;by_cases h0:0<l.length
 ·obtain⟨b,off,rfl,_,hc⟩:=h3 h0
  refine run_convert_bytes_back w src dst e _ c l hs he hd fun j hj=>?_
  have:=hc j l[j] (List.getElem?_eq_getElem hj);rw[←this];unfold Addr.add;split <;> simp_all
 ·have hn:l=[]:=List.eq_nil_of_length_eq_zero (by omega);subst hn
  cases A with
  | none=>exact run_convert_bytes_nil w src e hs he _ _ dst hd
  | some ad=>exact run_convert_bytes_back w src dst e ad c [] hs he hd fun j hj=>absurd hj (by simp)
theorem ByS.lit(w:World) (l:List UInt8) (t:TypeId) (hl:l.length≤maxLen):ByS (w.alloc (.cells (bys l).toArray t)) (Bl (w.heap.size+1)) (.slice (some ⟨w.heap.size,0,none⟩) l.length l.length) l :=
 ⟨_,_,rfl,Nat.le_refl _,hl,fun _=>⟨_,_,rfl,Nat.lt_succ_self _,fun k x hk=>by
  rw[Nat.zero_add,cell_of_row _ _ _ _ _ _ (heap_alloc_new w _)]
  simp[bys,hk]⟩⟩
theorem wpList_append1{P:Program} {ops:Array Oper} {rest:List Oper} {o:Oper} {a:Act} {Q:Exit→Act→World→Prop} {w:World} {cs:Array Value} {e:TypeId} (hgd:o.guard=none) (s x:Operand) (t:TypeId)
  (ho:o.op=.call { callee:=.builtin .append,args:=#[s,x],argTypes:=#[t,t] })
  (base:Nat) (i:TypeInfo) (z:Value) (size bytes:Nat) (ht:P.underlying t=some (.slice e)) (hi:P.info? e=some i) (hz:i.zero=some z)
  (hsize:i.size=size) (hby:i.bytes=bytes) (hzs:z.cells.size=size) (hsz:0<size) (hbs:bytes≤4096)
  (v:Value) (n:Nat) (xs:List Value) (hs:a.eval s=v) (hown:w.ownsRow base e size v n xs)
  (hx:a.eval x=.slice (some ⟨w.heap.size,0,none⟩) 1 1) (hcs:cs.size=size) (h1:∀u∈cs.toList,u.oneCell'=true)
  (hn:n+1≤16777216) (hbase:base≤w.heap.size)
  (h:∀v' w',w'.ownsRow base e size v' (n+1) (xs++cs.toList)→w.grownBy w' v.ownBlock→(v'.ownBlock=v.ownBlock∨v'.ownBlock=some (w.heap.size+1))→wpList P ops Q rest (a.put o.dst v') w') :
  wpList P ops Q (o :: rest) a (w.alloc (.cells cs e)):=by
 refine wpList_append_own_at (P:=P) _ hgd s x t ho base e i z size bytes ht hi hz hsize hby hzs hsz v n xs hs (hown.alloc _) ⟨w.heap.size,0,none⟩ 1 1 cs.toList hx (by simp[hcs]) ?_ h1 (by unfold maxLen;omega) ?_ (by simp;omega) ?_
 ·intro j u hj
  have e1:(⟨w.heap.size,0,none⟩:Addr).add j=⟨w.heap.size,j,none⟩:=by unfold Addr.add;split <;> simp_all
  rw[e1,cell_of_row _ _ _ _ _ _ (heap_alloc_new w _)]
  simpa using hj
 ·calc (n+1) * bytes≤16777216 * 4096:=Nat.mul_le_mul hn hbs
   _≤140737488355328:=by decide
 ·intro v' w' h2 h3 _ h5;refine h v' w' h2 ⟨h3.os,h3.tape,h3.output,Nat.le_trans (by simp) h3.size,fun k hk hne=>(h3.block k (by simp;omega) hne).trans (Below.heap_alloc w _ k hk)⟩ ?_
  simpa using h5
theorem Below.on{B:Nat} {w W w2:World} (h1:Below B w W) (hB:B≤W.heap.size) (h:Below W.heap.size W w2):Below B w w2:=h1.trans (h.mono hB)
theorem below_box{w w2:World} {o:Obj} (h:Below (w.alloc o).heap.size (w.alloc o) w2):Below w.heap.size w w2 :=
 Below.on ((Below.refl w.heap.size w).alloc (Nat.le_refl _) o) (by simp) h
theorem below_boxd{w w2:World} {o:Obj} (h:Below (w.alloc o).drew.heap.size (w.alloc o).drew w2):Below w.heap.size w w2 :=
 Below.on (((Below.refl w.heap.size w).alloc (Nat.le_refl _) o).drew) (by simp) h
theorem ret_int{k:IntKind} {a b:Int} (h:a=b):Ending.returned (.int k a)=.returned (.int k b):=by rw[h]
theorem ret_bool{a b:Bool} (h:a=b):Ending.returned (.bool a)=.returned (.bool b):=by rw[h]
theorem bcell{W w1:World} (hb:Below W.heap.size W w1):(∀b o,b<W.heap.size→w1.cell? ⟨b,o,none⟩=W.cell? ⟨b,o,none⟩)∧(∀b o,b<W.heap.size→w1.frozen? ⟨b,o,none⟩=W.frozen? ⟨b,o,none⟩) :=
 ⟨fun b o h=>hb.cell (p:=⟨b,o,none⟩) h,fun b o h=>hb.frozen (p:=⟨b,o,none⟩) h⟩
theorem Below.drewN'{B:Nat} {a w:World} (h:Below B a w) (n:Nat):Below B a (w.drewN n):=⟨h.os,h.tape,h.output,h.size,h.block⟩
end Go.Proofs.YtcfkllnpkmebpaaGreatDoor

namespace Go.Proofs.YtcfkllnpkmebpaaGreatDoor
open Go.RowKit
set_option linter.unusedVariables false
set_option linter.unusedSimpArgs false
section
variable {P : Program} {ops : Array Oper} {Q : Exit → Act → World → Prop} {md : Region.Mode} {S : World → Prop} {T : List Nat}
def wpTail(P:Program) (md:Region.Mode) (ops:Array Oper) (Q:Exit→Act→World→Prop) (S:World→Prop) (T:List Nat):Nat→Array Bool→Act→World→Prop
 | 0,l,a,w=>Region.ready md ops l=[]∧Q .normal a w
 | n+1,l,a,w=>(Region.ready md ops l=[]→Q .normal a w) ∧
  ∀i∈Region.ready md ops l,wpOp P ops Q i (fun a' w'=>(i∉T→S w')∧wpTail P md ops Q S T n (l.setIfInBounds i true) a' w') a w
theorem wpAny_of_tail:∀(n:Nat) (l:Array Bool) (a:Act) (w:World),wpTail P md ops Q S T n l a w→wpAny P md ops Q n l a w
 | 0,_,_,_,h=>h
 | n+1,_,_,_,h=>⟨h.1,fun i hi=>wpOp_mono (fun a' w' h'=>wpAny_of_tail n _ a' w' h'.2) (h.2 i hi)⟩
def Closed(md:Region.Mode) (ops:Array Oper) (l:Array Bool):Prop:=∀k o,ops[k]?=some o→l.getD k true=true→∀e∈o.after,Region.binds md e=true→l.getD e.on true=true
theorem getD_ft{l:Array Bool} {k:Nat} (h:l.getD k false=true):l.getD k true=true:=by
 rcases Nat.lt_or_ge k l.size with h1 | h1
 ·simp[Array.getD,h1] at h ⊢;exact h
 ·unfold Array.getD;rw[dif_neg (by omega)]
theorem Closed.start:Closed md ops (Array.replicate ops.size false):=fun k o ho hk=>by
 have h1:k<ops.size:=(Array.getElem?_eq_some_iff.1 ho).1;simp[Array.getD,h1] at hk
theorem Closed.set_{l:Array Bool} (h:Closed md ops l) {i:Nat} (hr:i∈Region.ready md ops l):Closed md ops (l.setIfInBounds i true):=by
 have hmono:∀k,l.getD k true=true→(l.setIfInBounds i true).getD k true=true:=fun k hk=>by
  by_cases e:i=k
  ·subst e;rcases Nat.lt_or_ge i l.size with h1 | h1
   ·simp[Array.getD,h1]
   ·simp[Array.getD,h1]
  ·rw[getD_set_ne true e];exact hk
 intro k o ho hk e he hb;by_cases hki:i=k
 ·subst hki;obtain⟨_,o',ho',hall⟩:=mem_ready.1 hr;rw[ho] at ho';injection ho' with ho';subst ho';have h1:=hall e he hb;exact hmono _ (getD_ft h1)
 ·rw[getD_set_ne true hki] at hk;exact hmono _ (h k o ho hk e he hb)
def reach(md:Region.Mode) (ops:Array Oper) (i:Nat):Nat→Nat→Bool
 | 0,_=>false
 | n+1,t=>match ops[t]? with
  | some o=>(o.after.toList.any fun e=>Region.binds md e&&e.on==i)||(o.after.toList.any fun e=>Region.binds md e&&reach md ops i n e.on)
  | none=>false
theorem reach_spec{i:Nat} {l:Array Bool} (hc:Closed md ops l) (hi:l.getD i true=false):∀(n t:Nat),reach md ops i n t=true→∃o,ops[t]?=some o∧∃e∈o.after,Region.binds md e=true∧l.getD e.on true=false:=by
 intro n
 induction n with
 | zero=>intro t h;simp[reach] at h
 | succ n ih =>
  intro t h;unfold reach at h
  cases ho:ops[t]? with
  | none=>rw[ho] at h;cases h
  | some o =>
   rw[ho] at h;refine⟨o,rfl,?_⟩;simp only[Bool.or_eq_true] at h;rcases h with h | h
   ·obtain⟨e,he,h2⟩:=List.any_eq_true.1 h;rw[Bool.and_eq_true] at h2
    have h3:e.on=i:=by simpa using h2.2
    exact⟨e,by simpa using he,h2.1,by rw[h3];exact hi⟩
   ·obtain⟨e,he,h2⟩:=List.any_eq_true.1 h;rw[Bool.and_eq_true] at h2;obtain⟨o2,ho2,e2,he2,hb2,hl2⟩:=ih e.on h2.2;refine⟨e,by simpa using he,h2.1,?_⟩
    cases hl:l.getD e.on true with
    | false=>rfl
    | true=>rw[hc e.on o2 ho2 hl e2 he2 hb2] at hl2;cases hl2
def waits(md:Region.Mode) (ops:Array Oper) (T:List Nat) (i:Nat):Bool:=T.all fun t=>reach md ops i 4 t
theorem wpTail_first{i:Nat} {oi:Oper} {v:Value} (hi:ops[i]?=some oi) (hsel:∀(j:Nat) (o:Oper) cs b,ops[j]?=some o→o.op≠.select cs b)
  (hQ:∀c a w,Q (.panic c) (a.put oi.dst v) w→Q (.panic c) a w) (hT:∀t∈T,reach md ops i 4 t=true) :
  ∀(n:Nat) (l:Array Bool) (a:Act) (w:World),Closed md ops l →
   (∀j oj,ops[j]?=some oj→j≠i→l.getD j true=false→(∀e∈oj.after,Region.binds md e=true→e.on≠i)→oi.apart ops oj=true) →
   i∈Region.ready md ops l→YieldsIf P ops S oi v a→S w →
   wpTail P md ops Q S T n (l.setIfInBounds i true) (a.put oi.dst v) w→wpTail P md ops Q S T (n+1) l a w:=by
 intro n
 induction n with
 | zero =>
  intro l a w _ _ hr hy hS H;refine⟨fun h=>(by rw[h] at hr;cases hr),fun j hj=>?_⟩;by_cases hji:j=i
  ·subst hji;exact hy.wpOp hi hS ⟨fun _=>hS,H⟩
  ·have:=ready_mono hj hji;rw[H.1] at this
   cases this
 | succ n ih =>
  intro l a w hcl hfree hr hy hS H;refine⟨fun h=>(by rw[h] at hr;cases hr),fun j hj=>?_⟩;by_cases hji:j=i
  ·subst hji;exact hy.wpOp hi hS ⟨fun _=>hS,H⟩
  ·have h1:=H.2 j (ready_mono hj hji);obtain⟨hjun,oj,hoj,hall⟩:=mem_ready.1 hj;have hiun:=(mem_ready.1 hr).1
   have hnot:∀e∈oj.after,Region.binds md e=true→e.on≠i:=fun e he hb heq=>by
    have h1:=hall e he hb;have h0:=hiun;rw[heq] at h1;rcases Nat.lt_or_ge i l.size with h' | h'
    ·simp[h'] at h0 h1;rw[h0] at h1;cases h1
    ·simp[Array.getElem?_eq_none h'] at h1
   have hi0:l.getD i true=false:=hiun
   have hjT:j∉T:=fun ht=>by
    obtain⟨o,ho,e,he,hb,hl⟩:=reach_spec hcl hi0 4 j (hT j ht);rw[hoj] at ho;injection ho with ho;subst ho;have h2:=hall e he hb;have h3:l.getD e.on true=true:=getD_ft h2;rw[h3] at hl
    cases hl
   have h2:=wpOp_putIf hoj (hfree j oj hoj hji hjun hnot) (fun cs b=>hsel i oi cs b hi) (fun cs b=>hsel j oj cs b hoj) hQ hy h1
   have hfree':∀k ok,ops[k]?=some ok→k≠i→(l.setIfInBounds j true).getD k true=false →
     (∀e∈ok.after,Region.binds md e=true→e.on≠i)→oi.apart ops ok=true:=fun k ok hk hki hun hno=>by
    refine hfree k ok hk hki ?_ hno;by_cases hjk:j=k
    ·subst hjk;exact hjun
    ·rw[getD_set_ne true hjk] at hun;exact hun
   refine wpOp_mono (fun a' w' h3=>⟨fun _=>h3.2.1 hjT,ih (l.setIfInBounds j true) a' w' (hcl.set_ hj) hfree' (ready_mono hr (Ne.symm hji)) h3.1 (h3.2.1 hjT) ?_⟩) h2;rw[Array.setIfInBounds_comm _ _ hji];exact h3.2.2
def Tail(P:Program) (md:Region.Mode) (ops:Array Oper) (Q:Exit→Act→World→Prop) (S:World→Prop) (T:List Nat) (n:Nat) (l:Array Bool) (a:Act) (w:World):Prop:=Closed md ops l→wpTail P md ops Q S T n l a w
theorem takeT{i d:Nat} {oi:Oper} {v:Value} {n:Nat} {l:Array Bool} {a:Act} {w:World} (hi:ops[i]?=some oi) (hd:oi.dst=some d)
  (hs:Region.noSelect ops=true) (hf:Region.free md ops l i=true) (hr:(Region.ready md ops l).contains i=true) (hT:waits md ops T i=true)
  (hQ:∀c a w,Q (.panic c) (a.put (some d) v) w→Q (.panic c) a w) (hy:YieldsIf P ops S oi v a) (hS:S w)
  (h:Tail P md ops Q S T n (l.setIfInBounds i true) (a.put (some d) v) w):Tail P md ops Q S T (n+1) l a w:=fun hc =>
 wpTail_first hi (Region.noSelect_spec hs) (by rw[hd];exact hQ) (fun t ht=>List.all_eq_true.1 hT t ht) n l a w hc (Region.free_spec hi hf) (by simpa using hr) hy hS (by rw[hd];exact h (hc.set_ (by simpa using hr)))
theorem doneT{l:Array Bool} {a:Act} {w:World} (hr:Region.ready md ops l=[]) (h:Q .normal a w):∀n,Tail P md ops Q S T n l a w
 | 0=>fun _=>⟨hr,h⟩
 | _+1=>fun _=>⟨fun _=>h,by rw[hr];simp⟩
def AllReadyT(P:Program) (md:Region.Mode) (ops:Array Oper) (Q:Exit→Act→World→Prop) (S:World→Prop) (T:List Nat) (n:Nat) (l:Array Bool) (a:Act) (w:World) (rs:List Nat):Prop :=
 ∀i∈rs,wpOp P ops Q i (fun a' w'=>(i∉T→S w')∧Tail P md ops Q S T n (l.setIfInBounds i true) a' w') a w
theorem AllReadyT.nil{n:Nat} {l:Array Bool} {a:Act} {w:World}:AllReadyT P md ops Q S T n l a w []:=fun _ h=>by cases h
theorem AllReadyT.cons{n:Nat} {l:Array Bool} {a:Act} {w:World} {i:Nat} {o:Oper} {rs:List Nat} (ho:ops[i]?=some o)
  (h:∀K':Act→World→Prop,Shut (∀a w,S w→(S w→Tail P md ops Q S T n (l.setIfInBounds i true) a w)→K' a w)→if Region.wanted o (yielded ops a.tmps)=true then Oper.wp P o a w K' Q else K' (a.put o.dst undef) w)
  (hs:AllReadyT P md ops Q S T n l a w rs):AllReadyT P md ops Q S T n l a w (i :: rs):=fun j hj=>by
 rcases List.mem_cons.1 hj with rfl | hj
 ·exact wpOp_step ho (fun K' hK=>h K' (fun a w hS hW=>hK a w ⟨fun _=>hS,hW hS⟩))
 ·exact hs j hj
theorem AllReadyT.consT{n:Nat} {l:Array Bool} {a:Act} {w:World} {i:Nat} {o:Oper} {rs:List Nat} (ho:ops[i]?=some o) (hi:T.contains i=true)
  (h:∀K':Act→World→Prop,Shut (∀a w,Tail P md ops Q S T n (l.setIfInBounds i true) a w→K' a w)→if Region.wanted o (yielded ops a.tmps)=true then Oper.wp P o a w K' Q else K' (a.put o.dst undef) w)
  (hs:AllReadyT P md ops Q S T n l a w rs):AllReadyT P md ops Q S T n l a w (i :: rs):=fun j hj=>by
 rcases List.mem_cons.1 hj with rfl | hj
 ·exact wpOp_step ho (fun K' hK=>h K' (fun a w hW=>hK a w ⟨fun hn=>absurd (by simpa using hi) hn,hW⟩))
 ·exact hs j hj
theorem readyT{rs:List Nat} {n:Nat} {l:Array Bool} {a:Act} {w:World} (hr:Region.ready md ops l=rs) (hne:rs≠[])
  (h:AllReadyT P md ops Q S T n l a w rs):Tail P md ops Q S T (n+1) l a w:=fun hc =>
 ⟨fun h0=>absurd (hr▸h0) hne,fun i hi=>wpOp_mono (fun a' w' h'=>⟨h'.1,h'.2 (hc.set_ hi)⟩) (h i (hr▸hi))⟩
theorem region_tail{id:Nat} {a:Act} {w:World} (T:List Nat) (hm:P.follows .mixedOrders=true) (hS:S w.drew)
  (h:S w.drew→Tail P .any ops Q S T ops.size (Array.replicate ops.size false) a w.drew):(Code.region id ops true).wp P Q a w :=
 wp_region_any hm (wpAny_of_tail _ _ _ _ (h hS Closed.start))
end
end Go.Proofs.YtcfkllnpkmebpaaGreatDoor

namespace Go.Proofs.YtcfkllnpkmebpaaGreatDoor
open Go.RowKit
section
variable {P : Program} {md : Region.Mode} {ops : Array Oper} {Q : Exit → Act → World → Prop} {S : World → Prop} {T : List Nat}
theorem tk(i d:Nat) {oi:Oper} {v:Value} {n:Nat} {l:Array Bool} {a a':Act} {w:World} (h:Tail P md ops Q S T n (l.setIfInBounds i true) a' w) (hi:ops[i]?=some oi:=by rfl) (hd:oi.dst=some d:=by rfl)
  (hs:Region.noSelect ops=true:=by kernel_rfl) (hf:Region.free md ops l i=true:=by kernel_rfl) (hr:(Region.ready md ops l).contains i=true:=by kernel_rfl) (hT:waits md ops T i=true:=by kernel_rfl)
  (hQ:∀c a w,Q (.panic c) (a.put (some d) v) w→Q (.panic c) a w:=by exact fun _ _ _ h=>h) (hw:Region.wanted oi (yielded ops a.tmps)=true:=by rfl)
  (hy:∀w,S w→(execOp a.eval oi).run P w=.ok (.value v) w:=by intro w hSw;(try dsimp only at hSw);go_simp;first | done | with_reducible rfl)
  (hS:S w:=by assumption) (ha:a.put (some d) v=a':=by first | (simp only[Act.put,List.setIfInBounds_toArray,List.set_cons_zero,List.set_cons_succ];done) | (simp only[Act.put,List.setIfInBounds_toArray,List.set_cons_zero,List.set_cons_succ];rfl) | rfl) :
  Tail P md ops Q S T (n+1) l a w:=takeT (i:=i) (d:=d) (v:=v) hi hd hs hf hr hT hQ (Or.inl ⟨hw,hy⟩) hS (ha▸h)
theorem tkd(i d:Nat) {oi:Oper} {v:Value} {n:Nat} {l:Array Bool} {a a':Act} {w:World} (h:wpAnyH P md ops Q S n (l.setIfInBounds i true) a' w) (hi:ops[i]?=some oi:=by rfl) (hd:oi.dst=some d:=by rfl)
  (hs:Region.noSelect ops=true:=by kernel_rfl) (hf:Region.free md ops l i=true:=by kernel_rfl) (hr:(Region.ready md ops l).contains i=true:=by kernel_rfl)
  (hQ:∀c a w,Q (.panic c) (a.put (some d) v) w→Q (.panic c) a w:=by exact fun _ _ _ h=>h) (hw:Region.wanted oi (yielded ops a.tmps)=true:=by rfl)
  (hy:∀w,S w→(execOp a.eval oi).run P w=.ok (.value v) w:=by intro w hSw;(try dsimp only at hSw);go_simp;first | done | with_reducible rfl)
  (hS:S w:=by assumption) (ha:a.put (some d) v=a':=by first | (simp only[Act.put,List.setIfInBounds_toArray,List.set_cons_zero,List.set_cons_succ];done) | (simp only[Act.put,List.setIfInBounds_toArray,List.set_cons_zero,List.set_cons_succ];rfl) | rfl) :
  wpAnyH P md ops Q S (n+1) l a w:=wpAnyH_take (i:=i) (v:=v) hi hs hf hr (by rw[hd];exact hQ) (Or.inl ⟨hw,hy⟩) hS (by rw[hd];exact ha▸h)
end
theorem zx {α : Sort _} (a : α) : ∃ x, x = a := ⟨_, rfl⟩
theorem zh {p : Prop} (h : p) : Hid p := h
theorem z1 : type_of% @List.setIfInBounds_toArray := @List.setIfInBounds_toArray
theorem z2 : type_of% @List.set_cons_zero := @List.set_cons_zero
theorem z3 : type_of% @List.set_cons_succ := @List.set_cons_succ
end Go.Proofs.YtcfkllnpkmebpaaGreatDoor

namespace Go.Proofs.YtcfkllnpkmebpaaGreatDoor
open Go.RowKit
set_option linter.unusedVariables false
set_option linter.unusedSimpArgs false
def BufAt(W:World) (g:Nat) (l:List UInt8):Prop:=∀j x,l[j]?=some x→W.cell? ⟨g,j,none⟩=some (.int .u8 (x.toNat:Int))∧W.frozen? ⟨g,j,none⟩=false
theorem frozen_set(W:World) (a b:Addr) (v:Value):(W.setCell a v).frozen? b=W.frozen? b:=by simp
theorem BufAt.set_{W:World} {g i:Nat} {l:List UInt8} (h:BufAt W g l) (hi:i<l.length) (y:UInt8):BufAt (W.setCell ⟨g,i,none⟩ (.int .u8 (y.toNat:Int))) g (l.set i y):=by
 intro j x hx;refine⟨?_,?_⟩
 ·by_cases hj:j=i
  ·subst hj;rw[List.getElem?_set_self hi] at hx;injection hx with hx;subst hx;exact World.cell?_setCell_same W _ _ (h j _ (List.getElem?_eq_getElem hi)).1
  ·rw[List.getElem?_set_ne (fun e=>hj e.symm)] at hx;rw[World.cell?_setCell_other W _ _ _ (fun e=>by injection e with e1 e2;exact hj e2.symm)];exact(h j x hx).1
 ·rw[frozen_set];by_cases hj:j=i
  ·subst hj;exact(h j _ (List.getElem?_eq_getElem hi)).2
  ·rw[List.getElem?_set_ne (fun e=>hj e.symm)] at hx;exact(h j x hx).2
theorem BufAt.byS{W:World} {g c:Nat} {l:List UInt8} (h:BufAt W g l) (hc:l.length≤c) (hm:l.length≤maxLen) {R:Nat→Prop} (hR:R g):ByS W R (.slice (some ⟨g,0,none⟩) l.length c) l :=
 ⟨_,c,rfl,hc,hm,fun _=>⟨g,0,rfl,hR,fun k x hk=>by rw[Nat.zero_add];exact(h k x hk).1⟩⟩
theorem run_bytes_ex{P:Program} (W:World) (src dst e:TypeId) (l:List UInt8) (hs:P.underlying src=some .string) (hd:P.underlying dst=some (.slice e)) (he:P.underlying e=some (.int .u8)) :
  ∃W' cap,(convert src dst (.string ⟨l.toArray⟩)).run P W=.ok (.slice (some ⟨W.heap.size,0,none⟩) l.length cap) W'∧Below W.heap.size W W'∧W.heap.size<W'.heap.size∧l.length≤cap∧BufAt W' W.heap.size l:=by
 have hsz:(⟨l.toArray⟩:ByteArray).size=l.length:=by show l.toArray.size=_;simp
 have hr:=run_bytes_of_string (P:=P) W src dst e ⟨l.toArray⟩ hs hd he;rw[hsz] at hr;refine⟨_,_,hr,((Below.refl _ _).drew).alloc (Nat.le_refl _) _,by simp,grownCap_ge W l.length 0 e,fun j x hx=>?_⟩;have hj:j<l.length:=(List.getElem?_eq_some_iff.1 hx).1;have hxl:l[j]=x:=(List.getElem?_eq_some_iff.1 hx).2;refine⟨?_,?_⟩
 ·have h1:=World.cell?_alloc_mark W.drew (bytesRow ⟨l.toArray⟩ (grownCap W l.length 0 e)) e ((bytesRow ⟨l.toArray⟩ (grownCap W l.length 0 e)).size,(bytesRow ⟨l.toArray⟩ (grownCap W l.length 0 e)).size+1) j;have h2:=bytesRow_at ⟨l.toArray⟩ (grownCap W l.length 0 e) j (by simpa using hj);rw[h2] at h1
  simpa[hxl] using h1
 ·have h1:=World.frozen?_alloc_mark W.drew (bytesRow ⟨l.toArray⟩ (grownCap W l.length 0 e)) e (bytesRow ⟨l.toArray⟩ (grownCap W l.length 0 e)).size ((bytesRow ⟨l.toArray⟩ (grownCap W l.length 0 e)).size+1) j
  have h3:j<(bytesRow ⟨l.toArray⟩ (grownCap W l.length 0 e)).size:=by
   unfold bytesRow;simp;omega
  have h4:decide ((bytesRow ⟨l.toArray⟩ (grownCap W l.length 0 e)).size≤j)=false:=by simp;omega
  rw[h4] at h1;exact h1
theorem heap_alloc_at(w:World) (o:Obj) (n:Nat) (h:n=w.heap.size):(w.alloc o).heap[n]?=some o:=by subst h;exact heap_alloc_new w o
end Go.Proofs.YtcfkllnpkmebpaaGreatDoor

namespace Go.Proofs.YtcfkllnpkmebpaaGreatDoor
def bitU(b:UInt8) (n:Nat):Bool:=b.toNat.testBit n
def xt(a:UInt8):UInt8:=(a <<< 1) ^^^ (if bitU a 7 then 29 else 0)
def xtK:Nat→UInt8→UInt8
 | 0,a=>a
 | n+1,a=>xt (xtK n a)
theorem all8{P:UInt8→Prop} (h:∀n:Nat,n<256→P (UInt8.ofNat n)) (a:UInt8):P a:=by
 have:=h a.toNat a.toNat_lt
 rwa [UInt8.ofNat_toNat] at this
theorem bitU_xor(a b:UInt8) (n:Nat):bitU (a ^^^ b) n=(bitU a n ^^ bitU b n):=by unfold bitU;rw[UInt8.toNat_xor,Nat.testBit_xor]
theorem u8_ext{a b:UInt8} (h:∀n,n<8→bitU a n=bitU b n):a=b:=by
 apply UInt8.toNat_inj.1;apply Nat.eq_of_testBit_eq;intro i;by_cases hi:i<8
 ·exact h i hi
 ·have hb:∀c:UInt8,c.toNat.testBit i=false:=fun c=>Nat.testBit_lt_two_pow (Nat.lt_of_lt_of_le c.toNat_lt (Nat.pow_le_pow_right (by omega) (by omega)))
  rw[hb,hb]
theorem bitU_shl(a:UInt8) (n:Nat) (h:n<8):bitU (a <<< 1) n=(decide (1≤n)&&bitU a (n - 1)):=by
 unfold bitU;rw[UInt8.toNat_shiftLeft];show((a.toNat <<< 1) % 2 ^ 8).testBit n=_;rw[Nat.testBit_mod_two_pow,Nat.testBit_shiftLeft];simp[h]
theorem shl_xor(a b:UInt8):(a ^^^ b) <<< 1=(a <<< 1) ^^^ (b <<< 1):=by
 apply u8_ext;intro n hn;rw[bitU_xor,bitU_shl _ _ hn,bitU_shl _ _ hn,bitU_shl _ _ hn,bitU_xor]
 cases decide (1≤n) <;> simp
theorem xor4u(a b c d:UInt8):(a ^^^ b) ^^^ (c ^^^ d)=(a ^^^ c) ^^^ (b ^^^ d):=by
 rw[UInt8.xor_assoc,UInt8.xor_assoc,←UInt8.xor_assoc b,UInt8.xor_comm b c,UInt8.xor_assoc c]
theorem xor_zero(a:UInt8):a ^^^ 0=a:=UInt8.xor_zero
theorem zero_xor(a:UInt8):0 ^^^ a=a:=UInt8.zero_xor
theorem xt_xor(a b:UInt8):xt (a ^^^ b)=xt a ^^^ xt b:=by
 unfold xt;rw[bitU_xor,shl_xor,xor4u (a <<< 1)]
 congr 1
 cases bitU a 7 <;> cases bitU b 7 <;> decide
theorem xt_zero:xt 0=0:=by decide
theorem xtK_zero(n:Nat):xtK n 0=0:=by
 induction n with
 | zero=>rfl
 | succ n ih=>show xt (xtK n 0)=0;rw[ih,xt_zero]
theorem xtK_add(m n:Nat) (a:UInt8):xtK (m+n) a=xtK m (xtK n a):=by
 induction m with
 | zero=>rw[Nat.zero_add];rfl
 | succ m ih=>rw[Nat.succ_add];show xt (xtK (m+n) a)=xt (xtK m (xtK n a));rw[ih]
def gm:Nat→UInt8→UInt8→UInt8
 | 0,_,_=>0
 | n+1,a,b=>gm n a b ^^^ (if bitU b n then xtK n a else 0)
def gmul(a b:UInt8):UInt8:=gm 8 a b
theorem gm_right(n:Nat) (a b b':UInt8):gm n a (b ^^^ b')=gm n a b ^^^ gm n a b':=by
 induction n with
 | zero=>exact(xor_zero 0).symm
 | succ n ih =>
  show gm n a (b ^^^ b') ^^^ _=(gm n a b ^^^ _) ^^^ (gm n a b' ^^^ _)
  rw[ih,bitU_xor,xor4u]
  cases bitU b n <;> cases bitU b' n <;> simp
theorem gmul_right(a b b':UInt8):gmul a (b ^^^ b')=gmul a b ^^^ gmul a b':=gm_right 8 a b b'
theorem gm_zero_left(n:Nat) (b:UInt8):gm n 0 b=0:=by
 induction n with
 | zero=>rfl
 | succ n ih=>show gm n 0 b ^^^ _=0;rw[ih,xtK_zero];simp
theorem gm_zero_right(n:Nat) (a:UInt8):gm n a 0=0:=by
 induction n with
 | zero=>rfl
 | succ n ih =>
  show gm n a 0 ^^^ _=0
  rw[ih]
  have:bitU 0 n=false:=by unfold bitU;simp
  rw[this];simp
theorem zero_gmul(b:UInt8):gmul 0 b=0:=gm_zero_left 8 b
theorem gmul_zero(a:UInt8):gmul a 0=0:=gm_zero_right 8 a
theorem gmul_one(a:UInt8):gmul a 1=a:=by
 have h0:bitU 1 0=true:=by decide
 have h1:bitU 1 1=false:=by decide
 have h2:bitU 1 2=false:=by decide
 have h3:bitU 1 3=false:=by decide
 have h4:bitU 1 4=false:=by decide
 have h5:bitU 1 5=false:=by decide
 have h6:bitU 1 6=false:=by decide
 have h7:bitU 1 7=false:=by decide
 simp[gmul,gm,h0,h1,h2,h3,h4,h5,h6,h7,xtK]
theorem gm_shl(a b:UInt8):∀n,n<8→gm (n+1) a (b <<< 1)=xt (gm n a b):=by
 intro n
 induction n with
 | zero =>
  intro _;show(0:UInt8) ^^^ _=xt 0;rw[bitU_shl _ _ (by omega),xt_zero];simp
 | succ n ih =>
  intro h;show gm (n+1) a (b <<< 1) ^^^ _=xt (gm n a b ^^^ _);rw[ih (by omega),xt_xor,bitU_shl _ _ (by omega)]
  congr 1
  have e:n+1 - 1=n:=rfl;rw[e]
  cases bitU b n
  ·simp[xt_zero]
  ·simp;rfl
theorem gmul_29(a:UInt8):gmul a 29=xtK 8 a:=all8 (P:=fun a=>gmul a 29=xtK 8 a) (by decide +kernel) a
theorem gmul_xt(a b:UInt8):gmul a (xt b)=xt (gmul a b):=by
 have e:xt (gmul a b)=xt (gm 7 a b) ^^^ (if bitU b 7 then xtK 8 a else 0):=by
  show xt (gm 7 a b ^^^ _)=_
  rw[xt_xor]
  cases bitU b 7
  ·simp[xt_zero]
  ·simp;rfl
 rw[e];unfold xt;rw[gmul_right];have h:=gm_shl a b 7 (by omega);show gm 8 a (b <<< 1) ^^^ _=_;rw[h]
 congr 1
 cases bitU b 7
 ·simp[gmul_zero]
 ·simp[gmul_29]
theorem gmul_xtK(a b:UInt8) (n:Nat):gmul a (xtK n b)=xtK n (gmul a b):=by
 induction n with
 | zero=>rfl
 | succ n ih=>show gmul a (xt (xtK n b))=xt (xtK n (gmul a b));rw[gmul_xt,ih]
theorem gmul_gen(a:UInt8) (n:Nat):gmul a (xtK n 1)=xtK n a:=by rw[gmul_xtK,gmul_one]
def logT:List Nat:=[0,0,1,25,2,50,26,198,3,223,51,238,27,104,199,75,4,100,224,14,52,141,239,129,28,193,105,248,200,8,76,113,5,138,101,47,225,36,15,33,53,147,142,218,240,18,130,69,29,181,194,125,106,39,249,185,201,154,9,120,77,228,114,166,6,191,139,98,102,221,48,253,226,152,37,179,16,145,34,136,54,208,148,206,143,150,219,189,241,210,19,92,131,56,70,64,30,66,182,163,195,72,126,110,107,58,40,84,250,133,186,61,202,94,155,159,10,21,121,43,78,212,229,172,115,243,167,87,7,112,192,247,140,128,99,13,103,74,222,237,49,197,254,24,227,165,153,119,38,184,180,124,17,68,146,217,35,32,137,46,55,63,209,91,149,188,207,205,144,135,151,178,220,252,190,97,242,86,211,171,20,42,93,158,132,60,57,83,71,109,65,162,31,45,67,216,183,123,164,118,196,23,73,236,127,12,111,246,108,161,59,82,41,157,85,170,251,96,134,177,187,204,62,90,203,89,95,176,156,169,160,81,11,245,22,235,122,117,44,215,79,174,213,233,230,231,173,232,116,214,244,234,168,80,88,175]
theorem log_all:∀n:Nat,n<256→n=0∨xtK (logT.getD n 0) 1=UInt8.ofNat n:=by decide +kernel
theorem gen_all(a:UInt8) (h:a≠0):∃k,a=xtK k 1:=by
 refine⟨logT.getD a.toNat 0,?_⟩;rcases log_all a.toNat a.toNat_lt with h0 | h0
 ·exact absurd (UInt8.toNat_inj.1 (by simpa using h0)) h
 ·rw[h0,UInt8.ofNat_toNat]
theorem gmul_comm(a b:UInt8):gmul a b=gmul b a:=by
 by_cases ha:a=0
 ·rw[ha,zero_gmul,gmul_zero]
 by_cases hb:b=0
 ·rw[hb,zero_gmul,gmul_zero]
 obtain⟨j,rfl⟩:=gen_all a ha;obtain⟨k,rfl⟩:=gen_all b hb;rw[gmul_gen,gmul_gen,←xtK_add,←xtK_add,Nat.add_comm]
theorem gmul_assoc(a b c:UInt8):gmul (gmul a b) c=gmul a (gmul b c):=by
 by_cases hc:c=0
 ·rw[hc,gmul_zero,gmul_zero,gmul_zero]
 obtain⟨k,rfl⟩:=gen_all c hc;rw[gmul_gen,gmul_gen,gmul_xtK]
def gpow(a:UInt8):Nat→UInt8
 | 0=>1
 | n+1=>gmul (gpow a n) a
def ginv(a:UInt8):UInt8:=gpow a 254
end Go.Proofs.YtcfkllnpkmebpaaGreatDoor

namespace Go.Proofs.YtcfkllnpkmebpaaGreatDoor
instance:Std.Associative gmul:=⟨gmul_assoc⟩
instance:Std.Commutative gmul:=⟨gmul_comm⟩
def lsum{α:Type} (l:List α) (f:α→UInt8):UInt8:=l.foldr (fun a s=>f a ^^^ s) 0
section
variable {α β : Type}
theorem lsum_cons(a:α) (l:List α) (f:α→UInt8):lsum (a :: l) f=f a ^^^ lsum l f:=rfl
theorem lsum_append(l m:List α) (f:α→UInt8):lsum (l++m) f=lsum l f ^^^ lsum m f:=by
 induction l with
 | nil=>exact(zero_xor _).symm
 | cons a l ih=>rw[List.cons_append,lsum_cons,lsum_cons,ih,UInt8.xor_assoc]
end
end Go.Proofs.YtcfkllnpkmebpaaGreatDoor

namespace Go.Proofs.YtcfkllnpkmebpaaGreatDoor
abbrev Mat:=List (List UInt8)
def en(t:Mat) (i j:Nat):UInt8:=(t.getD i []).getD j 0
theorem getD_lt{α:Type} (l:List α) (d:α) {i:Nat} (h:i<l.length):l.getD i d=l[i]:=by rw[List.getD,List.getElem?_eq_getElem h];rfl
def Wide(t:Mat) (m:Nat):Prop:=∀r∈t,r.length=m
end Go.Proofs.YtcfkllnpkmebpaaGreatDoor

namespace Go.Proofs.YtcfkllnpkmebpaaGreatDoor
set_option linter.unusedVariables false
def two(v w:Nat→UInt8) (n:Nat) (j:Nat):UInt8:=if j<n then v j else w (j - n)
end Go.Proofs.YtcfkllnpkmebpaaGreatDoor

namespace Go.Proofs.YtcfkllnpkmebpaaGreatDoor
set_option linter.unusedVariables false
def coef(j i:Nat):UInt8:=ginv (UInt8.ofNat (128+j) ^^^ UInt8.ofNat i)
def coefR(k at_:Nat):List UInt8:=(List.range k).map fun i=>if at_<k then(if i=at_ then 1 else 0) else coef (at_ - k) i
theorem coefR_length(k a:Nat):(coefR k a).length=k:=by simp[coefR]
theorem coefR_getD(k a i:Nat) (h:i<k):(coefR k a).getD i 0=if a<k then(if i=a then 1 else 0) else coef (a - k) i:=by
 rw[getD_lt _ _ (by simpa[coefR] using h)];simp[coefR]
end Go.Proofs.YtcfkllnpkmebpaaGreatDoor

namespace Go.Proofs.YtcfkllnpkmebpaaGreatDoor
open Go.RowKit
set_option linter.unusedVariables false
set_option linter.unusedSimpArgs false
theorem xor_int(a b:UInt8):bits .xor .u8 (a.toNat:Int) (b.toNat:Int)=((a ^^^ b).toNat:Int):=by
 rw[u8_xor_nat _ _ a.toNat_lt b.toNat_lt,UInt8.toNat_xor]
theorem bit_of{b:UInt8} {n i:Nat} (h8:n<256) (h:b.toNat / 2 ^ i=n):(bits .and .u8 (n:Int) 1==1)=bitU b i:=by
 have e:=u8_and_nat n 1 h8 (by omega);rw[Nat.and_one_is_mod] at e;have e1:((1:Nat):Int)=1:=rfl;rw[e1] at e;rw[e];unfold bitU;rw[Nat.testBit_eq_decide_div_mod_eq,h];by_cases h2:n % 2=1
 ·simp[h2]
 ·simp[h2];omega
theorem byte_lt(a:UInt8):(a.toNat:Int)<256∧0≤(a.toNat:Int):=by have:=a.toNat_lt;omega
theorem ofInt_nat(a:Nat) (ha:a<9223372036854775808):(BitVec.ofInt 64 (a:Int)).toNat=a:=by
 rw[BitVec.ofInt_natCast,BitVec.toNat_ofNat];exact Nat.mod_eq_of_lt (by omega)
theorem i64_xor_nat'(a b:Nat) (ha:a<65536) (hb:b<65536):bits .xor .i64 (a:Int) (b:Int)=((a ^^^ b:Nat):Int):=by
 have hx:a ^^^ b<2 ^ 16:=Nat.xor_lt_two_pow (by omega) (by omega);show IntKind.i64.wrap ((BitVec.ofInt 64 (a:Int) ^^^ BitVec.ofInt 64 (b:Int)).toNat:Int)=_;rw[BitVec.toNat_xor,ofInt_nat a (by omega),ofInt_nat b (by omega),IntKind.wrap_i64];omega
def invE(a:UInt8):Int:=if a=0 then 3 else 0
theorem ginv_zero:ginv 0=0:=by decide +kernel
theorem xt_nat(a:UInt8):(xt a).toNat=if 256≤2 * a.toNat then(2 * a.toNat) ^^^ 285 else 2 * a.toNat :=
 all8 (P:=fun a=>(xt a).toNat=if 256≤2 * a.toNat then(2 * a.toNat) ^^^ 285 else 2 * a.toNat) (by decide +kernel) a
theorem bit_of2(b:UInt8) (i:Nat):(bits .and .u8 ((b.toNat:Int) / 2 ^ i) 1==1)=bitU b i:=by
 have h:((b.toNat:Int) / 2 ^ i)=((b.toNat / 2 ^ i:Nat):Int):=by simp
 rw[h];have:=b.toNat_lt;exact bit_of (by have:=Nat.div_le_self b.toNat (2 ^ i);omega) rfl
theorem xor_int64(a b:UInt8):bits .xor .i64 (a.toNat:Int) (b.toNat:Int)=((a ^^^ b).toNat:Int):=by
 have ha:=a.toNat_lt;have hb:=b.toNat_lt;rw[i64_xor_nat' _ _ (by omega) (by omega),UInt8.toNat_xor]
theorem xt_hi{a:UInt8} (h:256≤2 * (a.toNat:Int)):bits .xor .i64 (2 * (a.toNat:Int)) 285=((xt a).toNat:Int):=by
 have ha:=a.toNat_lt;have e:=i64_xor_nat' (2 * a.toNat) 285 (by omega) (by omega);rw[xt_nat,if_pos (by omega),←e];simp
theorem xt_lo{a:UInt8} (h:¬256≤2 * (a.toNat:Int)):2 * (a.toNat:Int)=((xt a).toNat:Int):=by
 rw[xt_nat,if_neg (by omega)];simp
theorem refmul_any(a b:UInt8) (w:World) :
  Calls Tryz.prog 118 #[.int .u8 (a.toNat:Int),.int .u8 (b.toNat:Int)] w fun e w'=>e=.returned (.int .u8 ((gmul a b).toNat:Int))∧w=w':=by
 have hb8:=byte_lt b;have ha0:=byte_lt a;go_enter Tryz.func118,Tryz.ntmps118;go_wp2
 go_loop [5,6,7] (fun v5 v6 v7=>∃i:Nat,i≤8∧v5=.int .i64 ((gm i a b).toNat:Int)∧v6=.int .i64 ((xtK i a).toNat:Int)∧v7=.int .i64 (i:Int)) (fun _ _ v7=>8 - (intOf v7).toNat)
 case atStart=>exact⟨0,by omega,rfl,rfl,rfl⟩
 case round =>
  obtain⟨i,hi,rfl,rfl,rfl⟩:=hrel;have ha8:=byte_lt (xtK i a);have hg8:=byte_lt (gm i a b);by_cases hlt:i<8
  ·have hone:∀c:Bool,bitU b i=c→(gm (i+1) a b)=gm i a b ^^^ (if c then xtK i a else 0):=by
    rintro c rfl;rfl
   have HO:=zh hone;clear hone;by_cases hh:256≤2 * ((xtK i a).toNat:Int)
   all_goals
    go_wp2
    ·have ht:(bits .and .u8 ((b.toNat:Int) / 2 ^ i) 1==1)=true:=by assumption
     rw[bit_of2] at ht;refine⟨⟨i+1,by omega,?_,?_,by go_num⟩,by simp[intOf];omega⟩
     ·rw[HO.out _ ht,xor_int64];rfl
     ·first | rw[xt_hi hh];rfl | rw[xt_lo hh];rfl
    ·have ht:(bits .and .u8 ((b.toNat:Int) / 2 ^ i) 1==1)=false:=by assumption
     rw[bit_of2] at ht;refine⟨⟨i+1,by omega,?_,?_,by go_num⟩,by simp[intOf];omega⟩
     ·rw[HO.out _ ht];simp
     ·first | rw[xt_hi hh];rfl | rw[xt_lo hh];rfl
  ·have h8:Hid (i=8):=(by omega:i=8);go_wp2;go_ret;have e:=h8.out;subst e;exact⟨rfl,rfl⟩
theorem refpow_any(a:UInt8) (w:World) (ha:a≠0) :
  Calls Tryz.prog 222 #[.int .u8 (a.toNat:Int),.int .i64 254] w fun e w'=>e=.returned (.int .u8 ((ginv a).toNat:Int))∧w=w':=by
 have h0:((a.toNat:Int)==0)=false:=by
  rw[beq_eq_false_iff_ne];intro e;apply ha;apply UInt8.toNat_inj.1;rw[show(0:UInt8).toNat=0 from rfl];omega
 clear ha;go_enter Tryz.func222,Tryz.ntmps222;go_wp2
 go_loop [6,7] (fun v6 v7=>∃i:Nat,i≤254∧v6=.int .u8 ((gpow a i).toNat:Int)∧v7=.int .i64 (i:Int)) (fun _ v7=>254 - (intOf v7).toNat)
 case atStart=>exact⟨0,by omega,rfl,rfl⟩
 case round =>
  obtain⟨i,hi,rfl,rfl⟩:=hrel;by_cases hlt:(i:Int)<254
  ·go_wp2_with (go_at_call 118;refine(refmul_any _ _ _).mono ?_;rintro e w' ⟨rfl,rfl⟩);exact⟨⟨i+1,by omega,rfl,by go_num⟩,by simp[intOf];omega⟩
  ·have h8:Hid (i=254):=(by omega:i=254);go_wp2;go_ret;have e:=h8.out;subst e;exact⟨rfl,rfl⟩
theorem refinv_any(a:UInt8) (w:World) :
  Calls Tryz.prog 172 #[.int .u8 (a.toNat:Int)] w fun e w'=>e=.returned (.tuple #[.int .u8 ((ginv a).toNat:Int),.int .i64 (invE a)])∧w=w':=by
 by_cases h:a=0
 ·subst h;rw[ginv_zero,show invE 0=3 from rfl];have h0:((UInt8.toNat 0:Nat):Int)=0:=rfl;rw[h0];go_enter Tryz.func172,Tryz.ntmps172;go_wp2;go_ret2;exact⟨rfl,rfl⟩
 ·have h0:((a.toNat:Int)==0)=false:=by
   rw[beq_eq_false_iff_ne];intro e;apply h;apply UInt8.toNat_inj.1;rw[show(0:UInt8).toNat=0 from rfl];omega
  have he:invE a=0:=if_neg h;rw[he];have HP:=zh (fun W'=>refpow_any a W' h);clear h he;go_enter Tryz.func172,Tryz.ntmps172;go_wp2_with fail;refine(HP.out _).mono ?_;rintro e w' ⟨rfl,rfl⟩;go_wp2;go_ret2;exact⟨rfl,rfl⟩
end Go.Proofs.YtcfkllnpkmebpaaGreatDoor

namespace Go.Proofs.YtcfkllnpkmebpaaGreatDoor
open Go.RowKit
set_option linter.unusedVariables false
set_option linter.unusedSimpArgs false
theorem info_u8:(Tryz.prog.info? 5).map (fun i=>(i.zero,i.size,i.bytes))=some (some (.int .u8 0),1,1):=by kernel_rfl
theorem info_row:(Tryz.prog.info? 53).map (fun i=>(i.zero,i.size,i.bytes))=some (some (.slice none 0 0),1,24):=by kernel_rfl
theorem madeCells_one(v:Value) (n:Nat):madeCells #[v] n=Array.replicate n v:=by
 apply Array.ext
 ·simp[madeCells]
 ·intro i h1 h2;simp[madeCells,Nat.mod_one]
theorem mk_u8(n:Nat) (hn:n≤1048576):∀w:World,(Instr.makeSlice 53 (.int .i64 (n:Int)) (.int .i64 (n:Int))).run Tryz.prog w=.ok (.slice (some ⟨w.heap.size,0,none⟩) n n) (w.alloc (.cells (Array.replicate n (.int .u8 0)) 5)):=by
 intro w;obtain⟨i0,hi0,hz0,hz1,hz2⟩:=info_parts info_u8;have h:=run_make (P:=Tryz.prog) w 53 5 i0 _ Tryz.underlying53 hi0 hz0 .i64 .i64 (n:Int) (n:Int) (by omega) (by omega) (by rw[hz2];omega) (by omega);rw[hz1] at h
 simpa[madeCells_one,Value.cells] using h
def BlkB(W:World) (g:Nat) (l:List UInt8):Prop:=W.heap[g]?=some (.cells (bys l).toArray 5 (0,0))
theorem BlkB.lt{W:World} {g:Nat} {l:List UInt8} (h:BlkB W g l):g<W.heap.size:=by
 unfold BlkB at h;rcases Nat.lt_or_ge g W.heap.size with h1 | h1
 ·exact h1
 ·rw[Array.getElem?_eq_none h1] at h;cases h
theorem BlkB.cell{W:World} {g:Nat} {l:List UInt8} (h:BlkB W g l) {j:Nat} (hj:j<l.length):W.cell? ⟨g,j,none⟩=some (.int .u8 (l[j].toNat:Int)):=by
 rw[cell_of_row W g j _ _ _ h];simp[bys,hj]
theorem BlkB.cellD{W:World} {g:Nat} {l:List UInt8} (h:BlkB W g l) {j:Nat} (hj:j<l.length):W.cell? ⟨g,j,none⟩=some (.int .u8 ((l.getD j 0).toNat:Int)):=by
 rw[h.cell hj,getD_lt _ _ hj]
theorem BlkB.free{W:World} {g:Nat} {l:List UInt8} (h:BlkB W g l) (j:Nat):W.frozen? ⟨g,j,none⟩=false:=frozen_of_row W g j _ _ h
theorem BlkB.set{W:World} {g:Nat} {l:List UInt8} (h:BlkB W g l) (j:Nat) (y:UInt8):BlkB (W.setCell ⟨g,j,none⟩ (.int .u8 (y.toNat:Int))) g (l.set j y):=by
 unfold BlkB;rw[heap_setCell_same W g j _ _ _ h];simp[bys,List.map_set]
theorem BlkB.drewN{W:World} {g:Nat} {l:List UInt8} (h:BlkB W g l) (n:Nat):BlkB (W.drewN n) g l:=h
theorem BlkB.new(W:World) (n:Nat):BlkB (W.alloc (.cells (Array.replicate n (.int .u8 0)) 5)) W.heap.size (List.replicate n 0):=by
 unfold BlkB;rw[heap_alloc_new];simp[bys]
theorem BlkB.byS{W:World} {g c:Nat} {l:List UInt8} (h:BlkB W g l) (hc:l.length≤c) (hm:l.length≤maxLen) {R:Nat→Prop} (hR:R g):ByS W R (.slice (some ⟨g,0,none⟩) l.length c) l :=
 ⟨_,c,rfl,hc,hm,fun _=>⟨g,0,rfl,hR,fun k x hk=>by
  have hj:k<l.length:=(List.getElem?_eq_some_iff.1 hk).1;have hx:l[k]=x:=(List.getElem?_eq_some_iff.1 hk).2
  rw[Nat.zero_add,h.cell hj,hx]⟩⟩
theorem ByS.form{w:World} {R:Nat→Prop} {v:Value} {l:List UInt8} (h:ByS w R v l):∃A c,v=.slice A l.length c∧l.length≤c∧l.length≤maxLen:=by
 obtain⟨A',c',e,h1,h2,h3⟩:=h;exact⟨A',c',e,h1,h2⟩
theorem ByS.at_{w:World} {R:Nat→Prop} {A:Option Addr} {n c:Nat} {l:List UInt8} (h:ByS w R (.slice A n c) l) {k:Nat} (hk:k<l.length):∃b off,A=some ⟨b,off,none⟩∧R b∧w.cell? ⟨b,off+k,none⟩=some (.int .u8 (l[k].toNat:Int)):=by
 obtain⟨A',c',e,_,_,h3⟩:=h;obtain⟨b,off,e2,hb,hc⟩:=h3 (by omega);injection e with e;exact⟨b,off,e.trans e2,hb,hc k _ (List.getElem?_eq_getElem hk)⟩
def MatAt(w:World) (R:Nat→Prop) (t:Mat) (b off:Nat):Prop:=∀k r,t[k]?=some r→∃va,w.cell? ⟨b,off+k,none⟩=some va∧ByS w R va r
def MatS(w:World) (R:Nat→Prop) (v:Value) (t:Mat):Prop:=Row R v t.length (MatAt w R t)
theorem MatS.keep{w w':World} {R:Nat→Prop} {v:Value} {t:Mat} (h:MatS w R v t) (hk:Kept R w w'):MatS w' R v t :=
 h.imp (fun _ hb=>hb) fun b off hb hc k r hr=>by
  obtain⟨va,h1,h2⟩:=hc k r hr;exact⟨va,(hk.cell hb).trans h1,h2.keep hk⟩
theorem MatS.mono{w:World} {R R':Nat→Prop} {v:Value} {t:Mat} (h:MatS w R v t) (hr:∀b,R b→R' b):MatS w R' v t :=
 h.imp hr fun b off hb hc k r hk=>by
  obtain⟨va,h1,h2⟩:=hc k r hk;exact⟨va,h1,h2.mono hr⟩
theorem MatS.form{w:World} {R:Nat→Prop} {v:Value} {t:Mat} (h:MatS w R v t):∃A c,v=.slice A t.length c∧t.length≤c∧t.length≤maxLen:=by
 obtain⟨A',c',e,h1,h2,h3⟩:=h;exact⟨A',c',e,h1,h2⟩
theorem MatS.at_{w:World} {R:Nat→Prop} {A:Option Addr} {n c:Nat} {t:Mat} (h:MatS w R (.slice A n c) t) {k:Nat} (hk:k<t.length):∃b off va,A=some ⟨b,off,none⟩∧R b∧w.cell? ⟨b,off+k,none⟩=some va∧ByS w R va t[k]:=by
 obtain⟨A',c',e,_,_,h3⟩:=h;obtain⟨b,off,e2,hb,hc⟩:=h3 (by omega);obtain⟨va,g1,g2⟩:=hc k _ (List.getElem?_eq_getElem hk);injection e with e;exact⟨b,off,va,e.trans e2,hb,g1,g2⟩
theorem MatS.below{w w':World} {v:Value} {t:Mat} (h:MatS w (Bl w.heap.size) v t) (hb:Below w.heap.size w w'):MatS w' (Bl w'.heap.size) v t:=(h.keep (kept_below hb)).mono (Bl.mono hb.size)
def Fr(B n:Nat) (b:Nat):Prop:=B≤b∧b<n
theorem Fr.bl{B n:Nat}:∀b,Fr B n b→Bl n b:=fun _ h=>h.2
end Go.Proofs.YtcfkllnpkmebpaaGreatDoor

namespace Go.Proofs.YtcfkllnpkmebpaaGreatDoor
open Go.RowKit
set_option linter.unusedVariables false
set_option linter.unusedSimpArgs false
theorem coef_arg(j i:Nat) (hj:j<64) (hi:i<64):bits .xor .u8 (128+(j:Int)) (i:Int)=((UInt8.ofNat (128+j) ^^^ UInt8.ofNat i).toNat:Int):=by
 have h:=xor_int (UInt8.ofNat (128+j)) (UInt8.ofNat i)
 have h1:(((UInt8.ofNat (128+j)).toNat:Nat):Int)=128+(j:Int):=by rw[UInt8.toNat_ofNat'];omega
 have h2:(((UInt8.ofNat i).toNat:Nat):Int)=(i:Int):=by rw[UInt8.toNat_ofNat'];omega
 rw[h1,h2] at h;exact h
theorem refcoefficient_any(j i:Nat) (w:World) (hj:j<64) (hi:i<64) :
  Calls Tryz.prog 119 #[.int .i64 (j:Int),.int .i64 (i:Int)] w fun e w'=>e=.returned (.int .u8 ((coef j i).toNat:Int))∧w=w':=by
 obtain⟨c,hc⟩:=zx (UInt8.ofNat (128+j) ^^^ UInt8.ofNat i);have hx:=coef_arg j i hj hi
 have hcf:coef j i=ginv c:=by rw[hc];rfl
 rw[←hc] at hx;rw[hcf];have HX:=zh hx;clear hc hx hcf;go_enter Tryz.func119,Tryz.ntmps119;go_wp2_with fail;rw[HX.out];refine(refinv_any c _).mono ?_;rintro e w' ⟨rfl,rfl⟩;go_wp2;go_ret;exact⟨rfl,rfl⟩
def coefP(k a j:Nat):List UInt8:=(List.range k).map fun i=>if i<j then(coefR k a).getD i 0 else 0
theorem coefP_zero(k a:Nat):coefP k a 0=List.replicate k 0:=by
 apply List.ext_getElem
 ·simp[coefP]
 ·intro i h1 h2;simp[coefP]
theorem coefP_all(k a:Nat):coefP k a k=coefR k a:=by
 apply List.ext_getElem
 ·simp[coefP,coefR]
 ·intro i h1 h2
  have h3:i<k:=by simpa[coefP] using h1
  simp only[coefP,List.getElem_map,List.getElem_range,if_pos h3];exact getD_lt _ _ h2
theorem coefP_step(k a j:Nat) (hj:j<k):(coefP k a j).set j ((coefR k a).getD j 0)=coefP k a (j+1):=by
 apply List.ext_getElem
 ·simp[coefP]
 ·intro i h1 h2;rw[List.getElem_set];simp only[coefP,List.getElem_map,List.getElem_range];by_cases e:j=i
  ·subst e;rw[if_pos rfl,if_pos (by omega)]
  ·rw[if_neg e];by_cases h3:i<j
   ·rw[if_pos h3,if_pos (by omega)]
   ·rw[if_neg h3,if_neg (by omega)]
theorem coefP_length(k a j:Nat):(coefP k a j).length=k:=by simp[coefP]
theorem coefP_skip(k a j:Nat) (hj:j<k) (h:(coefR k a).getD j 0=0):coefP k a (j+1)=coefP k a j:=by
 rw[←coefP_step k a j hj,h];apply List.ext_getElem
 ·simp[coefP]
 ·intro i h1 h2;rw[List.getElem_set];by_cases e:j=i
  ·subst e;rw[if_pos rfl];simp[coefP]
  ·rw[if_neg e]
theorem factors_any(k a:Nat) (w:World) (hk:k<64) (ha:a<k+64) :
  Calls Tryz.prog 86 #[.int .i64 (k:Int),.int .i64 (a:Int)] w fun e w'=>∃v,e=.returned v∧ByS w' (Fr w.heap.size w'.heap.size) v (coefR k a)∧Below w.heap.size w w':=by
 have hmk:=mk_u8 k (by omega);have hB:=BlkB.new w k;have hb1:Below w.heap.size w (w.alloc (.cells (Array.replicate k (.int .u8 0)) 5)):=(Below.refl _ _).alloc (Nat.le_refl _) _;go_enter Tryz.func86,Tryz.ntmps86;go_wp2;obtain⟨g,hg⟩:=zx w.heap.size;rw[←hg] at hB ⊢
 have hgw:w.heap.size≤g:=by omega
 generalize w.alloc (.cells (Array.replicate k (.int .u8 0)) 5)=w1 at *;clear hg hmk;go_loopg [6] k (fun n v6 wr=>∃j:Nat,j≤k∧n=k - j∧v6=.int .i64 (j:Int)∧BlkB wr g (coefP k a j)∧Below w.heap.size w wr)
 case atStart=>exact⟨0,by omega,rfl,rfl,by rw[coefP_zero];exact hB,hb1⟩
 case round =>
  clear hB hb1;obtain⟨j,hj,rfl,rfl,hB,hb⟩:=hrel;by_cases hlt:j<k
  ·have c0:=hB.cellD (j:=j) (by rw[coefP_length];exact hlt);have f0:=hB.free j;by_cases hak:k≤a
   ·obtain⟨d,hd⟩:∃d,a=k+d:=⟨a - k,by omega⟩;subst hd
    have hc:(coefR k (k+d)).getD j 0=coef d j:=by rw[coefR_getD _ _ _ hlt,if_neg (by omega),Nat.add_sub_cancel_left]
    have HC:=zh hc
    have e1:(k:Int)+(d:Int) - (k:Int)=(d:Int):=by omega
    clear hc;go_wp2_with fail;refine(refcoefficient_any d j _ (by omega) (by omega)).mono ?_;rintro e w' ⟨rfl,rfl⟩;go_wp2;go_roundg (k - (j+1))
    case measure=>omega
    case rel =>
     have hB2:=hB.set j (coef d j);rw[←HC.out,coefP_step _ _ _ hlt] at hB2;exact⟨j+1,by omega,rfl,by go_num,by rw[←HC.out];exact hB2,hb.setCell hgw _⟩
   ·by_cases hja:j=a
    ·have hc:(coefR k a).getD j 0=1:=by rw[coefR_getD _ _ _ hlt,if_pos (by omega),if_pos hja]
     have HC:=zh hc
     have e1:((j:Int)==(a:Int))=true:=by simp[hja]
     clear hc hja;go_wp2;go_roundg (k - (j+1))
     case measure=>omega
     case rel =>
      have hB2:=hB.set j 1;have hs:=coefP_step k a j hlt;rw[HC.out] at hs;rw[hs] at hB2;exact⟨j+1,by omega,rfl,by go_num,hB2,hb.setCell hgw _⟩
    ·have hc:(coefR k a).getD j 0=0:=by rw[coefR_getD _ _ _ hlt,if_pos (by omega),if_neg hja]
     have HC:=zh hc
     have e1:((j:Int)==(a:Int))=false:=by simp;omega
     clear hc;go_wp2;go_roundg (k - (j+1))
     case measure=>omega
     case rel=>exact⟨j+1,by omega,rfl,by go_num,by rw[coefP_skip _ _ _ hlt HC.out];exact hB,hb⟩
  ·obtain rfl:j=k:=by omega
   go_wp2;go_ret;rw[coefP_all] at hB;have hby:=hB.byS (c:=j) (by rw[coefR_length];exact Nat.le_refl _) (by rw[coefR_length];unfold maxLen;omega) (R:=Fr w.heap.size _) ⟨hgw,hB.lt⟩;rw[coefR_length] at hby;exact⟨_,rfl,hby,hb⟩
end Go.Proofs.YtcfkllnpkmebpaaGreatDoor

namespace Go.Proofs.YtcfkllnpkmebpaaGreatDoor
open Go.RowKit
set_option linter.unusedVariables false
set_option linter.unusedSimpArgs false
def combF(cs:List UInt8) (t:Mat) (k i:Nat):UInt8:=gmul (cs.getD i 0) (en t i k)
def combT(cs:List UInt8) (t:Mat) (m:Nat):List UInt8:=(List.range m).map fun k=>lsum (List.range t.length) (combF cs t k)
def combP(cs:List UInt8) (t:Mat) (m r j:Nat):List UInt8:=(List.range m).map fun k=>lsum (List.range (if k<j then r+1 else r)) (combF cs t k)
theorem combP_length(cs:List UInt8) (t:Mat) (m r j:Nat):(combP cs t m r j).length=m:=by simp[combP]
theorem combP_start(cs:List UInt8) (t:Mat) (m:Nat):combP cs t m 0 0=List.replicate m 0:=by
 apply List.ext_getElem
 ·simp[combP]
 ·intro i h1 h2;simp[combP,lsum]
theorem combP_row(cs:List UInt8) (t:Mat) (m r:Nat):combP cs t m r m=combP cs t m (r+1) 0:=by
 apply List.ext_getElem
 ·simp[combP]
 ·intro i h1 h2
  have h3:i<m:=by simpa[combP] using h1
  simp[combP,h3]
theorem combP_end(cs:List UInt8) (t:Mat) (m:Nat):combP cs t m t.length 0=combT cs t m:=by
 unfold combP combT;simp
theorem combP_step(cs:List UInt8) (t:Mat) (m r j:Nat) (hj:j<m):(combP cs t m r j).set j ((combP cs t m r j).getD j 0 ^^^ combF cs t j r)=combP cs t m r (j+1):=by
 apply List.ext_getElem
 ·simp[combP]
 ·intro i h1 h2;rw[List.getElem_set];by_cases e:j=i
  ·subst e;rw[if_pos rfl,getD_lt _ _ (by simpa[combP] using hj)];simp only[combP,List.getElem_map,List.getElem_range];rw[if_neg (by omega),if_pos (by omega),List.range_succ,lsum_append];simp[lsum]
  ·rw[if_neg e];simp only[combP,List.getElem_map,List.getElem_range];by_cases h3:i<j
   ·rw[if_pos h3,if_pos (by omega)]
   ·rw[if_neg h3,if_neg (by omega)]
theorem combT_length(cs:List UInt8) (t:Mat) (m:Nat):(combT cs t m).length=m:=by simp[combT]
theorem Calls.eqw{P:Program} {f:FuncId} {args:Array Value} {w:World} {v:Value} (h:Calls P f args w fun e w'=>e=.returned v∧w=w'):Calls P f args w fun e w'=>e=.returned v∧w'=w:=h.mono fun _ _ ⟨a,b⟩=>⟨a,b.symm⟩
end Go.Proofs.YtcfkllnpkmebpaaGreatDoor

namespace Go.Proofs.YtcfkllnpkmebpaaGreatDoor
open Go.RowKit
set_option linter.unusedVariables false
set_option linter.unusedSimpArgs false
theorem refcombine_any(vc vt:Value) (cs:List UInt8) (t:Mat) (m:Nat) (w:World) (hc:ByS w (Bl w.heap.size) vc cs) (ht:MatS w (Bl w.heap.size) vt t) (hl:cs.length=t.length) (h0:0<t.length) (hn:t.length≤64) (hw:Wide t m) (hm:m≤65536) :
  Calls Tryz.prog 85 #[vc,vt] w fun e w'=>∃v,e=.returned (.tuple #[v,.int .i64 0])∧ByS w' (Fr w.heap.size w'.heap.size) v (combT cs t m)∧Below w.heap.size w w':=by
 obtain⟨Ac,cc,rfl,-,-⟩:=hc.form;obtain⟨At,ct,rfl,hct,-⟩:=ht.form;obtain⟨bt,ot,va0,rfl,hRt,ca0,hva0⟩:=ht.at_ h0;obtain⟨A0,c0,rfl,-,-⟩:=hva0.form;have hm0:=hw _ (List.getElem_mem h0);rw[hm0,Nat.add_zero] at ca0;rw[hl] at hc ⊢;have HL:=zh hl;have HA0:=zh ca0
 have e0:((t.length:Int)==0)=false:=by rw[beq_eq_false_iff_ne];omega
 have hti:(0:Int)<(t.length:Int):=by omega
 clear hl hm0 hva0 ca0;go_enter Tryz.func85,Tryz.ntmps85;go_wp2;go_loopg [6] t.length (fun n v6 wr=>∃r:Nat,r≤t.length∧n=t.length - r∧v6=.int .i64 (r:Int)∧Hid (∃k,wr=w.drewN k))
 case atStart=>exact⟨0,by omega,rfl,rfl,0,rfl⟩
 case round =>
  obtain⟨r,hr,rfl,rfl,hwr⟩:=hrel;obtain⟨k,rfl⟩:=hwr.out;clear hwr;have ca0:=HA0.out;by_cases hlt:r<t.length
  ·obtain⟨b1,o1,va,hA1,hR1,c1,hva⟩:=ht.at_ hlt
   obtain⟨rfl,rfl⟩:bt=b1∧ot=o1:=by injection hA1 with h;injection h with h1 h2;exact⟨h1,h2⟩
   have hmr:=hw _ (List.getElem_mem hlt);obtain⟨A1,c1',rfl,-,-⟩:=hva.form;rw[hmr] at c1;clear hmr hA1 hva
   have hri:(r:Int)<(t.length:Int):=by omega
   have hr0:(0:Int)≤(r:Int):=by omega
   go_wp2_with fail
   go_quiet (fail)
   go_wp2;go_roundg (t.length - (r+1))
   case measure=>omega
   case rel=>exact⟨r+1,by omega,rfl,by go_num,⟨_,rfl⟩⟩
  ·have hrt:Hid (r=t.length):=(by omega:r=t.length);have hmk:=mk_u8 m (by omega);have hB:=BlkB.new (w.drewN k) m;have hb1:Below w.heap.size w ((w.drewN k).alloc (.cells (Array.replicate m (.int .u8 0)) 5)):=(Below.drewN' (Below.refl _ _) k).alloc (Nat.le_refl _) _;go_wp2;obtain⟨g,hg⟩:=zx w.heap.size;have hB':BlkB ((w.drewN k).alloc (.cells (Array.replicate m (.int .u8 0)) 5)) w.heap.size (List.replicate m 0):=hB;rw[←hg] at hB' ⊢
   have hgw:w.heap.size≤g:=by omega
   clear hB;generalize (w.drewN k).alloc (.cells (Array.replicate m (.int .u8 0)) 5)=w1 at *;clear hg hmk ca0;go_loopg [8] t.length (fun n v8 wr=>∃r:Nat,r≤t.length∧n=t.length - r∧v8=.int .i64 (r:Int)∧BlkB wr g (combP cs t m r 0)∧Below w.heap.size w wr)
   case atStart=>exact⟨0,by omega,rfl,rfl,by rw[combP_start];exact hB',hb1⟩
   case round =>
    clear hB' hb1 hrt hr hlt;obtain⟨r,hr,rfl,rfl,hB,hb⟩:=hrel;by_cases hlt:r<t.length
    ·obtain⟨b1,o1,va,hA1,hR1,c1,hva⟩:=ht.at_ hlt
     obtain⟨rfl,rfl⟩:bt=b1∧ot=o1:=by injection hA1 with h;injection h with h1 h2;exact⟨h1,h2⟩
     obtain⟨bc,oc,rfl,hRc,cc1⟩:=hc.at_ (k:=r) (by rw[HL.out];exact hlt);have hmr:=hw _ (List.getElem_mem hlt);have hrow:=getD_lt t [] hlt;generalize t[r]=row at *;obtain⟨A1,c1',rfl,-,-⟩:=hva.form;rw[hmr] at c1 hva;have HROW:=zh hrow;have HMR:=zh hmr;have hcr:=getD_lt cs 0 (i:=r) (by rw[HL.out];exact hlt);rw[←hcr] at cc1;have HCT:=zh c1;have HC1:=zh cc1;clear hrow hmr hcr hA1 c1 cc1;go_wp2;go_loopg [9] m (fun n v9 wx=>∃j:Nat,j≤m∧n=m - j∧v9=.int .i64 (j:Int)∧BlkB wx g (combP cs t m r j)∧Below w.heap.size w wx)
     case atStart=>exact⟨0,by omega,rfl,rfl,hB,hb⟩
     case round =>
      clear hB hb;obtain⟨j,hj,rfl,rfl,hB,hb⟩:=hrel;by_cases hjt:j<m
      ·obtain⟨b2,o2,rfl,hR2,c2⟩:=hva.at_ (k:=j) (by rw[HMR.out];exact hjt)
       have hen:row[j]'(by rw[HMR.out];exact hjt)=en t r j:=by
        unfold en;rw[HROW.out,getD_lt row 0 (by rw[HMR.out];exact hjt)]
       rw[hen] at c2;have c1w:=(hb.cell (p:=⟨bt,ot+r,none⟩) hR1).trans HCT.out;have c2w:=(hb.cell (p:=⟨b2,o2+j,none⟩) hR2).trans c2;have cc2:=(hb.cell (p:=⟨bc,oc+r,none⟩) hRc).trans HC1.out;have c0:=hB.cellD (j:=j) (by rw[combP_length];exact hjt);have f0:=hB.free j;obtain⟨y,hy⟩:=zx (en t r j);obtain⟨f,hf⟩:=zx (cs.getD r 0);rw[←hy] at c2w;rw[←hf] at cc2;have hstep:=combP_step cs t m r j hjt
       have hcf:combF cs t j r=gmul f y:=by rw[hf,hy];rfl
       rw[hcf] at hstep;generalize (combP cs t m r j).getD j 0=x at *;have HS:=zh hstep;clear hen c2 hy hf hstep hcf;go_wp2_with fail
       go_still_tail 20,(by kernel_rfl)
       still_call (Calls.eqw (refmul_any f y _))
       repeat still_step
       refine wpStill_nil ?_
       change wpList _ _ _ _ _ (World.drew _)
       go_wp2;go_roundg (m - (j+1))
       case measure=>omega
       case rel =>
        have hB2:=(hB.set j (x ^^^ gmul f y)).drewN 1;rw[HS.out] at hB2;exact⟨j+1,by omega,rfl,by go_num,by rw[xor_int];exact hB2,(hb.setCell hgw _).drew⟩
      ·obtain rfl:j=m:=by omega
       go_wp2;go_roundg (t.length - (r+1))
       case measure=>omega
       case rel=>exact⟨r+1,by omega,rfl,by go_num,by rw[←combP_row];exact hB,hb⟩
    ·obtain rfl:r=t.length:=by omega
     go_wp2;go_ret2;rw[combP_end] at hB;have hby:=hB.byS (c:=m) (by rw[combT_length];exact Nat.le_refl _) (by rw[combT_length];unfold maxLen;omega) (R:=Fr w.heap.size _) ⟨hgw,hB.lt⟩;rw[combT_length] at hby;exact⟨_,rfl,hby,hb⟩
end Go.Proofs.YtcfkllnpkmebpaaGreatDoor

namespace Go.Proofs.YtcfkllnpkmebpaaGreatDoor
open Go.RowKit
set_option linter.unusedVariables false
set_option linter.unusedSimpArgs false
section
variable {W : World} {B g : Nat} {qs : List Nat} {t : Mat} {m : Nat} {rest : List Value}
end
end Go.Proofs.YtcfkllnpkmebpaaGreatDoor

namespace Go.Proofs.YtcfkllnpkmebpaaGreatDoor
open Go.RowKit
set_option linter.unusedVariables false
set_option linter.unusedSimpArgs false
section
variable {W : World} {B g : Nat} {qs cs : List Nat} {t : Mat} {m : Nat}
end
end Go.Proofs.YtcfkllnpkmebpaaGreatDoor

namespace Go.Proofs.YtcfkllnpkmebpaaGreatDoor
open Go.RowKit
set_option linter.unusedVariables false
set_option linter.unusedSimpArgs false
theorem own_form{w:World} {base:Nat} {e:TypeId} {size:Nat} {v:Value} {n:Nat} {xs:List Value} (h:w.ownsRow base e size v n xs):∃A c,v=.slice A n c:=by
 rcases h.2 with ⟨rfl,rfl⟩ | ⟨g,cap,cur,rfl,_⟩
 ·exact⟨none,0,rfl⟩
 ·exact⟨_,cap,rfl⟩
end Go.Proofs.YtcfkllnpkmebpaaGreatDoor

namespace Go.Proofs.YtcfkllnpkmebpaaGreatDoor
open Go.RowKit
set_option linter.unusedVariables false
set_option linter.unusedSimpArgs false
theorem own_apart{W:World} {B B':Nat} {e e':TypeId} {s s' n n' g g':Nat} {v v':Value} {xs xs':List Value} (h:W.ownsRow B e s v n xs) (h':W.ownsRow B' e' s' v' n' xs') (he:e≠e') (hg:v.ownBlock=some g) (hg':v'.ownBlock=some g'):g≠g':=by
 intro hgg;subst hgg;rcases h.2 with ⟨rfl,_⟩ | ⟨k,cap,cur,rfl,_,hh,_⟩
 ·simp[Value.ownBlock] at hg
 ·rcases h'.2 with ⟨rfl,_⟩ | ⟨k',cap',cur',rfl,_,hh',_⟩
  ·simp[Value.ownBlock] at hg'
  ·simp only[Value.ownBlock,Option.some.injEq] at hg hg';subst hg;subst hg';rw[hh] at hh';injection hh' with hh';injection hh' with _ hh';exact he hh'
theorem grown_of_below{W W':World} (hb:Below W.heap.size W W'):W.grownBy W' none:=⟨hb.os,hb.tape,hb.output,hb.size,fun k hk _=>hb.block k hk⟩
theorem own_below{w w2:World} {base:Nat} {e:TypeId} {size:Nat} {v:Value} {n:Nat} {xs:List Value} (h:w.ownsRow base e size v n xs) (hb:Below w.heap.size w w2):w2.ownsRow base e size v n xs:=by
 refine h.kept (w':=w2) (row:=none) (grown_of_below hb) ?_
 cases hv:v.ownBlock with
 | none=>exact .inl rfl
 | some g=>exact .inr (by simp)
theorem own_base{W:World} {B B':Nat} {e:TypeId} {s n:Nat} {v:Value} {xs:List Value} (h:W.ownsRow B e s v n xs) (hB:B'≤B):W.ownsRow B' e s v n xs:=by
 refine⟨h.1,?_⟩;rcases h.2 with h1 | ⟨g,cap,cur,h1,h2,h3⟩
 ·exact .inl h1
 ·exact .inr ⟨g,cap,cur,h1,by omega,h3⟩
theorem app_u8{ops:Array Oper} {rest:List Oper} {o:Oper} {a:Act} {Q:Exit→Act→World→Prop} {w:World} {x0:Value} (s x:Operand) (hgd:o.guard=none) (ho:o.op=.call { callee:=.builtin .append,args:=#[s,x],argTypes:=#[53,53] })
  (base:Nat) (v:Value) (n:Nat) (xs:List Value) (hs:a.eval s=v) (hown:w.ownsRow base 5 1 v n xs)
  (hx:a.eval x=.slice (some ⟨w.heap.size,0,none⟩) 1 1) (h1:x0.oneCell'=true) (hn:n+1≤16777216) (hbase:base≤w.heap.size)
  (h:∀v' w',w'.ownsRow base 5 1 v' (n+1) (xs++[x0])→w.grownBy w' v.ownBlock→(v'.ownBlock=v.ownBlock∨v'.ownBlock=some (w.heap.size+1))→wpList Tryz.prog ops Q rest (a.put o.dst v') w') :
  wpList Tryz.prog ops Q (o :: rest) a (w.alloc (.cells #[x0] 5)):=by
 obtain⟨i0,hi0,hz0,hz1,hz2⟩:=info_parts info_u8;exact wpList_append1 hgd s x _ ho base i0 _ 1 1 Tryz.underlying53 hi0 hz0 hz1 hz2 rfl (by omega) (by omega) v n xs hs hown hx rfl (by simpa using h1) hn hbase h
theorem app_row{ops:Array Oper} {rest:List Oper} {o:Oper} {a:Act} {Q:Exit→Act→World→Prop} {w:World} {x0:Value} (s x:Operand) (hgd:o.guard=none) (ho:o.op=.call { callee:=.builtin .append,args:=#[s,x],argTypes:=#[90,90] })
  (base:Nat) (v:Value) (n:Nat) (xs:List Value) (hs:a.eval s=v) (hown:w.ownsRow base 53 1 v n xs)
  (hx:a.eval x=.slice (some ⟨w.heap.size,0,none⟩) 1 1) (h1:x0.oneCell'=true) (hn:n+1≤16777216) (hbase:base≤w.heap.size)
  (h:∀v' w',w'.ownsRow base 53 1 v' (n+1) (xs++[x0])→w.grownBy w' v.ownBlock→(v'.ownBlock=v.ownBlock∨v'.ownBlock=some (w.heap.size+1))→wpList Tryz.prog ops Q rest (a.put o.dst v') w') :
  wpList Tryz.prog ops Q (o :: rest) a (w.alloc (.cells #[x0] 53)):=by
 obtain⟨i0,hi0,hz0,hz1,hz2⟩:=info_parts info_row;exact wpList_append1 hgd s x _ ho base i0 _ 1 24 Tryz.underlying90 hi0 hz0 hz1 hz2 rfl (by omega) (by omega) v n xs hs hown hx rfl (by simpa using h1) hn hbase h
end Go.Proofs.YtcfkllnpkmebpaaGreatDoor
