/- Parts. -/
import Derived.WalkKit
import Derived.Lib.Hide
import Derived.Maps.AppendAt
import Derived.BigQuiet
import Derived.Deep.RegionHeld
import Derived.Test.YtgfaieppacabjaaGreatRows
import Derived.ProofKit
set_option linter.unusedSectionVars false
set_option maxRecDepth 100000
set_option maxHeartbeats 12800000
set_option linter.unusedVariables false
set_option linter.unusedSimpArgs false
namespace Go.Proofs.YtgfaieppacabjaaGreat
open Go.RowKit
def I64(x:Int):Prop := -9223372036854775808≤x∧x≤9223372036854775807
def Bl(B:Nat) (b:Nat):Prop:=b<B
def Kept(R:Nat→Prop) (w w':World):Prop:=∀b,R b→w'.heap[b]?=w.heap[b]?
theorem Kept.trans{R:Nat→Prop} {a b c:World} (h:Kept R a b) (k:Kept R b c):Kept R a c:=fun x hx=>(k x hx).trans (h x hx)
theorem Kept.mono{R R':Nat→Prop} {a b:World} (h:Kept R a b) (hr:∀x,R' x→R x):Kept R' a b:=fun x hx=>h x (hr x hx)
theorem Kept.cell{R:Nat→Prop} {w w':World} (h:Kept R w w') {b o:Nat} (hb:R b):w'.cell? ⟨b,o,none⟩=w.cell? ⟨b,o,none⟩:=World.cell?_of_block (w:=w) (h b hb)
theorem kept_below{B:Nat} {w w':World} (h:Below B w w'):Kept (Bl B) w w':=fun b hb=>h.block b hb
theorem kept_below'{B B':Nat} {w w':World} (h:Below B w w') (hB:B'≤B):Kept (Bl B') w w':=fun b hb=>h.block b (Nat.lt_of_lt_of_le hb hB)
theorem kept_alloc(w:World) (o:Obj):Kept (Bl w.heap.size) w (w.alloc o):=fun b hb=>Below.heap_alloc w o b hb
theorem Bl.mono{B B':Nat} (h:B≤B'):∀b,Bl B b→Bl B' b:=fun _ hb=>Nat.lt_of_lt_of_le hb h
def Row(R:Nat→Prop) (v:Value) (n:Nat) (C:Nat→Nat→Prop):Prop :=
 ∃A c,v=.slice A n c∧n≤c∧n≤maxLen∧(0<n→∃b off,A=some ⟨b,off,none⟩∧R b∧C b off)
theorem Row.imp{R R':Nat→Prop} {v:Value} {n:Nat} {C C':Nat→Nat→Prop} (h:Row R v n C) (hr:∀b,R b→R' b) (hc:∀b off,R b→C b off→C' b off):Row R' v n C':=by
 obtain⟨A,c,h1,h2,h3,h4⟩:=h;refine⟨A,c,h1,h2,h3,fun hn=>?_⟩;obtain⟨b,off,e,hb,k⟩:=h4 hn;exact⟨b,off,e,hr b hb,hc b off hb k⟩
theorem Row.nil(R:Nat→Prop) (c:Nat) (C:Nat→Nat→Prop):Row R (.slice none 0 c) 0 C:=⟨none,c,rfl,Nat.zero_le _,Nat.zero_le _,fun h=>absurd h (by omega)⟩
def IntS(w:World) (R:Nat→Prop) (v:Value) (xs:List Int):Prop :=
 Row R v xs.length (fun b off=>∀k x,xs[k]?=some x→w.cell? ⟨b,off+k,none⟩=some (.int .i64 x))∧∀x∈xs,I64 x
theorem IntS.keep{w w':World} {R:Nat→Prop} {v:Value} {xs:List Int} (h:IntS w R v xs) (hk:Kept R w w'):IntS w' R v xs :=
 ⟨h.1.imp (fun _ hb=>hb) fun b off hb hc k x hx=>(hk.cell hb).trans (hc k x hx),h.2⟩
theorem IntS.mono{w:World} {R R':Nat→Prop} {v:Value} {xs:List Int} (h:IntS w R v xs) (hr:∀b,R b→R' b):IntS w R' v xs :=
 ⟨h.1.imp hr fun _ _ _ hc=>hc,h.2⟩
theorem IntS.nil(w:World) (R:Nat→Prop) (c:Nat):IntS w R (.slice none 0 c) []:=⟨Row.nil _ _ _,fun _ h=>by cases h⟩
theorem IntS.own{w:World} {base:Nat} {e:TypeId} {v:Value} {n:Nat} {xs:List Int} {R:Nat→Prop} (h:w.ownsRow base e 1 v n (xs.map (Value.int .i64))) (hR:∀b,v.ownBlock=some b→R b) (hx:∀x∈xs,I64 x):IntS w R v xs:=by
 have hl:xs.length=n:=by have:=h.1;simpa using this
 refine⟨?_,hx⟩
 have hc:=fun g=>h.cells (g:=g)
 rcases h.2 with ⟨rfl,rfl⟩ | ⟨g,cap,cur,rfl,_,_,h2,h3,_⟩
 ·rw[hl];exact Row.nil _ _ _
 ·rw[hl];refine⟨_,cap,rfl,h2,Nat.le_trans h2 h3,fun _=>⟨g,0,rfl,hR g rfl,fun k x hk=>?_⟩⟩;have:=hc g rfl k (.int .i64 x) (by simp[hk]);rw[←this];unfold Addr.add;split <;> simp_all
def bys(l:List UInt8):List Value:=l.map fun b=>Value.int .u8 (b.toNat:Int)
def ByS(w:World) (R:Nat→Prop) (v:Value) (l:List UInt8):Prop :=
 Row R v l.length (fun b off=>∀k x,l[k]?=some x→w.cell? ⟨b,off+k,none⟩=some (.int .u8 (x.toNat:Int)))
theorem ByS.keep{w w':World} {R:Nat→Prop} {v:Value} {l:List UInt8} (h:ByS w R v l) (hk:Kept R w w'):ByS w' R v l :=
 h.imp (fun _ hb=>hb) fun b off hb hc k x hx=>(hk.cell hb).trans (hc k x hx)
theorem ByS.mono{w:World} {R R':Nat→Prop} {v:Value} {l:List UInt8} (h:ByS w R v l) (hr:∀b,R b→R' b):ByS w R' v l:=h.imp hr fun _ _ _ hc=>hc
theorem ByS.own{w:World} {base:Nat} {e:TypeId} {v:Value} {n:Nat} {l:List UInt8} {R:Nat→Prop} (h:w.ownsRow base e 1 v n (bys l)) (hR:∀b,v.ownBlock=some b→R b):ByS w R v l:=by
 have hl:l.length=n:=by have:=h.1;simpa[bys] using this
 have hc:=fun g=>h.cells (g:=g)
 unfold ByS;rcases h.2 with ⟨rfl,rfl⟩ | ⟨g,cap,cur,rfl,_,_,h2,h3,_⟩
 ·rw[hl];exact Row.nil _ _ _
 ·rw[hl];refine⟨_,cap,rfl,h2,Nat.le_trans h2 h3,fun _=>⟨g,0,rfl,hR g rfl,fun k x hk=>?_⟩⟩;have:=hc g rfl k (.int .u8 (x.toNat:Int)) (by simp[bys,hk]);rw[←this];unfold Addr.add;split <;> simp_all
theorem ByS.conv{P:Program} {w:World} {R:Nat→Prop} {v:Value} {l:List UInt8} (h:ByS w R v l) {src dst e:TypeId} (hs:P.underlying src=some (.slice e)) (he:P.underlying e=some (.int .u8)) (hd:P.underlying dst=some .string) :
  (convert src dst v).run P w=.ok (.string ⟨l.toArray⟩) w:=by
 obtain⟨A,c,rfl,h1,h2,h3⟩:=h;by_cases h0:0<l.length
 ·obtain⟨b,off,rfl,_,hc⟩:=h3 h0
  refine run_convert_bytes_back w src dst e _ c l hs he hd fun j hj=>?_
  have:=hc j l[j] (List.getElem?_eq_getElem hj);rw[←this];unfold Addr.add;split <;> simp_all
 ·have hn:l=[]:=List.eq_nil_of_length_eq_zero (by omega);subst hn
  cases A with
  | none=>exact run_convert_bytes_nil w src e hs he _ _ dst hd
  | some ad=>exact run_convert_bytes_back w src dst e ad c [] hs he hd fun j hj=>absurd hj (by simp)
theorem ByS.lit(w:World) (l:List UInt8) (t:TypeId) (hl:l.length≤maxLen):ByS (w.alloc (.cells (bys l).toArray t)) (Bl (w.heap.size+1)) (.slice (some ⟨w.heap.size,0,none⟩) l.length l.length) l :=
 ⟨_,_,rfl,Nat.le_refl _,hl,fun _=>⟨_,_,rfl,Nat.lt_succ_self _,fun k x hk=>by
  rw[Nat.zero_add,cell_of_row _ _ _ _ _ _ (heap_alloc_new w _)]
  simp[bys,hk]⟩⟩
theorem wpList_append1{P:Program} {ops:Array Oper} {rest:List Oper} {o:Oper} {a:Act} {Q:Exit→Act→World→Prop} {w:World} {cs:Array Value} {e:TypeId} (hgd:o.guard=none) (s x:Operand) (t:TypeId)
  (ho:o.op=.call { callee:=.builtin .append,args:=#[s,x],argTypes:=#[t,t] })
  (base:Nat) (i:TypeInfo) (z:Value) (size bytes:Nat) (ht:P.underlying t=some (.slice e)) (hi:P.info? e=some i) (hz:i.zero=some z)
  (hsize:i.size=size) (hby:i.bytes=bytes) (hzs:z.cells.size=size) (hsz:0<size) (hbs:bytes≤4096)
  (v:Value) (n:Nat) (xs:List Value) (hs:a.eval s=v) (hown:w.ownsRow base e size v n xs)
  (hx:a.eval x=.slice (some ⟨w.heap.size,0,none⟩) 1 1) (hcs:cs.size=size) (h1:∀u∈cs.toList,u.oneCell'=true)
  (hn:n+1≤16777216) (hbase:base≤w.heap.size)
  (h:∀v' w',w'.ownsRow base e size v' (n+1) (xs++cs.toList)→w.grownBy w' v.ownBlock→(v'.ownBlock=v.ownBlock∨v'.ownBlock=some (w.heap.size+1))→wpList P ops Q rest (a.put o.dst v') w') :
  wpList P ops Q (o :: rest) a (w.alloc (.cells cs e)):=by
 refine wpList_append_own_at (P:=P) _ hgd s x t ho base e i z size bytes ht hi hz hsize hby hzs hsz v n xs hs (hown.alloc _) ⟨w.heap.size,0,none⟩ 1 1 cs.toList hx (by simp[hcs]) ?_ h1 (by unfold maxLen;omega) ?_ (by simp;omega) ?_
 ·intro j u hj
  have e1:(⟨w.heap.size,0,none⟩:Addr).add j=⟨w.heap.size,j,none⟩:=by unfold Addr.add;split <;> simp_all
  rw[e1,cell_of_row _ _ _ _ _ _ (heap_alloc_new w _)]
  simpa using hj
 ·calc (n+1) * bytes≤16777216 * 4096:=Nat.mul_le_mul hn hbs
   _≤140737488355328:=by decide
 ·intro v' w' h2 h3 _ h5;refine h v' w' h2 ⟨h3.os,h3.tape,h3.output,Nat.le_trans (by simp) h3.size,fun k hk hne=>(h3.block k (by simp;omega) hne).trans (Below.heap_alloc w _ k hk)⟩ ?_
  simpa using h5
theorem wpList_appendm{P:Program} {ops:Array Oper} {rest:List Oper} {o:Oper} {a:Act} {Q:Exit→Act→World→Prop} {w:World} {cs:Array Value} {e:TypeId} (hgd:o.guard=none) (s x:Operand) (t:TypeId)
  (ho:o.op=.call { callee:=.builtin .append,args:=#[s,x],argTypes:=#[t,t] })
  (base:Nat) (i:TypeInfo) (z:Value) (size bytes:Nat) (ht:P.underlying t=some (.slice e)) (hi:P.info? e=some i) (hz:i.zero=some z)
  (hsize:i.size=size) (hby:i.bytes=bytes) (hzs:z.cells.size=size) (hsz:0<size) (hbs:bytes≤4096)
  (v:Value) (n m:Nat) (xs:List Value) (hs:a.eval s=v) (hown:w.ownsRow base e size v n xs)
  (hx:a.eval x=.slice (some ⟨w.heap.size,0,none⟩) m m) (hcs:cs.size=m * size) (h1:∀u∈cs.toList,u.oneCell'=true)
  (hn:n+m≤16777216) (hbase:base≤w.heap.size)
  (h:∀v' w',w'.ownsRow base e size v' (n+m) (xs++cs.toList)→w.grownBy w' v.ownBlock→(v'.ownBlock=v.ownBlock∨v'.ownBlock=some (w.heap.size+1))→wpList P ops Q rest (a.put o.dst v') w') :
  wpList P ops Q (o :: rest) a (w.alloc (.cells cs e)):=by
 refine wpList_append_own_at (P:=P) _ hgd s x t ho base e i z size bytes ht hi hz hsize hby hzs hsz v n xs hs (hown.alloc _) ⟨w.heap.size,0,none⟩ m m cs.toList hx (by simp[hcs]) ?_ h1 (by unfold maxLen;omega) ?_ (by simp;omega) ?_
 ·intro j u hj
  have e1:(⟨w.heap.size,0,none⟩:Addr).add j=⟨w.heap.size,j,none⟩:=by unfold Addr.add;split <;> simp_all
  rw[e1,cell_of_row _ _ _ _ _ _ (heap_alloc_new w _)]
  simpa using hj
 ·calc (n+m) * bytes≤16777216 * 4096:=Nat.mul_le_mul hn hbs
   _≤140737488355328:=by decide
 ·intro v' w' h2 h3 _ h5;refine h v' w' h2 ⟨h3.os,h3.tape,h3.output,Nat.le_trans (by simp) h3.size,fun k hk hne=>(h3.block k (by simp;omega) hne).trans (Below.heap_alloc w _ k hk)⟩ ?_
  simpa using h5
theorem Below.on{B:Nat} {w W w2:World} (h1:Below B w W) (hB:B≤W.heap.size) (h:Below W.heap.size W w2):Below B w w2:=h1.trans (h.mono hB)
theorem below_box{w w2:World} {o:Obj} (h:Below (w.alloc o).heap.size (w.alloc o) w2):Below w.heap.size w w2 :=
 Below.on ((Below.refl w.heap.size w).alloc (Nat.le_refl _) o) (by simp) h
theorem ret_int{k:IntKind} {a b:Int} (h:a=b):Ending.returned (.int k a)=.returned (.int k b):=by rw[h]
theorem ret_bool{a b:Bool} (h:a=b):Ending.returned (.bool a)=.returned (.bool b):=by rw[h]
theorem Below.drewN'{B:Nat} {a w:World} (h:Below B a w) (n:Nat):Below B a (w.drewN n):=⟨h.os,h.tape,h.output,h.size,h.block⟩
section
variable {P : Program} {ops : Array Oper} {Q : Exit → Act → World → Prop} {md : Region.Mode} {S : World → Prop} {T : List Nat}
def wpTail(P:Program) (md:Region.Mode) (ops:Array Oper) (Q:Exit→Act→World→Prop) (S:World→Prop) (T:List Nat):Nat→Array Bool→Act→World→Prop
 | 0,l,a,w=>Region.ready md ops l=[]∧Q .normal a w
 | n+1,l,a,w=>(Region.ready md ops l=[]→Q .normal a w) ∧
  ∀i∈Region.ready md ops l,wpOp P ops Q i (fun a' w'=>(i∉T→S w')∧wpTail P md ops Q S T n (l.setIfInBounds i true) a' w') a w
theorem wpAny_of_tail:∀(n:Nat) (l:Array Bool) (a:Act) (w:World),wpTail P md ops Q S T n l a w→wpAny P md ops Q n l a w
 | 0,_,_,_,h=>h
 | n+1,_,_,_,h=>⟨h.1,fun i hi=>wpOp_mono (fun a' w' h'=>wpAny_of_tail n _ a' w' h'.2) (h.2 i hi)⟩
def Closed(md:Region.Mode) (ops:Array Oper) (l:Array Bool):Prop:=∀k o,ops[k]?=some o→l.getD k true=true→∀e∈o.after,Region.binds md e=true→l.getD e.on true=true
theorem getD_ft{l:Array Bool} {k:Nat} (h:l.getD k false=true):l.getD k true=true:=by
 rcases Nat.lt_or_ge k l.size with h1 | h1
 ·simp[Array.getD,h1] at h ⊢;exact h
 ·unfold Array.getD;rw[dif_neg (by omega)]
theorem Closed.start:Closed md ops (Array.replicate ops.size false):=fun k o ho hk=>by
 have h1:k<ops.size:=(Array.getElem?_eq_some_iff.1 ho).1;simp[Array.getD,h1] at hk
theorem Closed.set_{l:Array Bool} (h:Closed md ops l) {i:Nat} (hr:i∈Region.ready md ops l):Closed md ops (l.setIfInBounds i true):=by
 have hmono:∀k,l.getD k true=true→(l.setIfInBounds i true).getD k true=true:=fun k hk=>by
  by_cases e:i=k
  ·subst e;rcases Nat.lt_or_ge i l.size with h1 | h1
   ·simp[Array.getD,h1]
   ·simp[Array.getD,h1]
  ·rw[getD_set_ne true e];exact hk
 intro k o ho hk e he hb;by_cases hki:i=k
 ·subst hki;obtain⟨_,o',ho',hall⟩:=mem_ready.1 hr;rw[ho] at ho';injection ho' with ho';subst ho';have h1:=hall e he hb;exact hmono _ (getD_ft h1)
 ·rw[getD_set_ne true hki] at hk;exact hmono _ (h k o ho hk e he hb)
def reach(md:Region.Mode) (ops:Array Oper) (i:Nat):Nat→Nat→Bool
 | 0,_=>false
 | n+1,t=>match ops[t]? with
  | some o=>(o.after.toList.any fun e=>Region.binds md e&&e.on==i)||(o.after.toList.any fun e=>Region.binds md e&&reach md ops i n e.on)
  | none=>false
theorem reach_spec{i:Nat} {l:Array Bool} (hc:Closed md ops l) (hi:l.getD i true=false):∀(n t:Nat),reach md ops i n t=true→∃o,ops[t]?=some o∧∃e∈o.after,Region.binds md e=true∧l.getD e.on true=false:=by
 intro n
 induction n with
 | zero=>intro t h;simp[reach] at h
 | succ n ih =>
  intro t h;unfold reach at h
  cases ho:ops[t]? with
  | none=>rw[ho] at h;cases h
  | some o =>
   rw[ho] at h;refine⟨o,rfl,?_⟩;simp only[Bool.or_eq_true] at h;rcases h with h | h
   ·obtain⟨e,he,h2⟩:=List.any_eq_true.1 h;rw[Bool.and_eq_true] at h2
    have h3:e.on=i:=by simpa using h2.2
    exact⟨e,by simpa using he,h2.1,by rw[h3];exact hi⟩
   ·obtain⟨e,he,h2⟩:=List.any_eq_true.1 h;rw[Bool.and_eq_true] at h2;obtain⟨o2,ho2,e2,he2,hb2,hl2⟩:=ih e.on h2.2;refine⟨e,by simpa using he,h2.1,?_⟩
    cases hl:l.getD e.on true with
    | false=>rfl
    | true=>rw[hc e.on o2 ho2 hl e2 he2 hb2] at hl2;cases hl2
def waits(md:Region.Mode) (ops:Array Oper) (T:List Nat) (i:Nat):Bool:=T.all fun t=>reach md ops i 4 t
theorem wpTail_first{i:Nat} {oi:Oper} {v:Value} (hi:ops[i]?=some oi) (hsel:∀(j:Nat) (o:Oper) cs b,ops[j]?=some o→o.op≠.select cs b)
  (hQ:∀c a w,Q (.panic c) (a.put oi.dst v) w→Q (.panic c) a w) (hT:∀t∈T,reach md ops i 4 t=true) :
  ∀(n:Nat) (l:Array Bool) (a:Act) (w:World),Closed md ops l →
   (∀j oj,ops[j]?=some oj→j≠i→l.getD j true=false→(∀e∈oj.after,Region.binds md e=true→e.on≠i)→oi.apart ops oj=true) →
   i∈Region.ready md ops l→YieldsIf P ops S oi v a→S w →
   wpTail P md ops Q S T n (l.setIfInBounds i true) (a.put oi.dst v) w→wpTail P md ops Q S T (n+1) l a w:=by
 intro n
 induction n with
 | zero =>
  intro l a w _ _ hr hy hS H;refine⟨fun h=>(by rw[h] at hr;cases hr),fun j hj=>?_⟩;by_cases hji:j=i
  ·subst hji;exact hy.wpOp hi hS ⟨fun _=>hS,H⟩
  ·have:=ready_mono hj hji;rw[H.1] at this
   cases this
 | succ n ih =>
  intro l a w hcl hfree hr hy hS H;refine⟨fun h=>(by rw[h] at hr;cases hr),fun j hj=>?_⟩;by_cases hji:j=i
  ·subst hji;exact hy.wpOp hi hS ⟨fun _=>hS,H⟩
  ·have h1:=H.2 j (ready_mono hj hji);obtain⟨hjun,oj,hoj,hall⟩:=mem_ready.1 hj;have hiun:=(mem_ready.1 hr).1
   have hnot:∀e∈oj.after,Region.binds md e=true→e.on≠i:=fun e he hb heq=>by
    have h1:=hall e he hb;have h0:=hiun;rw[heq] at h1;rcases Nat.lt_or_ge i l.size with h' | h'
    ·simp[h'] at h0 h1;rw[h0] at h1;cases h1
    ·simp[Array.getElem?_eq_none h'] at h1
   have hi0:l.getD i true=false:=hiun
   have hjT:j∉T:=fun ht=>by
    obtain⟨o,ho,e,he,hb,hl⟩:=reach_spec hcl hi0 4 j (hT j ht);rw[hoj] at ho;injection ho with ho;subst ho;have h2:=hall e he hb;have h3:l.getD e.on true=true:=getD_ft h2;rw[h3] at hl
    cases hl
   have h2:=wpOp_putIf hoj (hfree j oj hoj hji hjun hnot) (fun cs b=>hsel i oi cs b hi) (fun cs b=>hsel j oj cs b hoj) hQ hy h1
   have hfree':∀k ok,ops[k]?=some ok→k≠i→(l.setIfInBounds j true).getD k true=false →
     (∀e∈ok.after,Region.binds md e=true→e.on≠i)→oi.apart ops ok=true:=fun k ok hk hki hun hno=>by
    refine hfree k ok hk hki ?_ hno;by_cases hjk:j=k
    ·subst hjk;exact hjun
    ·rw[getD_set_ne true hjk] at hun;exact hun
   refine wpOp_mono (fun a' w' h3=>⟨fun _=>h3.2.1 hjT,ih (l.setIfInBounds j true) a' w' (hcl.set_ hj) hfree' (ready_mono hr (Ne.symm hji)) h3.1 (h3.2.1 hjT) ?_⟩) h2;rw[Array.setIfInBounds_comm _ _ hji];exact h3.2.2
def Tail(P:Program) (md:Region.Mode) (ops:Array Oper) (Q:Exit→Act→World→Prop) (S:World→Prop) (T:List Nat) (n:Nat) (l:Array Bool) (a:Act) (w:World):Prop:=Closed md ops l→wpTail P md ops Q S T n l a w
theorem takeT{i d:Nat} {oi:Oper} {v:Value} {n:Nat} {l:Array Bool} {a:Act} {w:World} (hi:ops[i]?=some oi) (hd:oi.dst=some d)
  (hs:Region.noSelect ops=true) (hf:Region.free md ops l i=true) (hr:(Region.ready md ops l).contains i=true) (hT:waits md ops T i=true)
  (hQ:∀c a w,Q (.panic c) (a.put (some d) v) w→Q (.panic c) a w) (hy:YieldsIf P ops S oi v a) (hS:S w)
  (h:Tail P md ops Q S T n (l.setIfInBounds i true) (a.put (some d) v) w):Tail P md ops Q S T (n+1) l a w:=fun hc =>
 wpTail_first hi (Region.noSelect_spec hs) (by rw[hd];exact hQ) (fun t ht=>List.all_eq_true.1 hT t ht) n l a w hc (Region.free_spec hi hf) (by simpa using hr) hy hS (by rw[hd];exact h (hc.set_ (by simpa using hr)))
theorem doneT{l:Array Bool} {a:Act} {w:World} (hr:Region.ready md ops l=[]) (h:Q .normal a w):∀n,Tail P md ops Q S T n l a w
 | 0=>fun _=>⟨hr,h⟩
 | _+1=>fun _=>⟨fun _=>h,by rw[hr];simp⟩
def AllReadyT(P:Program) (md:Region.Mode) (ops:Array Oper) (Q:Exit→Act→World→Prop) (S:World→Prop) (T:List Nat) (n:Nat) (l:Array Bool) (a:Act) (w:World) (rs:List Nat):Prop :=
 ∀i∈rs,wpOp P ops Q i (fun a' w'=>(i∉T→S w')∧Tail P md ops Q S T n (l.setIfInBounds i true) a' w') a w
theorem AllReadyT.nil{n:Nat} {l:Array Bool} {a:Act} {w:World}:AllReadyT P md ops Q S T n l a w []:=fun _ h=>by cases h
theorem AllReadyT.cons{n:Nat} {l:Array Bool} {a:Act} {w:World} {i:Nat} {o:Oper} {rs:List Nat} (ho:ops[i]?=some o)
  (h:∀K':Act→World→Prop,Shut (∀a w,S w→(S w→Tail P md ops Q S T n (l.setIfInBounds i true) a w)→K' a w)→if Region.wanted o (yielded ops a.tmps)=true then Oper.wp P o a w K' Q else K' (a.put o.dst undef) w)
  (hs:AllReadyT P md ops Q S T n l a w rs):AllReadyT P md ops Q S T n l a w (i :: rs):=fun j hj=>by
 rcases List.mem_cons.1 hj with rfl | hj
 ·exact wpOp_step ho (fun K' hK=>h K' (fun a w hS hW=>hK a w ⟨fun _=>hS,hW hS⟩))
 ·exact hs j hj
theorem AllReadyT.consT{n:Nat} {l:Array Bool} {a:Act} {w:World} {i:Nat} {o:Oper} {rs:List Nat} (ho:ops[i]?=some o) (hi:T.contains i=true)
  (h:∀K':Act→World→Prop,Shut (∀a w,Tail P md ops Q S T n (l.setIfInBounds i true) a w→K' a w)→if Region.wanted o (yielded ops a.tmps)=true then Oper.wp P o a w K' Q else K' (a.put o.dst undef) w)
  (hs:AllReadyT P md ops Q S T n l a w rs):AllReadyT P md ops Q S T n l a w (i :: rs):=fun j hj=>by
 rcases List.mem_cons.1 hj with rfl | hj
 ·exact wpOp_step ho (fun K' hK=>h K' (fun a w hW=>hK a w ⟨fun hn=>absurd (by simpa using hi) hn,hW⟩))
 ·exact hs j hj
theorem readyT{rs:List Nat} {n:Nat} {l:Array Bool} {a:Act} {w:World} (hr:Region.ready md ops l=rs) (hne:rs≠[])
  (h:AllReadyT P md ops Q S T n l a w rs):Tail P md ops Q S T (n+1) l a w:=fun hc =>
 ⟨fun h0=>absurd (hr▸h0) hne,fun i hi=>wpOp_mono (fun a' w' h'=>⟨h'.1,h'.2 (hc.set_ hi)⟩) (h i (hr▸hi))⟩
theorem region_tail{id:Nat} {a:Act} {w:World} (T:List Nat) (hm:P.follows .mixedOrders=true) (hS:S w.drew)
  (h:S w.drew→Tail P .any ops Q S T ops.size (Array.replicate ops.size false) a w.drew):(Code.region id ops true).wp P Q a w :=
 wp_region_any hm (wpAny_of_tail _ _ _ _ (h hS Closed.start))
end
section
variable {P : Program} {md : Region.Mode} {ops : Array Oper} {Q : Exit → Act → World → Prop} {S : World → Prop} {T : List Nat}
theorem tk(i d:Nat) {oi:Oper} {v:Value} {n:Nat} {l:Array Bool} {a a':Act} {w:World} (h:Tail P md ops Q S T n (l.setIfInBounds i true) a' w) (hi:ops[i]?=some oi:=by rfl) (hd:oi.dst=some d:=by rfl)
  (hs:Region.noSelect ops=true:=by kernel_rfl) (hf:Region.free md ops l i=true:=by kernel_rfl) (hr:(Region.ready md ops l).contains i=true:=by kernel_rfl) (hT:waits md ops T i=true:=by kernel_rfl)
  (hQ:∀c a w,Q (.panic c) (a.put (some d) v) w→Q (.panic c) a w:=by exact fun _ _ _ h=>h) (hw:Region.wanted oi (yielded ops a.tmps)=true:=by rfl)
  (hy:∀w,S w→(execOp a.eval oi).run P w=.ok (.value v) w:=by intro w hSw;(try dsimp only at hSw);go_simp;first | done | with_reducible rfl)
  (hS:S w:=by assumption) (ha:a.put (some d) v=a':=by first | (simp only[Act.put,List.setIfInBounds_toArray,List.set_cons_zero,List.set_cons_succ];done) | (simp only[Act.put,List.setIfInBounds_toArray,List.set_cons_zero,List.set_cons_succ];rfl) | rfl) :
  Tail P md ops Q S T (n+1) l a w:=takeT (i:=i) (d:=d) (v:=v) hi hd hs hf hr hT hQ (Or.inl ⟨hw,hy⟩) hS (ha▸h)
theorem tks(i d:Nat) {oi:Oper} {n:Nat} {l:Array Bool} {a a':Act} {w:World} (h:Tail P md ops Q S T n (l.setIfInBounds i true) a' w) (hi:ops[i]?=some oi:=by rfl) (hd:oi.dst=some d:=by rfl)
  (hs:Region.noSelect ops=true:=by kernel_rfl) (hf:Region.free md ops l i=true:=by kernel_rfl) (hr:(Region.ready md ops l).contains i=true:=by kernel_rfl) (hT:waits md ops T i=true:=by kernel_rfl)
  (hQ:∀c a w,Q (.panic c) (a.put (some d) undef) w→Q (.panic c) a w:=by exact fun _ _ _ h=>h) (hw:Region.wanted oi (yielded ops a.tmps)=false:=by kernel_rfl)
  (hS:S w:=by assumption) (ha:a.put (some d) undef=a':=by first | (simp only[Act.put,List.setIfInBounds_toArray,List.set_cons_zero,List.set_cons_succ];done) | (simp only[Act.put,List.setIfInBounds_toArray,List.set_cons_zero,List.set_cons_succ];rfl) | rfl) :
  Tail P md ops Q S T (n+1) l a w:=takeT (i:=i) (d:=d) (v:=undef) hi hd hs hf hr hT hQ (Or.inr ⟨hw,rfl⟩) hS (ha▸h)
theorem rd1(i:Nat) {o:Oper} {n:Nat} {l:Array Bool} {a:Act} {w:World}
  (h:∀K':Act→World→Prop,Shut (∀a w,S w→(S w→Tail P md ops Q S T n (l.setIfInBounds i true) a w)→K' a w)→if Region.wanted o (yielded ops a.tmps)=true then Oper.wp P o a w K' Q else K' (a.put o.dst undef) w)
  (ho:ops[i]?=some o:=by rfl) (hr:Region.ready md ops l=[i]:=by kernel_rfl):Tail P md ops Q S T (n+1) l a w:=readyT hr (by simp) (AllReadyT.cons ho h AllReadyT.nil)
theorem rd1T(i:Nat) {o:Oper} {n:Nat} {l:Array Bool} {a:Act} {w:World}
  (h:∀K':Act→World→Prop,Shut (∀a w,Tail P md ops Q S T n (l.setIfInBounds i true) a w→K' a w)→if Region.wanted o (yielded ops a.tmps)=true then Oper.wp P o a w K' Q else K' (a.put o.dst undef) w)
  (ho:ops[i]?=some o:=by rfl) (hi:T.contains i=true:=by rfl) (hr:Region.ready md ops l=[i]:=by kernel_rfl):Tail P md ops Q S T (n+1) l a w:=readyT hr (by simp) (AllReadyT.consT ho hi h AllReadyT.nil)
end
theorem zx {α : Sort _} (a : α) : ∃ x, x = a := ⟨_, rfl⟩
theorem zh {p : Prop} (h : p) : Hid p := h
theorem zA : type_of% @Array.getElem?_eq_some_iff := @Array.getElem?_eq_some_iff
theorem zL : type_of% @List.getElem?_eq_some_iff := @List.getElem?_eq_some_iff
theorem zG : type_of% @List.getElem?_eq_getElem := @List.getElem?_eq_getElem
theorem zM : type_of% @Nat.lt_of_lt_of_le := @Nat.lt_of_lt_of_le
theorem zR : type_of% @Nat.le_refl := @Nat.le_refl
theorem zB : type_of% @Below.refl := @Below.refl
theorem zN : type_of% @heap_alloc_new := @heap_alloc_new
theorem zE : type_of% @AllReadyT.nil := @AllReadyT.nil
theorem zC : type_of% @AllReadyT.cons := @AllReadyT.cons
theorem zD : type_of% @AllReadyT.consT := @AllReadyT.consT
theorem zH : type_of% @Below.heap_alloc := @Below.heap_alloc
theorem zP : type_of% @List.length_append := @List.length_append
theorem zI : type_of% @IntWalk.i64_in := @IntWalk.i64_in
theorem z1 : type_of% @List.setIfInBounds_toArray := @List.setIfInBounds_toArray
theorem z2 : type_of% @List.set_cons_zero := @List.set_cons_zero
theorem z3 : type_of% @List.set_cons_succ := @List.set_cons_succ
theorem heap_alloc_at(w:World)(o:Obj)(n:Nat)(h:n=w.heap.size):(w.alloc o).heap[n]?=some o:=by subst h;exact zN w o
def bitU(b:UInt8)(n:Nat):Bool:=b.toNat.testBit n
def xt(a:UInt8):UInt8:=(a <<< 1) ^^^ (if bitU a 7 then 29 else 0)
def xtK:Nat->UInt8->UInt8
 | 0,a=>a
 | n+1,a=>xt (xtK n a)
theorem all8{P:UInt8->Prop}(h:∀n:Nat,n<256->P (UInt8.ofNat n))(a:UInt8):P a:=by
 have:=h a.toNat a.toNat_lt
 rwa [UInt8.ofNat_toNat] at this
theorem bitU_xor(a b:UInt8)(n:Nat):bitU (a ^^^ b) n=(bitU a n ^^ bitU b n):=by unfold bitU;rw[UInt8.toNat_xor,Nat.testBit_xor]
theorem u8_ext{a b:UInt8}(h:∀n,n<8->bitU a n=bitU b n):a=b:=by
 apply UInt8.toNat_inj.1;apply Nat.eq_of_testBit_eq;intro i;by_cases hi:i<8
 ·exact h i hi
 ·have hb:∀c:UInt8,c.toNat.testBit i=false:=fun c=>Nat.testBit_lt_two_pow (zM c.toNat_lt (Nat.pow_le_pow_right (by omega) (by omega)))
  rw[hb,hb]
theorem bitU_shl(a:UInt8)(n:Nat)(h:n<8):bitU (a <<< 1) n=(decide (1<=n)&&bitU a (n-1)):=by
 unfold bitU;rw[UInt8.toNat_shiftLeft];show((a.toNat <<< 1) % 2 ^ 8).testBit n=_;rw[Nat.testBit_mod_two_pow,Nat.testBit_shiftLeft];simp[h]
theorem shl_xor(a b:UInt8):(a ^^^ b) <<< 1=(a <<< 1) ^^^ (b <<< 1):=by
 apply u8_ext;intro n hn;rw[bitU_xor,bitU_shl _ _ hn,bitU_shl _ _ hn,bitU_shl _ _ hn,bitU_xor]
 cases decide (1<=n) <;> simp
theorem xor4u(a b c d:UInt8):(a ^^^ b) ^^^ (c ^^^ d)=(a ^^^ c) ^^^ (b ^^^ d):=by
 rw[UInt8.xor_assoc,UInt8.xor_assoc,<-UInt8.xor_assoc b,UInt8.xor_comm b c,UInt8.xor_assoc c]
theorem xor_self(a:UInt8):a ^^^ a=0:=UInt8.xor_self
theorem xor_zero(a:UInt8):a ^^^ 0=a:=UInt8.xor_zero
theorem zero_xor(a:UInt8):0 ^^^ a=a:=UInt8.zero_xor
theorem xor_eq_zero{a b:UInt8}(h:a ^^^ b=0):a=b:=by
 have:(a ^^^ b) ^^^ b=0 ^^^ b:=by rw[h]
 rwa [UInt8.xor_assoc,xor_self,xor_zero,zero_xor] at this
theorem xt_xor(a b:UInt8):xt (a ^^^ b)=xt a ^^^ xt b:=by
 unfold xt;rw[bitU_xor,shl_xor,xor4u (a <<< 1)]
 congr 1
 cases bitU a 7 <;> cases bitU b 7 <;> decide
theorem xt_zero:xt 0=0:=by decide
theorem xtK_xor(n:Nat)(a b:UInt8):xtK n (a ^^^ b)=xtK n a ^^^ xtK n b:=by
 induction n with
 | zero=>rfl
 | succ n ih=>show xt (xtK n (a ^^^ b))=xt (xtK n a) ^^^ xt (xtK n b);rw[ih,xt_xor]
theorem xtK_zero(n:Nat):xtK n 0=0:=by
 induction n with
 | zero=>rfl
 | succ n ih=>show xt (xtK n 0)=0;rw[ih,xt_zero]
theorem xtK_add(m n:Nat)(a:UInt8):xtK (m+n) a=xtK m (xtK n a):=by
 induction m with
 | zero=>rw[Nat.zero_add];rfl
 | succ m ih=>rw[Nat.succ_add];show xt (xtK (m+n) a)=xt (xtK m (xtK n a));rw[ih]
def gm:Nat->UInt8->UInt8->UInt8
 | 0,_,_=>0
 | n+1,a,b=>gm n a b ^^^ (if bitU b n then xtK n a else 0)
def gmul(a b:UInt8):UInt8:=gm 8 a b
theorem gm_left(n:Nat)(a a' b:UInt8):gm n (a ^^^ a') b=gm n a b ^^^ gm n a' b:=by
 induction n with
 | zero=>exact(xor_zero 0).symm
 | succ n ih =>
  show gm n (a ^^^ a') b ^^^ _=(gm n a b ^^^ _) ^^^ (gm n a' b ^^^ _)
  rw[ih,xtK_xor,xor4u]
  cases bitU b n <;> simp
theorem gm_right(n:Nat)(a b b':UInt8):gm n a (b ^^^ b')=gm n a b ^^^ gm n a b':=by
 induction n with
 | zero=>exact(xor_zero 0).symm
 | succ n ih =>
  show gm n a (b ^^^ b') ^^^ _=(gm n a b ^^^ _) ^^^ (gm n a b' ^^^ _)
  rw[ih,bitU_xor,xor4u]
  cases bitU b n <;> cases bitU b' n <;> simp
theorem gmul_left(a a' b:UInt8):gmul (a ^^^ a') b=gmul a b ^^^ gmul a' b:=gm_left 8 a a' b
theorem gmul_right(a b b':UInt8):gmul a (b ^^^ b')=gmul a b ^^^ gmul a b':=gm_right 8 a b b'
theorem gm_zero_left(n:Nat)(b:UInt8):gm n 0 b=0:=by
 induction n with
 | zero=>rfl
 | succ n ih=>show gm n 0 b ^^^ _=0;rw[ih,xtK_zero];simp
theorem gm_zero_right(n:Nat)(a:UInt8):gm n a 0=0:=by
 induction n with
 | zero=>rfl
 | succ n ih =>
  show gm n a 0 ^^^ _=0
  rw[ih]
  have:bitU 0 n=false:=by unfold bitU;simp
  rw[this];simp
theorem zero_gmul(b:UInt8):gmul 0 b=0:=gm_zero_left 8 b
theorem gmul_zero(a:UInt8):gmul a 0=0:=gm_zero_right 8 a
theorem gmul_one(a:UInt8):gmul a 1=a:=by
 have h0:bitU 1 0=true:=by decide
 have h1:bitU 1 1=false:=by decide
 have h2:bitU 1 2=false:=by decide
 have h3:bitU 1 3=false:=by decide
 have h4:bitU 1 4=false:=by decide
 have h5:bitU 1 5=false:=by decide
 have h6:bitU 1 6=false:=by decide
 have h7:bitU 1 7=false:=by decide
 simp[gmul,gm,h0,h1,h2,h3,h4,h5,h6,h7,xtK]
theorem gm_shl(a b:UInt8):∀n,n<8->gm (n+1) a (b <<< 1)=xt (gm n a b):=by
 intro n
 induction n with
 | zero =>
  intro _;show(0:UInt8) ^^^ _=xt 0;rw[bitU_shl _ _ (by omega),xt_zero];simp
 | succ n ih =>
  intro h;show gm (n+1) a (b <<< 1) ^^^ _=xt (gm n a b ^^^ _);rw[ih (by omega),xt_xor,bitU_shl _ _ (by omega)]
  congr 1
  have e:n+1-1=n:=rfl;rw[e]
  cases bitU b n
  ·simp[xt_zero]
  ·simp;rfl
theorem gmul_29(a:UInt8):gmul a 29=xtK 8 a:=all8 (P:=fun a=>gmul a 29=xtK 8 a) (by decide +kernel) a
theorem gmul_xt(a b:UInt8):gmul a (xt b)=xt (gmul a b):=by
 have e:xt (gmul a b)=xt (gm 7 a b) ^^^ (if bitU b 7 then xtK 8 a else 0):=by
  show xt (gm 7 a b ^^^ _)=_
  rw[xt_xor]
  cases bitU b 7
  ·simp[xt_zero]
  ·simp;rfl
 rw[e];unfold xt;rw[gmul_right];have h:=gm_shl a b 7 (by omega);show gm 8 a (b <<< 1) ^^^ _=_;rw[h]
 congr 1
 cases bitU b 7
 ·simp[gmul_zero]
 ·simp[gmul_29]
theorem gmul_xtK(a b:UInt8)(n:Nat):gmul a (xtK n b)=xtK n (gmul a b):=by
 induction n with
 | zero=>rfl
 | succ n ih=>show gmul a (xt (xtK n b))=xt (xtK n (gmul a b));rw[gmul_xt,ih]
theorem gmul_gen(a:UInt8)(n:Nat):gmul a (xtK n 1)=xtK n a:=by rw[gmul_xtK,gmul_one]
def logT:List Nat:=[0,0,1,25,2,50,26,198,3,223,51,238,27,104,199,75,4,100,224,14,52,141,239,129,28,193,105,248,200,8,76,113,5,138,101,47,225,36,15,33,53,147,142,218,240,18,130,69,29,181,194,125,106,39,249,185,201,154,9,120,77,228,114,166,6,191,139,98,102,221,48,253,226,152,37,179,16,145,34,136,54,208,148,206,143,150,219,189,241,210,19,92,131,56,70,64,30,66,182,163,195,72,126,110,107,58,40,84,250,133,186,61,202,94,155,159,10,21,121,43,78,212,229,172,115,243,167,87,7,112,192,247,140,128,99,13,103,74,222,237,49,197,254,24,227,165,153,119,38,184,180,124,17,68,146,217,35,32,137,46,55,63,209,91,149,188,207,205,144,135,151,178,220,252,190,97,242,86,211,171,20,42,93,158,132,60,57,83,71,109,65,162,31,45,67,216,183,123,164,118,196,23,73,236,127,12,111,246,108,161,59,82,41,157,85,170,251,96,134,177,187,204,62,90,203,89,95,176,156,169,160,81,11,245,22,235,122,117,44,215,79,174,213,233,230,231,173,232,116,214,244,234,168,80,88,175]
theorem log_all:∀n:Nat,n<256->n=0\/xtK (logT.getD n 0) 1=UInt8.ofNat n:=by decide +kernel
theorem gen_all(a:UInt8)(h:a≠0):∃k,a=xtK k 1:=by
 refine⟨logT.getD a.toNat 0,?_⟩;rcases log_all a.toNat a.toNat_lt with h0 | h0
 ·exact absurd (UInt8.toNat_inj.1 (by simpa using h0)) h
 ·rw[h0,UInt8.ofNat_toNat]
theorem gmul_comm(a b:UInt8):gmul a b=gmul b a:=by
 by_cases ha:a=0
 ·rw[ha,zero_gmul,gmul_zero]
 by_cases hb:b=0
 ·rw[hb,zero_gmul,gmul_zero]
 obtain⟨j,rfl⟩:=gen_all a ha;obtain⟨k,rfl⟩:=gen_all b hb;rw[gmul_gen,gmul_gen,<-xtK_add,<-xtK_add,Nat.add_comm]
theorem gmul_assoc(a b c:UInt8):gmul (gmul a b) c=gmul a (gmul b c):=by
 by_cases hc:c=0
 ·rw[hc,gmul_zero,gmul_zero,gmul_zero]
 obtain⟨k,rfl⟩:=gen_all c hc;rw[gmul_gen,gmul_gen,gmul_xtK]
theorem one_gmul(a:UInt8):gmul 1 a=a:=by rw[gmul_comm,gmul_one]
theorem gen_255:xtK 255 1=1:=by decide +kernel
theorem xtK_255(a:UInt8):xtK 255 a=a:=by rw[<-gmul_gen,gen_255,gmul_one]
theorem xtK_mul(j:Nat)(a:UInt8):xtK (j*255) a=a:=by
 induction j with
 | zero=>rw[Nat.zero_mul];rfl
 | succ j ih=>rw[Nat.succ_mul,xtK_add,xtK_255,ih]
def gpow(a:UInt8):Nat->UInt8
 | 0=>1
 | n+1=>gmul (gpow a n) a
def ginv(a:UInt8):UInt8:=gpow a 254
theorem gpow_gen(j n:Nat):gpow (xtK j 1) n=xtK (j*n) 1:=by
 induction n with
 | zero=>rfl
 | succ n ih=>show gmul (gpow (xtK j 1) n) (xtK j 1)=_;rw[ih,gmul_gen,<-xtK_add,Nat.mul_succ,Nat.add_comm]
theorem gpow_add(a:UInt8)(m n:Nat):gpow a (m+n)=gmul (gpow a m) (gpow a n):=by
 induction n with
 | zero=>rw[Nat.add_zero];show _=gmul _ 1;rw[gmul_one]
 | succ n ih=>show gmul (gpow a (m+n)) a=gmul (gpow a m) (gmul (gpow a n) a);rw[ih,gmul_assoc]
theorem gpow_sq(a:UInt8)(n:Nat):gpow (gmul a a) n=gpow a (2*n):=by
 induction n with
 | zero=>rfl
 | succ n ih =>
  show gmul (gpow (gmul a a) n) (gmul a a)=_
  rw[ih,show 2*(n+1)=2*n+1+1 from by omega];show _=gmul (gmul (gpow a (2*n)) a) a;rw[gmul_assoc]
theorem gmul_inv(a:UInt8)(h:a≠0):gmul a (ginv a)=1:=by
 obtain⟨j,rfl⟩:=gen_all a h;unfold ginv;rw[gpow_gen,gmul_gen,<-xtK_add,Nat.add_comm (j*254),Nat.add_comm j,<-Nat.mul_succ];exact xtK_mul j 1
theorem gmul_eq_zero{a b:UInt8}(h:gmul a b=0):a=0\/b=0:=by
 by_cases ha:a=0
 ·exact .inl ha
 ·refine .inr ?_
  have e:gmul (ginv a) (gmul a b)=b:=by rw[<-gmul_assoc,gmul_comm (ginv a),gmul_inv a ha,one_gmul]
  rw[<-e,h,gmul_zero]
instance:Std.Associative gmul:=⟨gmul_assoc⟩
instance:Std.Commutative gmul:=⟨gmul_comm⟩
def lsum{α:Type}(l:List α)(f:α->UInt8):UInt8:=l.foldr (fun a s=>f a ^^^ s) 0
section
variable {α β : Type}
theorem lsum_cons(a:α)(l:List α)(f:α->UInt8):lsum (a :: l) f=f a ^^^ lsum l f:=rfl
theorem lsum_congr{l:List α}{f g:α->UInt8}(h:∀a∈l,f a=g a):lsum l f=lsum l g:=by
 induction l with
 | nil=>rfl
 | cons a l ih=>rw[lsum_cons,lsum_cons,h a (by simp),ih (fun x hx=>h x (by simp[hx]))]
theorem lsum_zero{l:List α}{f:α->UInt8}(h:∀a∈l,f a=0):lsum l f=0:=by
 induction l with
 | nil=>rfl
 | cons a l ih=>rw[lsum_cons,h a (by simp),ih (fun x hx=>h x (by simp[hx])),xor_zero]
theorem lsum_xor(l:List α)(f g:α->UInt8):lsum l (fun a=>f a ^^^ g a)=lsum l f ^^^ lsum l g:=by
 induction l with
 | nil=>exact(xor_zero 0).symm
 | cons a l ih=>rw[lsum_cons,lsum_cons,lsum_cons,ih,xor4u]
theorem lsum_mul(c:UInt8)(l:List α)(f:α->UInt8):gmul c (lsum l f)=lsum l (fun a=>gmul c (f a)):=by
 induction l with
 | nil=>exact gmul_zero c
 | cons a l ih=>rw[lsum_cons,lsum_cons,gmul_right,ih]
theorem lsum_append(l m:List α)(f:α->UInt8):lsum (l++m) f=lsum l f ^^^ lsum m f:=by
 induction l with
 | nil=>exact(zero_xor _).symm
 | cons a l ih=>rw[List.cons_append,lsum_cons,lsum_cons,ih,UInt8.xor_assoc]
theorem lsum_map(g:α->β)(l:List α)(f:β->UInt8):lsum (l.map g) f=lsum l (fun a=>f (g a)):=by
 induction l with
 | nil=>rfl
 | cons a l ih=>rw[List.map_cons,lsum_cons,lsum_cons,ih]
theorem lsum_filter(p:α->Bool)(l:List α)(f:α->UInt8)(h:∀a∈l,p a=false->f a=0):lsum l f=lsum (l.filter p) f:=by
 induction l with
 | nil=>rfl
 | cons a l ih =>
  rw[lsum_cons,ih (fun x hx=>h x (by simp[hx]))]
  cases hp:p a with
  | true=>rw[List.filter_cons_of_pos hp,lsum_cons]
  | false=>rw[List.filter_cons_of_neg (by simp[hp]),h a (by simp) hp,zero_xor]
theorem lsum_single [DecidableEq α] (l:List α) (hn:l.Nodup) (c:α) (hc:c∈l) (f:α->UInt8) (h:∀a∈l,a≠c->f a=0):lsum l f=f c:=by
 induction l with
 | nil=>cases hc
 | cons a l ih =>
  rw[lsum_cons];have hn2:=List.nodup_cons.1 hn;by_cases e:a=c
  ·subst e;rw[lsum_zero (l:=l) (fun x hx=>h x (by simp[hx]) (fun e=>hn2.1 (e▸hx))),xor_zero]
  ·rw[h a (by simp) e,zero_xor];refine ih hn2.2 ?_ (fun x hx=>h x (by simp[hx]));rcases List.mem_cons.1 hc with h2 | h2
   ·exact absurd h2.symm e
   ·exact h2
end
theorem ginv_ne{a:UInt8}(h:a≠0):ginv a≠0:=by
 intro e;have:=gmul_inv a h;rw[e,gmul_zero] at this;exact absurd this (by decide)
theorem inv_add{a b:UInt8}(ha:a≠0)(hb:b≠0):ginv a ^^^ ginv b=gmul (a ^^^ b) (gmul (ginv a) (ginv b)):=by
 rw[gmul_left,<-gmul_assoc,gmul_inv a ha,one_gmul,gmul_comm (ginv a),<-gmul_assoc,gmul_inv b hb,one_gmul,UInt8.xor_comm]
theorem term_lemma{x y y0 v:UInt8}(h:x ^^^ y≠0):gmul (x ^^^ y0) (gmul v (ginv (x ^^^ y)))=v ^^^ gmul (gmul v (y ^^^ y0)) (ginv (x ^^^ y)):=by
 have e:x ^^^ y0=(x ^^^ y) ^^^ (y ^^^ y0):=by rw[UInt8.xor_assoc,<-UInt8.xor_assoc y,xor_self,zero_xor]
 have e1:gmul (x ^^^ y) (gmul v (ginv (x ^^^ y)))=v:=by rw[<-gmul_assoc,gmul_comm (x ^^^ y),gmul_assoc,gmul_inv _ h,gmul_one]
 have e2:gmul (y ^^^ y0) (gmul v (ginv (x ^^^ y)))=gmul (gmul v (y ^^^ y0)) (ginv (x ^^^ y)):=by rw[<-gmul_assoc,gmul_comm (y ^^^ y0)]
 rw[e,gmul_left,e1,e2]
theorem cauchy:∀(ps:List (UInt8×UInt8)) (xs:List UInt8),(ps.map (·.1)).Nodup->xs.Nodup->(∀x∈xs,∀p∈ps,x≠p.1)->ps.length<=xs.length ->
  (∀x∈xs,lsum ps (fun p=>gmul p.2 (ginv (x ^^^ p.1)))=0)->∀p∈ps,p.2=0:=by
 intro ps
 induction hn:ps.length generalizing ps with
 | zero =>
  intro xs _ _ _ _ _ p hp;rw[List.eq_nil_of_length_eq_zero hn] at hp;cases hp
 | succ n ih =>
  intro xs hny hnx hxy hlen heq
  match ps,xs,hn,hlen with
  | (y0,v0) :: qs,x0 :: xs,hn,hlen =>
   rw[List.map_cons] at hny;have hny2:=List.nodup_cons.1 hny;have hnx2:=List.nodup_cons.1 hnx
   have hne:∀x∈x0 :: xs,∀p∈(y0,v0) :: qs,x ^^^ p.1≠0:=fun x hx p hp e=>hxy x hx p hp (xor_eq_zero e)
   have hE:∀x∈x0 :: xs,v0 ^^^ (lsum qs (fun p=>p.2) ^^^ lsum qs (fun p=>gmul (gmul p.2 (p.1 ^^^ y0)) (ginv (x ^^^ p.1))))=0:=by
    intro x hx;have h1:=congrArg (gmul (x ^^^ y0)) (heq x hx);rw[gmul_zero,lsum_cons,gmul_right,lsum_mul] at h1;rw[<-h1,<-lsum_xor]
    congr 1
    ·show v0=gmul (x ^^^ y0) (gmul v0 (ginv (x ^^^ y0)))
     rw[gmul_comm v0,<-gmul_assoc,gmul_inv _ (hne x hx (y0,v0) (by simp)),one_gmul]
    ·exact lsum_congr fun p hp=>(term_lemma (hne x hx p (by simp[hp]))).symm
   have hq:∀p∈qs,p.2=0:=by
    have h:=ih (qs.map fun p=>(p.1,gmul (gmul p.2 (p.1 ^^^ y0)) (ginv (x0 ^^^ p.1)))) (by simpa using hn) xs (by rw[List.map_map];exact hny2.2) hnx2.2 ?_ ?_ ?_
    ·intro p hp;have:=h (p.1,gmul (gmul p.2 (p.1 ^^^ y0)) (ginv (x0 ^^^ p.1))) (List.mem_map.2 ⟨p,hp,rfl⟩)
     have hy:p.1 ^^^ y0≠0:=fun e=>hny2.1 (List.mem_map.2 ⟨p,hp,xor_eq_zero e⟩)
     rcases gmul_eq_zero this with h1 | h1
     ·rcases gmul_eq_zero h1 with h2 | h2
      ·exact h2
      ·exact absurd h2 hy
     ·exact absurd h1 (ginv_ne (hne x0 (by simp) p (by simp[hp])))
    ·intro x hx p hp;obtain⟨q,hq,rfl⟩:=List.mem_map.1 hp;exact hxy x (by simp[hx]) q (by simp[hq])
    ·simp at hn hlen ⊢;omega
    ·intro x hx
     have hxx:x ^^^ x0≠0:=fun e=>hnx2.1 (by rw[<-xor_eq_zero e];exact hx)
     have h1:=hE x (by simp[hx]);have h0:=hE x0 (by simp)
     have h2:lsum qs (fun p=>gmul (gmul p.2 (p.1 ^^^ y0)) (ginv (x ^^^ p.1))) ^^^ lsum qs (fun p=>gmul (gmul p.2 (p.1 ^^^ y0)) (ginv (x0 ^^^ p.1)))=0:=by
      have e:(v0 ^^^ (lsum qs (fun p=>p.2) ^^^ lsum qs (fun p=>gmul (gmul p.2 (p.1 ^^^ y0)) (ginv (x ^^^ p.1))))) ^^^ (v0 ^^^ (lsum qs (fun p=>p.2) ^^^ lsum qs (fun p=>gmul (gmul p.2 (p.1 ^^^ y0)) (ginv (x0 ^^^ p.1)))))=0:=by rw[h1,h0,xor_self]
      rw[xor4u v0,xor_self,zero_xor,xor4u (lsum qs (fun p=>p.2)),xor_self,zero_xor] at e;exact e
     rw[<-lsum_xor] at h2;rw[lsum_map]
     have h3:gmul (x ^^^ x0) (lsum qs (fun p=>gmul (gmul (gmul p.2 (p.1 ^^^ y0)) (ginv (x0 ^^^ p.1))) (ginv (x ^^^ p.1))))=0:=by
      rw[lsum_mul,<-h2];apply lsum_congr;intro p hp;rw[<-gmul_right,inv_add (hne x (by simp[hx]) p (by simp[hp])) (hne x0 (by simp) p (by simp[hp])),xor4u x,xor_self,xor_zero]
      ac_rfl
     rcases gmul_eq_zero h3 with h4 | h4
     ·exact absurd h4 hxx
     ·exact h4
   intro p hp;rcases List.mem_cons.1 hp with rfl | hp
   ·have h1:=heq x0 (by simp);rw[lsum_cons,lsum_zero (l:=qs) (fun p hp=>by rw[hq p hp,zero_gmul]),xor_zero] at h1;rcases gmul_eq_zero h1 with h2 | h2
    ·exact h2
    ·exact absurd h2 (ginv_ne (hne x0 (by simp) (y0,v0) (by simp)))
   ·exact hq p hp
abbrev Mat:=List (List UInt8)
def en(t:Mat)(i j:Nat):UInt8:=(t.getD i []).getD j 0
def dot(r:List UInt8)(u:Nat->UInt8)(m:Nat):UInt8:=lsum (List.range m) fun j=>gmul (r.getD j 0) (u j)
def pivF(t:Mat)(k:Nat):Nat->Nat->Nat
 | 0,a=>a
 | f+1,a=>if en t a k=0 then pivF t k f (a+1) else a
def piv(t:Mat)(k:Nat):Nat:=pivF t k (t.length-k) k
def swapL(t:Mat)(i j:Nat):Mat:=(t.set i (t.getD j [])).set j (t.getD i [])
def scaleR(r:List UInt8)(f:UInt8):List UInt8:=r.mapIdx fun _ x=>gmul x f
def elimR(c:UInt8)(p r:List UInt8):List UInt8:=r.mapIdx fun j x=>x ^^^ gmul c (p.getD j 0)
def elimT(s:Mat)(k:Nat)(p:List UInt8):Mat:=s.mapIdx fun i r=>if i=k then r else elimR (r.getD k 0) p r
def rowP(s:Mat)(k:Nat):List UInt8:=scaleR (s.getD k []) (ginv (en s k k))
def gstep(t:Mat)(k:Nat):Mat :=
 let s:=swapL t (piv t k) k
 elimT (s.set k (rowP s k)) k (rowP s k)
def gaussN(t:Mat):Nat->Mat
 | 0=>t
 | k+1=>gstep (gaussN t k) k
theorem getD_lt{α:Type}(l:List α)(d:α){i:Nat}(h:i<l.length):l.getD i d=l[i]:=by rw[List.getD,zG h];rfl
theorem getD_mapIdx{α β:Type}(F:Nat->α->β)(l:List α)(d:α)(d':β){i:Nat}(h:i<l.length):(l.mapIdx F).getD i d'=F i (l.getD i d):=by
 rw[getD_lt _ _ (by simpa using h),getD_lt _ _ h,List.getElem_mapIdx]
theorem getD_set{α:Type}(l:List α)(d x:α)(i j:Nat)(h:i<l.length):(l.set i x).getD j d=if j=i then x else l.getD j d:=by
 by_cases e:j=i
 ·subst e;rw[if_pos rfl,List.getD,List.getElem?_set_self h];rfl
 ·rw[if_neg e,List.getD,List.getElem?_set_ne (fun h=>e h.symm),List.getD]
theorem mapIdx_zero{α:Type}(F:Nat->α->α)(l:List α):l.mapIdx (fun i x=>if i<0 then F i x else x)=l:=by
 apply List.ext_getElem
 ·simp
 ·intro i h1 h2;simp
theorem mapIdx_step{α:Type}(F:Nat->α->α)(l:List α)(j:Nat)(h:j<l.length) :
  (l.mapIdx (fun i x=>if i<j then F i x else x)).set j (F j l[j])=l.mapIdx (fun i x=>if i<j+1 then F i x else x):=by
 apply List.ext_getElem
 ·simp
 ·intro i h1 h2;rw[List.getElem_set];by_cases e:j=i
  ·subst e;simp
  ·rw[if_neg e];simp only[List.getElem_mapIdx];by_cases h3:i<j
   ·rw[if_pos h3,if_pos (by omega)]
   ·rw[if_neg h3,if_neg (by omega)]
theorem mapIdx_all{α:Type}(F:Nat->α->α)(l:List α)(j:Nat)(h:l.length<=j):l.mapIdx (fun i x=>if i<j then F i x else x)=l.mapIdx F:=by
 apply List.ext_getElem
 ·simp
 ·intro i h1 h2;simp only[List.getElem_mapIdx];rw[if_pos (by simp at h1;omega)]
theorem pivF_spec(t:Mat)(k:Nat):∀f a,a<=pivF t k f a/\pivF t k f a<=a+f/\(∀j,a<=j->j<pivF t k f a->en t j k=0)/\(pivF t k f a<a+f->en t (pivF t k f a) k≠0):=by
 intro f
 induction f with
 | zero=>intro a;exact⟨zR _,zR _,fun j h1 h2=>absurd h2 (by show ¬j<a;omega),fun h=>absurd h (by show ¬a<a+0;omega)⟩
 | succ f ih =>
  intro a;unfold pivF;by_cases h:en t a k=0
  ·rw[if_pos h];obtain⟨h1,h2,h3,h4⟩:=ih (a+1);refine⟨by omega,by omega,fun j h5 h6=>?_,fun h5=>h4 (by omega)⟩;by_cases e:j=a
   ·rw[e];exact h
   ·exact h3 j (by omega) h6
  ·rw[if_neg h];exact⟨zR _,by omega,fun j h1 h2=>by omega,fun _=>h⟩
theorem piv_spec(t:Mat)(k:Nat)(hk:k<=t.length):k<=piv t k/\piv t k<=t.length/\(∀j,k<=j->j<piv t k->en t j k=0)/\(piv t k<t.length->en t (piv t k) k≠0):=by
 obtain⟨h1,h2,h3,h4⟩:=pivF_spec t k (t.length-k) k;exact⟨h1,by unfold piv;omega,h3,fun h=>h4 (by unfold piv at h;omega)⟩
theorem dot_scale(r:List UInt8)(f:UInt8)(u:Nat->UInt8)(m:Nat)(h:m<=r.length):dot (scaleR r f) u m=gmul f (dot r u m):=by
 unfold dot scaleR;rw[lsum_mul];apply lsum_congr;intro j hj;have:=List.mem_range.1 hj;rw[getD_mapIdx _ _ 0 0 (by omega),gmul_comm _ f,gmul_assoc]
theorem dot_elim(c:UInt8)(p r:List UInt8)(u:Nat->UInt8)(m:Nat)(h:m<=r.length):dot (elimR c p r) u m=dot r u m ^^^ gmul c (dot p u m):=by
 unfold dot elimR;rw[lsum_mul,<-lsum_xor];apply lsum_congr;intro j hj;have:=List.mem_range.1 hj;rw[getD_mapIdx _ _ 0 0 (by omega),gmul_left,gmul_assoc]
def Wide(t:Mat)(m:Nat):Prop:=∀r∈t,r.length=m
theorem Wide.getD{t:Mat}{m:Nat}(h:Wide t m){i:Nat}(hi:i<t.length):(t.getD i []).length=m:=by rw[getD_lt _ _ hi];exact h _ (List.getElem_mem hi)
theorem scaleR_length(r:List UInt8)(f:UInt8):(scaleR r f).length=r.length:=by simp[scaleR]
theorem elimR_length(c:UInt8)(p r:List UInt8):(elimR c p r).length=r.length:=by simp[elimR]
theorem swapL_length(t:Mat)(i j:Nat):(swapL t i j).length=t.length:=by simp[swapL]
theorem gstep_length(t:Mat)(k:Nat):(gstep t k).length=t.length:=by simp[gstep,elimT,swapL_length]
theorem gaussN_length(t:Mat)(k:Nat):(gaussN t k).length=t.length:=by
 induction k with
 | zero=>rfl
 | succ k ih=>show(gstep (gaussN t k) k).length=_;rw[gstep_length,ih]
theorem swapL_getD(t:Mat)(a k i:Nat)(ha:a<t.length)(hk:k<t.length):(swapL t a k).getD i []=t.getD (if i=k then a else if i=a then k else i) []:=by
 unfold swapL;rw[getD_set _ _ _ _ _ (by simpa using hk),getD_set _ _ _ _ _ ha];by_cases h1:i=k
 ·rw[if_pos h1,if_pos h1]
 ·rw[if_neg h1,if_neg h1];by_cases h2:i=a
  ·rw[if_pos h2,if_pos h2]
  ·rw[if_neg h2,if_neg h2]
theorem gstep_row(t:Mat)(k i:Nat)(hk:k<t.length)(hp:piv t k<t.length)(hi:i<t.length) :
  (gstep t k).getD i []=if i=k then scaleR (t.getD (piv t k) []) (ginv (en t (piv t k) k)) else elimR ((t.getD (if i=piv t k then k else i) []).getD k 0) (scaleR (t.getD (piv t k) []) (ginv (en t (piv t k) k))) (t.getD (if i=piv t k then k else i) []):=by
 have hsk:(swapL t (piv t k) k).getD k []=t.getD (piv t k) []:=by rw[swapL_getD _ _ _ _ hp hk,if_pos rfl]
 have hr:rowP (swapL t (piv t k) k) k=scaleR (t.getD (piv t k) []) (ginv (en t (piv t k) k)):=by
  unfold rowP en;rw[hsk]
 show(elimT ((swapL t (piv t k) k).set k (rowP (swapL t (piv t k) k) k)) k (rowP (swapL t (piv t k) k) k)).getD i []=_
 unfold elimT;rw[getD_mapIdx _ _ [] [] (by simpa[swapL_length] using hi),hr,getD_set _ _ _ _ _ (by simpa[swapL_length] using hk)];by_cases h:i=k
 ·rw[if_pos h,if_pos h,if_pos h]
 ·rw[if_neg h,if_neg h,if_neg h,swapL_getD _ _ _ _ hp hk,if_neg h]
structure Inv (t0 t:Mat) (n m k:Nat):Prop where
 len:t.length=n
 wide:Wide t m
 unit:∀j,j<k->∀i,i<n->en t i j=if i=j then 1 else 0
 sol:∀u,(∀i,i<n->dot (t.getD i []) u m=0)↔(∀i,i<n->dot (t0.getD i []) u m=0)
theorem Inv.step{t0 t:Mat}{n m k:Nat}(h:Inv t0 t n m k)(hk:k<n)(hkm:n<=m)(hp:piv t k<n):Inv t0 (gstep t k) n m (k+1):=by
 have hl:=h.len
 have hk':k<t.length:=by omega
 have hp':piv t k<t.length:=by omega
 obtain⟨p1,p2,p3,p4⟩:=piv_spec t k (by omega);have hne:=p4 hp'
 have hrow:=fun i (hi:i<n)=>gstep_row t k i hk' hp' (by omega)
 generalize piv t k=a at *;have hwa:(t.getD a []).length=m:=h.wide.getD hp';have hfa:ginv (en t a k)≠0:=ginv_ne hne;refine⟨by rw[gstep_length,hl],?_,?_,?_⟩
 ·intro r hr;obtain⟨i,hi,rfl⟩:=List.getElem_of_mem hr;rw[gstep_length] at hi;have e:=hrow i (by omega);rw[getD_lt _ _ (by rw[gstep_length];exact hi)] at e;rw[e];split
  ·rw[scaleR_length,hwa]
  ·rw[elimR_length];exact h.wide.getD (by split <;> omega)
 ·intro j hj i hi
  have ej:en (gstep t k) i j=if i=k then gmul (en t a j) (ginv (en t a k)) else en t (if i=a then k else i) j ^^^ gmul (en t (if i=a then k else i) k) (gmul (en t a j) (ginv (en t a k))):=by
   unfold en;rw[hrow i hi];by_cases hik:i=k
   ·rw[if_pos hik,if_pos hik];exact getD_mapIdx _ _ 0 0 (by rw[hwa];omega)
   ·rw[if_neg hik,if_neg hik];have hw2:(t.getD (if i=a then k else i) []).length=m:=h.wide.getD (by split <;> omega);unfold elimR;rw[getD_mapIdx _ _ 0 0 (by rw[hw2];omega)]
    congr 2
    exact getD_mapIdx _ _ 0 0 (by rw[hwa];omega)
  rw[ej];by_cases hjk:j=k
  ·subst hjk;rw[gmul_inv _ hne];by_cases hij:i=j
   ·rw[if_pos hij,if_pos hij]
   ·rw[if_neg hij,if_neg hij,gmul_one,xor_self]
  ·have hjlt:j<k:=by omega
   have haj:en t a j=0:=by rw[h.unit j hjlt a hp,if_neg (by omega)]
   rw[haj,zero_gmul];by_cases hik:i=k
   ·rw[if_pos hik,if_neg (by omega)]
   ·rw[if_neg hik,gmul_zero,xor_zero];by_cases hia:i=a
    ·rw[if_pos hia,h.unit j hjlt k hk,if_neg (by omega),if_neg (by omega)]
    ·rw[if_neg hia,h.unit j hjlt i hi]
 ·intro u;rw[<-h.sol u]
  have hd:∀i,i<n->dot ((gstep t k).getD i []) u m=if i=k then gmul (ginv (en t a k)) (dot (t.getD a []) u m) else dot (t.getD (if i=a then k else i) []) u m ^^^ gmul (en t (if i=a then k else i) k) (gmul (ginv (en t a k)) (dot (t.getD a []) u m)):=by
   intro i hi;rw[hrow i hi];by_cases hik:i=k
   ·rw[if_pos hik,if_pos hik,dot_scale _ _ _ _ (by omega)]
   ·rw[if_neg hik,if_neg hik];have hw2:(t.getD (if i=a then k else i) []).length=m:=h.wide.getD (by split <;> omega);rw[dot_elim _ _ _ _ _ (by omega),dot_scale _ _ _ _ (by omega)];rfl
  constructor
  ·intro hz i hi
   have hza:dot (t.getD a []) u m=0:=by
    have h1:=hz k hk;rw[hd k hk,if_pos rfl] at h1;rcases gmul_eq_zero h1 with h2 | h2
    ·exact absurd h2 hfa
    ·exact h2
   have hzz:∀j,j<n->j≠k->dot (t.getD (if j=a then k else j) []) u m=0:=by
    intro j hj hjk;have h1:=hz j hj;rw[hd j hj,if_neg hjk,hza,gmul_zero,gmul_zero,xor_zero] at h1;exact h1
   by_cases hia:i=a
   ·rw[hia];exact hza
   ·by_cases hik:i=k
    ·have h1:=hzz a hp (by omega);rw[if_pos rfl] at h1;rw[hik];exact h1
    ·have h1:=hzz i hi hik;rw[if_neg hia] at h1;exact h1
  ·intro hz i hi;rw[hd i hi,hz a hp,gmul_zero,gmul_zero,xor_zero];by_cases hik:i=k
   ·rw[if_pos hik]
   ·rw[if_neg hik];exact hz _ (by split <;> omega)
def unitR(n i:Nat):List UInt8:=(List.range n).map fun j=>if j=i then 1 else 0
def augT(A:Mat):Mat:=A.mapIdx fun i r=>r++unitR A.length i
theorem unitR_length(n i:Nat):(unitR n i).length=n:=by simp[unitR]
theorem unitR_getD(n i j:Nat)(h:j<n):(unitR n i).getD j 0=if j=i then 1 else 0:=by
 rw[getD_lt _ _ (by simpa[unitR] using h)];simp[unitR]
def two(v w:Nat->UInt8)(n:Nat)(j:Nat):UInt8:=if j<n then v j else w (j-n)
theorem dot_two(r:List UInt8)(v w:Nat->UInt8)(n:Nat):dot r (two v w n) (n+n)=dot r v n ^^^ dot (r.drop n) w n:=by
 unfold dot;rw[List.range_add,lsum_append,lsum_map]
 congr 1
 ·apply lsum_congr;intro j hj;have:=List.mem_range.1 hj;show gmul _ (two v w n j)=_;unfold two;rw[if_pos this]
 ·apply lsum_congr;intro j hj
  have e:(r.drop n).getD j 0=r.getD (n+j) 0:=by rw[List.getD,List.getElem?_drop,List.getD]
  show gmul _ (two v w n (n+j))=_
  unfold two;rw[if_neg (by omega),e,Nat.add_sub_cancel_left]
theorem dot_zero(r:List UInt8)(n:Nat):dot r (fun _=>0) n=0:=lsum_zero fun j _=>gmul_zero _
theorem dot_unit(r:List UInt8)(w:Nat->UInt8)(n i:Nat)(hi:i<n)(h:∀j,j<n->r.getD j 0=if j=i then 1 else 0):dot r w n=w i:=by
 unfold dot;rw[lsum_single (List.range n) List.nodup_range i (List.mem_range.2 hi)]
 ·rw[h i hi,if_pos rfl,one_gmul]
 ·intro j hj hne;rw[h j (List.mem_range.1 hj),if_neg hne,zero_gmul]
theorem dot_aug(A:Mat)(hA:Wide A A.length)(v w:Nat->UInt8)(i:Nat)(hi:i<A.length):dot ((augT A).getD i []) (two v w A.length) (A.length+A.length)=dot (A.getD i []) v A.length ^^^ w i:=by
 have hw:=hA.getD hi;have e:(augT A).getD i []=A.getD i []++unitR A.length i:=getD_mapIdx _ _ [] [] hi;rw[e,dot_two,List.drop_append_of_le_length (by omega),List.drop_eq_nil_of_le (by omega),List.nil_append]
 congr 1
 ·apply lsum_congr;intro j hj;have:=List.mem_range.1 hj
  congr 1
  rw[List.getD,List.getElem?_append_left (by omega),List.getD];rfl
 ·exact dot_unit _ _ _ _ hi fun j hj=>unitR_getD _ _ _ hj
def Inj(A:Mat):Prop:=∀v:Nat->UInt8,(∀i,i<A.length->dot (A.getD i []) v A.length=0)->∀j,j<A.length->v j=0
theorem aug_wide(A:Mat)(hA:Wide A A.length):Wide (augT A) (A.length+A.length):=by
 intro r hr;obtain⟨i,hi,rfl⟩:=List.getElem_of_mem hr;simp only[augT,List.getElem_mapIdx,zP,unitR_length]
 have hi':i<A.length:=by simpa[augT] using hi
 rw[hA _ (List.getElem_mem hi')]
theorem aug_length(A:Mat):(augT A).length=A.length:=by simp[augT]
theorem gauss_inv(A:Mat)(hA:Wide A A.length)(hI:Inj A):∀k,k<=A.length->Inv (augT A) (gaussN (augT A) k) A.length (A.length+A.length) k/\(k<A.length->piv (gaussN (augT A) k) k<A.length):=by
 intro k
 induction k with
 | zero =>
  intro hk;have h0:Inv (augT A) (augT A) A.length (A.length+A.length) 0:=⟨aug_length A,aug_wide A hA,fun j hj=>by omega,fun u=>Iff.rfl⟩;refine⟨h0,fun hlt=>?_⟩;exact piv_ok A hA hI (augT A) 0 h0 hlt
 | succ k ih =>
  intro hk;obtain⟨h1,h2⟩:=ih (by omega);have h3:=h1.step (by omega) (by omega) (h2 (by omega));exact⟨h3,fun hlt=>piv_ok A hA hI _ _ h3 hlt⟩
where
 piv_ok (A:Mat) (hA:Wide A A.length) (hI:Inj A) (t:Mat) (k:Nat) (h:Inv (augT A) t A.length (A.length+A.length) k) (hk:k<A.length):piv t k<A.length:=by
  have hl:=h.len;obtain⟨p1,p2,p3,-⟩:=piv_spec t k (by omega);rcases Nat.lt_or_ge (piv t k) A.length with hlt | hge
  ·exact hlt
  ·exfalso
   have hz:∀i,k<=i->i<A.length->en t i k=0:=fun i h1 h2=>p3 i h1 (by omega)
   let v:Nat->UInt8:=fun j=>if j<k then en t j k else if j=k then 1 else 0
   let w:Nat->UInt8:=fun i=>dot (A.getD i []) v A.length
   have hs:∀i,i<A.length->dot (t.getD i []) (two v w A.length) (A.length+A.length)=0:=by
    apply (h.sol _).2;intro i hi;rw[dot_aug A hA v w i hi];exact xor_self _
   have hleft:∀i,i<A.length->dot (t.getD i []) v A.length=0:=by
    intro i hi
    have e:dot (t.getD i []) v A.length=lsum (List.range A.length) fun j=>if j<k then(if i=j then v j else 0) else if j=k then en t i k else 0:=by
     unfold dot;apply lsum_congr;intro j hj;have hjn:=List.mem_range.1 hj;by_cases hjk:j<k
     ·rw[if_pos hjk];show gmul (en t i j) (v j)=_;rw[h.unit j hjk i hi];by_cases hij:i=j
      ·rw[if_pos hij,if_pos hij,one_gmul]
      ·rw[if_neg hij,if_neg hij,zero_gmul]
     ·rw[if_neg hjk];by_cases hjk2:j=k
      ·rw[if_pos hjk2];show gmul (en t i j) (v j)=_
       have:v j=1:=by show(if j<k then _ else if j=k then(1:UInt8) else 0)=1;rw[if_neg hjk,if_pos hjk2]
       rw[this,gmul_one,hjk2]
      ·rw[if_neg hjk2]
       have:v j=0:=by show(if j<k then _ else if j=k then(1:UInt8) else 0)=0;rw[if_neg hjk,if_neg hjk2]
       rw[this,gmul_zero]
    rw[e];by_cases hik:i<k
    ·have e2:(fun j=>if j<k then(if i=j then v j else 0) else if j=k then en t i k else 0)=fun j=>(if j=i then v i else 0) ^^^ (if j=k then en t i k else 0):=by
      funext j
      by_cases hjk:j<k
      ·rw[if_pos hjk,if_neg (show ¬j=k by omega),xor_zero];by_cases hij:i=j
       ·rw[if_pos hij,if_pos hij.symm,hij]
       ·rw[if_neg hij,if_neg (fun e=>hij e.symm)]
      ·rw[if_neg hjk,if_neg (show ¬j=i by omega),zero_xor]
     rw[e2,lsum_xor,lsum_single (List.range A.length) List.nodup_range i (List.mem_range.2 hi),lsum_single (List.range A.length) List.nodup_range k (List.mem_range.2 hk),if_pos rfl,if_pos rfl]
     ·have:v i=en t i k:=if_pos hik;rw[this,xor_self]
     ·intro j _ hj;rw[if_neg hj]
     ·intro j _ hj;rw[if_neg hj]
    ·apply lsum_zero;intro j hj;by_cases hjk:j<k
     ·rw[if_pos hjk,if_neg (by omega)]
     ·rw[if_neg hjk,hz i (by omega) hi];split <;> rfl
   have hright:∀i,i<A.length->dot ((t.getD i []).drop A.length) w A.length=0:=by
    intro i hi;have h1:=hs i hi;rw[dot_two,hleft i hi,zero_xor] at h1;exact h1
   have hw0:∀i,i<A.length->w i=0:=by
    have h1:∀i,i<A.length->dot (t.getD i []) (two (fun _=>0) w A.length) (A.length+A.length)=0:=by
     intro i hi;rw[dot_two,hright i hi,dot_zero,xor_zero]
    have h2:=(h.sol _).1 h1;intro i hi;have h3:=h2 i hi;rw[dot_aug A hA _ w i hi,dot_zero,zero_xor] at h3;exact h3
   have hv:=hI v hw0 k hk
   have hvk:v k=1:=by show(if k<k then _ else if k=k then(1:UInt8) else 0)=1;rw[if_neg (by omega),if_pos rfl]
   rw[hvk] at hv;exact absurd hv (by decide)
def invT(A:Mat):Mat:=(gaussN (augT A) A.length).map (·.drop A.length)
theorem invT_length(A:Mat):(invT A).length=A.length:=by simp[invT,gaussN_length,aug_length]
theorem invT_wide(A:Mat)(hA:Wide A A.length)(hI:Inj A):Wide (invT A) A.length:=by
 have h:=(gauss_inv A hA hI A.length (zR _)).1;intro r hr;simp only[invT,List.mem_map] at hr;obtain⟨r0,h0,rfl⟩:=hr;have:=h.wide r0 h0;rw[List.length_drop];omega
def coef(j i:Nat):UInt8:=ginv (UInt8.ofNat (128+j) ^^^ UInt8.ofNat i)
def coefR(k at_:Nat):List UInt8:=(List.range k).map fun i=>if at_<k then(if i=at_ then 1 else 0) else coef (at_-k) i
theorem coefR_length(k a:Nat):(coefR k a).length=k:=by simp[coefR]
theorem coefR_getD(k a i:Nat)(h:i<k):(coefR k a).getD i 0=if a<k then(if i=a then 1 else 0) else coef (a-k) i:=by
 rw[getD_lt _ _ (by simpa[coefR] using h)];simp[coefR]
theorem nodup_sub:∀(l m:List Nat),l.Nodup->(∀x∈l,x∈m)->l.length<=m.length:=by
 intro l
 induction l with
 | nil=>intro m _ _;exact Nat.zero_le _
 | cons a l ih =>
  intro m hn hs;have hn2:=List.nodup_cons.1 hn;have ha:a∈m:=hs a (by simp)
  have h1:=ih (m.erase a) hn2.2 (fun x hx=>by
   have hxa:x≠a:=fun e=>hn2.1 (e▸hx)
   exact(List.mem_erase_of_ne hxa).2 (hs x (by simp[hx])))
  have h2:=List.length_erase_of_mem ha;have h3:0<m.length:=List.length_pos_of_mem ha;rw[List.length_cons];omega
theorem filter_split{α:Type}(p:α->Bool)(l:List α):(l.filter p).length+(l.filter fun a=>!p a).length=l.length:=by
 induction l with
 | nil=>rfl
 | cons a l ih =>
  cases h:p a <;> simp[h] <;> omega
theorem byte_ne:∀j:Nat,j<64->∀i:Nat,i<64->UInt8.ofNat (128+j)≠UInt8.ofNat i:=by
 intro j hj i hi h;have h1:=congrArg UInt8.toNat h;rw[UInt8.toNat_ofNat',UInt8.toNat_ofNat'] at h1;omega
theorem ofNat_inj{a b:Nat}(ha:a<256)(hb:b<256)(h:UInt8.ofNat a=UInt8.ofNat b):a=b:=by
 have h1:=congrArg UInt8.toNat h;rw[UInt8.toNat_ofNat',UInt8.toNat_ofNat'] at h1;omega
theorem coef_inj(k:Nat)(is:List Nat)(hk:k<=64)(hl:is.length=k)(hn:is.Nodup)(hr:∀i∈is,i<k+64):Inj (is.map (coefR k)):=by
 intro v hv
 have hvA:∀a∈is,dot (coefR k a) v k=0:=by
  intro a ha;obtain⟨i,hi,rfl⟩:=List.getElem_of_mem ha;have h:=hv i (by simpa using hi)
  have hlm:(is.map (coefR k)).length=k:=by rw[List.length_map,hl]
  rw[getD_lt _ _ (by simpa using hi),List.getElem_map] at h;simp only[hlm] at h;exact h
 rw[List.length_map,hl]
 have hdata:∀a∈is,a<k->v a=0:=by
  intro a ha hak;have h:=hvA a ha
  rwa [dot_unit _ _ _ _ hak (fun j hj=>by rw[coefR_getD _ _ _ hj,if_pos hak])] at h
 let ys:=(List.range k).filter fun i=>!is.contains i
 let ps:=ys.map fun i=>(UInt8.ofNat i,v i)
 let xs:=(is.filter fun a=>!decide (a<k)).map fun a=>UInt8.ofNat (128+(a-k))
 have hys:∀i∈ys,i<k/\i∉is:=by
  intro i hi;have h:=List.mem_filter.1 hi;exact⟨List.mem_range.1 h.1,by simpa using h.2⟩
 have hc:=cauchy ps xs ?_ ?_ ?_ ?_ ?_
 ·intro j hj;by_cases hj2:j∈is
  ·exact hdata j hj2 hj
  ·exact hc (UInt8.ofNat j,v j) (List.mem_map.2 ⟨j,List.mem_filter.2 ⟨List.mem_range.2 hj,by simpa using hj2⟩,rfl⟩)
 ·show((ys.map fun i=>(UInt8.ofNat i,v i)).map (·.1)).Nodup
  rw[List.map_map];have hy:ys.Nodup:=List.nodup_range.filter _;have:ys.map ((·.1) ∘ fun i=>(UInt8.ofNat i,v i))=ys.map UInt8.ofNat:=rfl;rw[this];refine List.pairwise_map.2 (List.Pairwise.imp_of_mem (fun {a b} ha hb hab=>?_) hy);intro e;have h1:=(hys a ha).1;have h2:=(hys b hb).1;exact hab (ofNat_inj (by omega) (by omega) e)
 ·show((is.filter fun a=>!decide (a<k)).map fun a=>UInt8.ofNat (128+(a-k))).Nodup
  refine List.pairwise_map.2 (List.Pairwise.imp_of_mem (fun {a b} ha hb hab=>?_) (hn.filter _));intro e;have h1:=List.mem_filter.1 ha;have h2:=List.mem_filter.1 hb;have h3:=hr a h1.1;have h4:=hr b h2.1
  have h5:¬a<k:=by simpa using h1.2
  have h6:¬b<k:=by simpa using h2.2
  have:=ofNat_inj (by omega) (by omega) e;exact hab (by omega)
 ·intro x hx p hp;obtain⟨a,ha,rfl⟩:=List.mem_map.1 hx;obtain⟨i,hi,rfl⟩:=List.mem_map.1 hp;have h1:=List.mem_filter.1 ha;have h3:=hr a h1.1
  have h5:¬a<k:=by simpa using h1.2
  have h7:=(hys i hi).1;exact byte_ne _ (by omega) _ (by omega)
 ·have h1:=filter_split (fun a=>decide (a<k)) is;have h2:=filter_split (fun i=>is.contains i) (List.range k)
  have h3:=nodup_sub (is.filter fun a=>decide (a<k)) ((List.range k).filter fun i=>is.contains i) (hn.filter _) (fun x hx=>by
   have h:=List.mem_filter.1 hx
   have h4:x<k:=by simpa using h.2
   exact List.mem_filter.2 ⟨List.mem_range.2 h4,by simpa using h.1⟩)
  rw[List.length_range] at h2;show(((List.range k).filter fun i=>!is.contains i).map fun i=>(UInt8.ofNat i,v i)).length<=((is.filter fun a=>!decide (a<k)).map fun a=>UInt8.ofNat (128+(a-k))).length;rw[List.length_map,List.length_map];omega
 ·intro x hx;obtain⟨a,ha,rfl⟩:=List.mem_map.1 hx;have h1:=List.mem_filter.1 ha
  have h5:¬a<k:=by simpa using h1.2
  have h:=hvA a h1.1;show lsum (ys.map fun i=>(UInt8.ofNat i,v i)) _=0;rw[lsum_map,<-h];unfold dot;rw[lsum_filter (fun i=>!is.contains i) (List.range k)]
  ·apply lsum_congr;intro i hi;have h7:=(hys i hi).1;rw[coefR_getD _ _ _ h7,if_neg h5,gmul_comm];rfl
  ·intro i hi hp
   have:i∈is:=by simpa using hp
   rw[hdata i this (List.mem_range.1 hi),gmul_zero]
theorem gm_high(a b:UInt8)(i:Nat)(h:b.toNat / 2 ^ i=0):∀n,gm (i+n) a b=gm i a b:=by
 intro n
 induction n with
 | zero=>rfl
 | succ n ih =>
  show gm (i+n) a b ^^^ (if bitU b (i+n) then xtK (i+n) a else 0)=_
  have hb:bitU b (i+n)=false:=by
   unfold bitU;refine Nat.testBit_lt_two_pow ?_
   have h1:b.toNat<2 ^ i:=by
    rcases Nat.lt_or_ge b.toNat (2 ^ i) with h2 | h2
    ·exact h2
    ·have:=Nat.div_pos h2 (Nat.two_pow_pos i);omega
   exact zM h1 (Nat.pow_le_pow_right (by omega) (by omega))
  rw[hb,ih];exact xor_zero _
theorem xt_int(a:UInt8):bits .xor .u8 ((a.toNat:Int)*2 % 256) ((a.toNat:Int) / 128*29)=((xt a).toNat:Int) :=
 all8 (P:=fun a=>bits .xor .u8 ((a.toNat:Int)*2 % 256) ((a.toNat:Int) / 128*29)=((xt a).toNat:Int)) (by decide +kernel) a
theorem xor_int(a b:UInt8):bits .xor .u8 (a.toNat:Int) (b.toNat:Int)=((a ^^^ b).toNat:Int):=by
 rw[u8_xor_nat _ _ a.toNat_lt b.toNat_lt,UInt8.toNat_xor]
theorem bit_of{b:UInt8}{n i:Nat}(h8:n<256)(h:b.toNat / 2 ^ i=n):(bits .and .u8 (n:Int) 1==1)=bitU b i:=by
 have e:=u8_and_nat n 1 h8 (by omega);rw[Nat.and_one_is_mod] at e;have e1:((1:Nat):Int)=1:=rfl;rw[e1] at e;rw[e];unfold bitU;rw[Nat.testBit_eq_decide_div_mod_eq,h];by_cases h2:n % 2=1
 ·simp[h2]
 ·simp[h2];omega
theorem byte_lt(a:UInt8):(a.toNat:Int)<256/\0<=(a.toNat:Int):=by have:=a.toNat_lt;omega
end Go.Proofs.YtgfaieppacabjaaGreat
