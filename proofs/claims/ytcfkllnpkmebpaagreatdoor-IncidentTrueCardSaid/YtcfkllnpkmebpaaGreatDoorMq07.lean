/- Maps keyed by a struct of two ints, of whatever values. -/
import Derived.DeepKeys4
import Derived.WideKeyEntry
import Derived.Maps.RangeWalk
import Derived.Test.YtcfkllnpkmebpaaGreatDoorMq06
import Derived.Test.YtcfkllnpkmebpaaGreatDoorMq01
set_option linter.unusedSectionVars false
set_option maxRecDepth 100000
set_option maxHeartbeats 12800000
namespace Go.Proofs.YtcfkllnpkmebpaaGreatDoor
open Go.RowKit
open Go.ChangeMaps Go.MapKept Go.WideShapes
open Go.WideElems (Fit rd rg pl rd_key rd_val rg_of)
open Go.Maps (Keyed)
set_option linter.unusedVariables false
set_option linter.unusedSimpArgs false
def kv(a b:Int):Value:=.agg #[.int .i64 a,.int .i64 b]
theorem kv_inj{a b c d:Int} (h:kv a b=kv c d):a=c∧b=d:=by
 unfold kv at h;simp at h;exact h
def rawR(v:Value):Option (DataW Value×List MemPlace):=some (.held v,[])
structure TwoKey (kt:TypeId):Prop where
 law:Keyed Tryz.prog kt
 wide:WideMaps.KeyLaw Tryz.prog kt
 lit:∀a b,I64 a→I64 b→∃l,keyOf Tryz.prog kt (kv a b)=some l
 inv:∀v l,keyOf Tryz.prog kt v=some l→∃a b,v=kv a b∧I64 a∧I64 b
theorem i64_wf(a:Int):(Lit.int .i64 a).wf=true↔I64 a:=by
 unfold I64
 have h1:IntKind.i64.min = -9223372036854775808:=by decide
 have h2:IntKind.i64.max=9223372036854775807:=by decide
 simp[Lit.wf,h1,h2]
theorem laidOut17:laidOutB Tryz.prog=true:=by kernel_rfl
theorem key_row:(147:TypeId)<Tryz.prog.types.size:=of_decide_eq_true (by kernel_rfl)
theorem key_wide:(match Tryz.prog.underlying 147 with | some (.array _ _) | some (.struct _)=>true | _=>false)=true:=by rw[Tryz.underlying147]
theorem key_law:WideMaps.KeyLaw Tryz.prog 147:=deep_law_laid laidOut17 (m:=2) (by omega) key_row (by kernel_rfl) key_wide
theorem key_type:Tryz.prog.keyType 147=true:=by kernel_rfl
theorem key_cells:Tryz.prog.cellsOf 147=2:=by kernel_rfl
theorem int_cells:Tryz.prog.cellsOf 3=1:=by kernel_rfl
theorem key_lits(n:Nat) (a b:Int) (ha:I64 a) (hb:I64 b):Tryz.prog.keyLits (n+2) 147 [.int .i64 a,.int .i64 b]=some [.int .i64 a,.int .i64 b]:=by
 have h1:=(i64_wf a).2 ha;have h2:=(i64_wf b).2 hb;simp[Program.keyLits,Tryz.underlying147,Tryz.underlying3,key_cells,int_cells,h1,h2]
theorem key_lits_inv(n:Nat) (cs:List Value) (l:List Lit) (h:Tryz.prog.keyLits (n+2) 147 cs=some l):∃a b,cs=[.int .i64 a,.int .i64 b]∧I64 a∧I64 b:=by
 simp[Program.keyLits,Tryz.underlying147,Tryz.underlying3,key_cells,int_cells] at h;obtain⟨hl,h⟩:=h
 match cs,hl with
 | [x,y],hxl =>
  simp at h;clear hxl
  cases x
  case int q a =>
   by_cases hq:q=.i64∧(Lit.int .i64 a).wf=true
   ·obtain⟨rfl,hwa⟩:=hq
    cases y
    case int q2 b =>
     by_cases hq2:q2=.i64∧(Lit.int .i64 b).wf=true
     ·obtain⟨rfl,hwb⟩:=hq2;exact⟨a,b,rfl,(i64_wf a).1 hwa,(i64_wf b).1 hwb⟩
     ·exfalso
      by_cases hq3:q2=.i64
      ·subst hq3
       have:(Lit.int .i64 b).wf=false:=by rw[Bool.eq_false_iff];exact fun e=>hq2 ⟨rfl,e⟩
       simp[hwa,this] at h
      ·simp[hwa,hq3] at h
    all_goals (exfalso;simp[hwa] at h)
   ·exfalso
    by_cases hq3:q=.i64
    ·subst hq3
     have:(Lit.int .i64 a).wf=false:=by rw[Bool.eq_false_iff];exact fun e=>hq ⟨rfl,e⟩
     simp[this] at h
    ·simp[hq3] at h
  all_goals (exfalso;simp at h)
theorem types_pos:∃n,Tryz.prog.types.size+1=n+2:=by
 have h:=key_row
 revert h
 generalize Tryz.prog.types.size=s;intro h;have h2:(147:Nat)<s:=h;exact⟨s - 1,by omega⟩
theorem key_two:TwoKey 147 where
 law:=Keyed.of_law key_law
 wide:=key_law
 lit a b ha hb:=by
  obtain⟨n,hn⟩:=types_pos;have h1:=key_lits n a b ha hb;refine⟨.string (keyBytes [.int .i64 a,.int .i64 b]),?_⟩;unfold keyOf;rw[Tryz.underlying147,hn];simp[key_type,Value.formed,Tryz.underlying147,key_cells,kv,Value.cells,h1]
 inv v l h:=by
  obtain⟨n,hn⟩:=types_pos;unfold keyOf at h;rw[Tryz.underlying147,hn] at h;simp[key_type] at h;obtain⟨hf,ls,hk,-⟩:=h;obtain⟨a,b,e,ha,hb⟩:=key_lits_inv n _ _ hk;refine⟨a,b,?_,ha,hb⟩
  cases v <;> simp[Value.formed,Tryz.underlying147] at hf
  rename_i cs
  unfold kv;simp[Value.cells] at e
  congr 1
  exact Array.ext' (by simpa using e)
def MapKV(w:World) (kt:TypeId) (b n:Nat) (f:Int→Int→Option Value):Prop :=
 ∃D,w.ownsMap Tryz.prog kt rawR b n D∧∀x y l,keyOf Tryz.prog kt (kv x y)=some l→Maps.has D l=(f x y).isSome∧∀z,D.atKey l (.held z)=.held ((f x y).getD z)
def upd(f:Int→Int→Option Value) (x y:Int) (v:Value):Int→Int→Option Value:=fun a b=>if a=x∧b=y then some v else f a b
theorem upd_same(f:Int→Int→Option Value) (x y:Int) (v:Value):upd f x y v x y=some v:=if_pos ⟨rfl,rfl⟩
theorem upd_other{f:Int→Int→Option Value} {x y:Int} {v:Value} {a b:Int} (h:¬(a=x∧b=y)):upd f x y v a b=f a b:=if_neg h
theorem MapKV.made(w:World) (kt:TypeId):MapKV (w.alloc (.map #[] 0)) kt w.heap.size 0 (fun _ _=>none) :=
 ⟨_,World.ownsMap_made w Tryz.prog kt rawR,fun x y l _=>⟨rfl,fun z=>rfl⟩⟩
theorem MapKV.lt{w:World} {kt:TypeId} {b n:Nat} {f:Int→Int→Option Value} (h:MapKV w kt b n f):b<w.heap.size:=by
 obtain⟨D,h1,-⟩:=h;exact h1.lt
theorem MapKV.kept{w w':World} {kt:TypeId} {b n:Nat} {f:Int→Int→Option Value} {row:Option Nat} (h:MapKV w kt b n f) (hg:w.grownBy w' row) (hne:some b≠row):MapKV w' kt b n f:=by
 obtain⟨D,h1,h2⟩:=h;exact⟨D,h1.kept hg hne,h2⟩
theorem MapKV.same{w w':World} {kt:TypeId} {b n:Nat} {f:Int→Int→Option Value} (h:MapKV w kt b n f) (e:w'.heap[b]?=w.heap[b]?):MapKV w' kt b n f:=by
 obtain⟨D,⟨es,clock,hb,r⟩,h2⟩:=h;exact⟨D,⟨es,clock,e.trans hb,r⟩,h2⟩
theorem MapKV.below{w w':World} {kt:TypeId} {b n B:Nat} {f:Int→Int→Option Value} (h:MapKV w kt b n f) (hb:Below B w w') (hB:b<B):MapKV w' kt b n f:=h.same (hb.block b hB)
theorem rawR_inj{v:Value} {d:DataW Value} {ps:List MemPlace} (h:rawR v=some (d,ps)):d=.held v:=by
 unfold rawR at h;injection h with h;injection h with h1 h2;exact h1.symm
theorem held_inj{a b:Value} (h:(DataW.held a:DataW Value)=.held b):a=b:=by injection h
section
variable {w : World} {kt t e : TypeId} {b n : Nat} {f : Int → Int → Option Value} {x y : Int} {z : Value}
theorem MapKV.look(T:TwoKey kt) (h:MapKV w kt b n f) (ht:Tryz.prog.underlying t=some (.map kt e)) (hz:(zeroValue e).run Tryz.prog w=.ok z w) (hx:I64 x) (hy:I64 y) :
  (Instr.lookup t (.map (some b)) (kv x y) false).run Tryz.prog w=.ok ((f x y).getD z) w:=by
 obtain⟨D,h1,h2⟩:=h;obtain⟨l,hl⟩:=T.lit x y hx hy;obtain⟨v,ps,hrun,hv⟩:=h1.lookup T.law ht hz (zd:=.held z) (zp:=[]) rfl hl;rw[(h2 x y l hl).2 z] at hv;rw[hrun,held_inj (rawR_inj hv)]
theorem MapKV.look_ok(T:TwoKey kt) (h:MapKV w kt b n f) (ht:Tryz.prog.underlying t=some (.map kt e)) (hz:(zeroValue e).run Tryz.prog w=.ok z w) (hx:I64 x) (hy:I64 y) :
  (Instr.lookup t (.map (some b)) (kv x y) true).run Tryz.prog w=.ok (.tuple #[(f x y).getD z,.bool (f x y).isSome]) w:=by
 obtain⟨D,h1,h2⟩:=h;obtain⟨l,hl⟩:=T.lit x y hx hy;obtain⟨v,ps,hrun,hv⟩:=h1.look_ok T.law ht hz (zd:=.held z) (zp:=[]) rfl hl;rw[(h2 x y l hl).2 z] at hv;rw[hrun,(h2 x y l hl).1,held_inj (rawR_inj hv)]
theorem put_upd{D:DataW Value} {l:Lit} {v:Value} (T:TwoKey kt) (hD:Maps.IsMap D) (h2:∀x y l,keyOf Tryz.prog kt (kv x y)=some l→Maps.has D l=(f x y).isSome∧∀z,D.atKey l (.held z)=.held ((f x y).getD z)) (hl:keyOf Tryz.prog kt (kv x y)=some l) :
  ∀a c l',keyOf Tryz.prog kt (kv a c)=some l'→Maps.has (D.put l (.held v)) l'=(upd f x y v a c).isSome∧∀z,(D.put l (.held v)).atKey l' (.held z)=.held ((upd f x y v a c).getD z):=by
 intro a c l' hl';by_cases hk:a=x∧c=y
 ·obtain⟨rfl,rfl⟩:=hk;rw[hl'] at hl;injection hl with hl;subst hl;rw[upd_same];exact⟨Maps.has_put_same hD (T.law.key hl') _,fun z=>Maps.atKey_put_same hD (T.law.key hl') _ _⟩
 ·rw[upd_other hk]
  have hne:l'≠l:=fun e=>hk (kv_inj (T.law.inj hl' (e▸hl)))
  exact⟨by rw[Maps.has_put_other hne];exact(h2 a c l' hl').1,fun z=>by rw[Maps.atKey_put_other hne];exact(h2 a c l' hl').2 z⟩
theorem MapKV.store(T:TwoKey kt) (h:MapKV w kt b n f) (ht:Tryz.prog.underlying t=some (.map kt e)) (hn:n<maxLen) (hx:I64 x) (hy:I64 y) (v:Value) :
  ∃w',(Instr.mapUpdate t (.map (some b)) (kv x y) v).run Tryz.prog w=.ok () w'∧MapKV w' kt b (n+1) (upd f x y v)∧w.grownBy w' (some b):=by
 obtain⟨D,h1,h2⟩:=h;obtain⟨l,hl⟩:=T.lit x y hx hy;obtain⟨w',hrun,r1,r2⟩:=h1.update T.law ht hn hl (d:=.held v) (ps:=[]) rfl;exact⟨w',hrun,⟨_,r1,put_upd T h1.isMap h2 hl⟩,r2⟩
theorem setBlock_grown{w:World} {b:Nat} {es:Array MapEntry} {clock:Nat} {o':Obj} (hb:w.heap[b]?=some (.map es clock)):w.grownBy (setBlock w b o') (some b):=⟨rfl,rfl,rfl,by simp[setBlock],fun i _ hi=>heap_setBlock_other hb _ (fun e=>hi (by rw[e]))⟩
theorem MapKV.entry(T:TwoKey kt) (h:MapKV w kt b n f) (ht:Tryz.prog.underlying t=some (.map kt e)) (hz:∀u:World,(zeroValue e).run Tryz.prog u=.ok z u) (hn:n<maxLen) (hx:I64 x) (hy:I64 y) :
  ∃(st:Nat) (w1:World),(Instr.mapEntry t (.map (some b)) (kv x y)).run Tryz.prog w=.ok (.tuple #[(f x y).getD z,goInt st]) w1∧w.grownBy w1 (some b) ∧
   ∀(w2:World) (v:Value),w2.heap[b]?=w1.heap[b]?→∃w3,(Instr.entryStore t (.map (some b)) (goInt st) v).run Tryz.prog w2=.ok () w3∧MapKV w3 kt b (n+1) (upd f x y v)∧w2.grownBy w3 (some b):=by
 have h0:=h;obtain⟨D,h1,h2⟩:=h;obtain⟨l,hl⟩:=T.lit x y hx hy;obtain⟨es,clock,hb,F,hs,rfl⟩:=h1;obtain⟨v0,st,es1,clock1,hrun,hv0,hst⟩:=WideElems.entry_then_store T.wide ht hz hb F hl
 have hv:v0=(f x y).getD z:=by
  rcases Maps.fit_look false T.law ht (hz w) hb F hl with ⟨_,hno,hat⟩ | ⟨e0,u,he0,hk0,_,hRv,hat,_⟩
  ·rcases hv0 with ⟨e1,he1,hk1,-⟩ | ⟨-,e1⟩
   ·exact absurd hk1 (hno e1 he1)
   ·have:=(h2 x y l hl).2 z;rw[hat] at this;rw[e1];exact held_inj this
  ·rcases hv0 with ⟨e1,he1,hk1,e2⟩ | ⟨hno,-⟩
   ·have hst2:=(stamped_iff es clock).1 F.stamped;have e3:=entry_eq_of_key hst2.2.2 he1 he0 (hk1.trans hk0.symm);have:=(h2 x y l hl).2 z;rw[hat] at this;have e4:u.1=.held e0.val:=rawR_inj (ps:=u.2) hRv;rw[e4] at this;rw[e2,e3];exact held_inj this
   ·exact absurd hk0 (hno e0 he0)
 refine⟨st,_,by rw[hrun,hv],setBlock_grown hb,fun w2 v hw2=>?_⟩;have hw2':w2.heap[b]?=some (.map es1 clock1):=hw2.trans (heap_setBlock_same hb _);obtain⟨es',clock',r1,r2⟩:=hst w2 v hw2';obtain⟨w',hrun',r3,r4⟩:=MapKV.store T h0 ht hn hx hy v;rw[hrun'] at r2;injection r2 with _ r2;refine⟨_,r1,MapKV.same r3 ?_,setBlock_grown hw2'⟩;rw[r2,heap_setBlock_same hb,heap_setBlock_same hw2']
end
section
variable {w : World} {ops : Array Oper} {rest : List Oper} {o : Oper} {a : Act} {Q : Exit → Act → World → Prop}
theorem kv_look(hg:o.guard=none) (m xo:Operand) (t kt e:TypeId) (hop:o.op=Op.lookup t m xo false) (T:TwoKey kt) (ht:Tryz.prog.underlying t=some (.map kt e)) (b n:Nat) (f:Int→Int→Option Value) (x y:Int) (z:Value)
  (hm:a.eval m=.map (some b)) (hxo:a.eval xo=.agg #[.int .i64 x,.int .i64 y]) (h:MapKV w kt b n f) (hz:(zeroValue e).run Tryz.prog w=.ok z w) (hx:I64 x) (hy:I64 y) (u:Value) (hu:(f x y).getD z=u)
  (hK:wpList Tryz.prog ops Q rest (a.put o.dst u) w):wpList Tryz.prog ops Q (o :: rest) a w:=by
 refine wpList_plain hg fun K' hK'=>?_
 have hrun:=h.look T ht hz hx hy;rw[hu] at hrun;unfold Oper.wp;unfold kv at hrun;simp[execOp,hop,hm,hxo,hrun,Result.andThen];exact hK' _ _ hK
theorem kv_look_ok(hg:o.guard=none) (m xo:Operand) (t kt e:TypeId) (hop:o.op=Op.lookup t m xo true) (T:TwoKey kt) (ht:Tryz.prog.underlying t=some (.map kt e)) (b n:Nat) (f:Int→Int→Option Value) (x y:Int) (z:Value)
  (hm:a.eval m=.map (some b)) (hxo:a.eval xo=.agg #[.int .i64 x,.int .i64 y]) (h:MapKV w kt b n f) (hz:(zeroValue e).run Tryz.prog w=.ok z w) (hx:I64 x) (hy:I64 y) (u:Option Value) (hu:f x y=u)
  (hK:wpList Tryz.prog ops Q rest (a.put o.dst (.tuple #[u.getD z,.bool u.isSome])) w):wpList Tryz.prog ops Q (o :: rest) a w:=by
 refine wpList_plain hg fun K' hK'=>?_
 have hrun:=h.look_ok T ht hz hx hy;rw[hu] at hrun;unfold Oper.wp;unfold kv at hrun;simp[execOp,hop,hm,hxo,hrun,Result.andThen];exact hK' _ _ hK
theorem kv_store(hg:o.guard=none) (m xo vo:Operand) (t kt e:TypeId) (hop:o.op=Op.mapUpdate t m xo vo) (T:TwoKey kt) (ht:Tryz.prog.underlying t=some (.map kt e)) (b n:Nat) (f:Int→Int→Option Value) (x y:Int) (v:Value)
  (hm:a.eval m=.map (some b)) (hxo:a.eval xo=.agg #[.int .i64 x,.int .i64 y]) (hvo:a.eval vo=v) (h:MapKV w kt b n f) (hn:n<maxLen) (hx:I64 x) (hy:I64 y)
  (hK:∀w',MapKV w' kt b (n+1) (upd f x y v)→w.grownBy w' (some b)→wpList Tryz.prog ops Q rest (a.put o.dst undef) w'):wpList Tryz.prog ops Q (o :: rest) a w:=by
 refine wpList_plain hg fun K' hK'=>?_
 obtain⟨w',hrun,r1,r2⟩:=h.store T ht hn hx hy v;unfold Oper.wp;unfold kv at hrun;simp[execOp,hop,hm,hxo,hvo,hrun,Result.andThen];exact hK' _ _ (hK w' r1 r2)
def Pend(w1:World) (t kt:TypeId) (b n:Nat) (f:Int→Int→Option Value) (x y:Int) (st:Nat):Prop :=
 ∀(w2:World) (v:Value),w2.heap[b]?=w1.heap[b]?→∃w3,(Instr.entryStore t (.map (some b)) (goInt st) v).run Tryz.prog w2=.ok () w3∧MapKV w3 kt b (n+1) (upd f x y v)∧w2.grownBy w3 (some b)
theorem kv_entry(hg:o.guard=none) (m xo:Operand) (t kt e:TypeId) (hop:o.op=Op.mapEntry t m xo) (T:TwoKey kt) (ht:Tryz.prog.underlying t=some (.map kt e)) (b n:Nat) (f:Int→Int→Option Value) (x y:Int) (z:Value)
  (hm:a.eval m=.map (some b)) (hxo:a.eval xo=.agg #[.int .i64 x,.int .i64 y]) (h:MapKV w kt b n f) (hz:∀u:World,(zeroValue e).run Tryz.prog u=.ok z u) (hn:n<maxLen) (hx:I64 x) (hy:I64 y) (u:Option Value) (hu:f x y=u)
  (hK:∀(st:Nat) (w1:World),w.grownBy w1 (some b)→Pend w1 t kt b n f x y st→wpList Tryz.prog ops Q rest (a.put o.dst (.tuple #[u.getD z,.int .i64 (st:Int)])) w1):wpList Tryz.prog ops Q (o :: rest) a w:=by
 refine wpList_plain hg fun K' hK'=>?_
 obtain⟨st,w1,hrun,r1,r2⟩:=h.entry T ht hz hn hx hy;rw[hu] at hrun;unfold Oper.wp;unfold kv at hrun;simp[execOp,hop,hm,hxo,hrun,Result.andThen];exact hK' _ _ (hK st w1 r1 r2)
theorem kv_entry_store(hg:o.guard=none) (m so vo:Operand) (t kt:TypeId) (hop:o.op=Op.entryStore t m so vo) (b n:Nat) (f:Int→Int→Option Value) (x y:Int) (st:Nat) (v:Value) (w1:World)
  (hm:a.eval m=.map (some b)) (hso:a.eval so=.int .i64 (st:Int)) (hvo:a.eval vo=v) (h:Pend w1 t kt b n f x y st) (hw:w.heap[b]?=w1.heap[b]?)
  (hK:∀w',MapKV w' kt b (n+1) (upd f x y v)→w.grownBy w' (some b)→wpList Tryz.prog ops Q rest (a.put o.dst undef) w'):wpList Tryz.prog ops Q (o :: rest) a w:=by
 refine wpList_plain hg fun K' hK'=>?_
 obtain⟨w',hrun,r1,r2⟩:=h w v hw;unfold Oper.wp;unfold goInt at hrun;simp[execOp,hop,hm,hso,hvo,hrun,Result.andThen];exact hK' _ _ (hK w' r1 r2)
end
end Go.Proofs.YtcfkllnpkmebpaaGreatDoor

namespace Go.Proofs.YtcfkllnpkmebpaaGreatDoor
open Go.RowKit
open Go.ChangeMaps Go.MapKept Go.WideShapes
open Go.Maps (Keyed)
set_option linter.unusedVariables false
set_option linter.unusedSimpArgs false
section
variable {w : World} {ops : Array Oper} {rest : List Oper} {o : Oper} {a : Act} {Q : Exit → Act → World → Prop}
theorem kv_next(hg:o.guard=none) (it:Operand) (hop:o.op=Op.next it false) (kt:TypeId) (T:TwoKey kt) (b r n:Nat) (D:DataW Value) (left:Lit→Bool) (cnt:Nat)
  (hit:a.eval it=.pointer (some ⟨r,0,none⟩)) (h:w.ranges Tryz.prog kt rawR b r n D left cnt)
  (hDone:cnt=0→(∀kl,left kl=false)→wpList Tryz.prog ops Q rest (a.put o.dst (.tuple #[.bool false])) w)
  (hMore:∀(x y:Int) (v:Value) (kl:Lit) (w':World) (cnt':Nat),keyOf Tryz.prog kt (kv x y)=some kl→I64 x→I64 y→left kl=true→Maps.has D kl=true→w'.ranges Tryz.prog kt rawR b r n D (fun z=>left z&&!z.sameKey kl) cnt'→cnt'<cnt →
   w.grownBy w' (some r)→w'.heap.size=w.heap.size→(Instr.entry (.pointer (some ⟨r,0,none⟩))).run Tryz.prog w'=.ok (.tuple #[.agg #[.int .i64 x,.int .i64 y],v]) w'→wpList Tryz.prog ops Q rest (a.put o.dst (.tuple #[.bool true,.agg #[.int .i64 x,.int .i64 y],v])) w') :
  wpList Tryz.prog ops Q (o :: rest) a w :=
 wpList_next_ranges w hg it hop kt T.law rawR (fun p:Int×Int=>kv p.1 p.2) (fun v:Value=>v) (fun key kl hk=>by obtain⟨x,y,e,-,-⟩:=T.inv key kl hk;exact⟨(x,y),e⟩) (fun v y _=>⟨v,rfl⟩)
  b r n D left cnt hit h hDone (fun p v kl y w' cnt' hkey hlk hv hat hrg hlt hgr hsz hen=>by
   obtain⟨x,y2,e,hx,hy⟩:=T.inv _ kl hkey;obtain⟨e1,e2⟩:=kv_inj e;obtain⟨px,py⟩:=p;simp only at e1 e2;subst e1;subst e2
   exact hMore px py v kl w' cnt' hkey hx hy hlk (Maps.has_true_of_atKey hat) hrg hlt hgr hsz hen)
end
noncomputable def gotten (kt : TypeId) (D : DataW Value) (left : Lit → Bool) (z : Value) : Int → Int → Option Value := fun x y =>
  match keyOf Tryz.prog kt (kv x y) with
  | some l => if Maps.has D l = true ∧ left l = false then some z else none
  | none => none
theorem MapKV.congr{w:World} {kt:TypeId} {b n:Nat} {f g:Int→Int→Option Value} (T:TwoKey kt) (h:MapKV w kt b n f) (e:∀x y,I64 x→I64 y→f x y=g x y):MapKV w kt b n g:=by
 obtain⟨D,h1,h2⟩:=h;refine⟨D,h1,fun x y l hl=>?_⟩;obtain⟨x',y',e1,hx,hy⟩:=T.inv _ l hl;obtain⟨rfl,rfl⟩:=kv_inj e1;rw[←e x y hx hy];exact h2 x y l hl
theorem gotten_start{kt:TypeId} (T:TwoKey kt) (D:DataW Value) (z:Value) {x y:Int} (hx:I64 x) (hy:I64 y):gotten kt D (Maps.has D) z x y=none:=by
 obtain⟨l,hl⟩:=T.lit x y hx hy;unfold gotten;rw[hl];simp only;rw[if_neg];intro h;rw[h.1] at h
 cases h.2
theorem gotten_step{kt:TypeId} (T:TwoKey kt) {D:DataW Value} {left:Lit→Bool} {z:Value} {x y:Int} {kl:Lit} (hk:keyOf Tryz.prog kt (kv x y)=some kl) (hD:Maps.has D kl=true) {a b:Int} (ha:I64 a) (hb:I64 b) :
  upd (gotten kt D left z) x y z a b=gotten kt D (fun l=>left l&&!l.sameKey kl) z a b:=by
 obtain⟨l,hl⟩:=T.lit a b ha hb;by_cases e:a=x∧b=y
 ·obtain⟨rfl,rfl⟩:=e;rw[upd_same];unfold gotten;rw[hk];simp only;rw[if_pos ⟨hD,by rw[WideAt.sameKey_self (T.law.key hk)];simp⟩]
 ·rw[upd_other e];unfold gotten;rw[hl];simp only
  have hne:l≠kl:=fun e2=>e (kv_inj (T.law.inj hl (e2▸hk)))
  simp only[Maps.sameKey_ne hne];simp
theorem gotten_end{kt:TypeId} (T:TwoKey kt) {D:DataW Value} {left:Lit→Bool} {z:Value} (hl:∀l,left l=false) {f:Int→Int→Option Value}
  (h2:∀x y l,keyOf Tryz.prog kt (kv x y)=some l→Maps.has D l=(f x y).isSome∧∀z,D.atKey l (.held z)=.held ((f x y).getD z)) {x y:Int} (hx:I64 x) (hy:I64 y):gotten kt D left z x y=if(f x y).isSome then some z else none:=by
 obtain⟨l,hk⟩:=T.lit x y hx hy;unfold gotten;rw[hk];simp only[hl l,(h2 x y l hk).1];simp
def stripeP(fs:List Fd) (x y:Int):List Fd:=fs.filter fun f=>f.p.vol==x&&f.p.stripe==y
theorem stripeP_snoc{fs:List Fd} {fd:Fd}:stripeP (fs++[fd]) fd.p.vol fd.p.stripe=stripeP fs fd.p.vol fd.p.stripe++[fd]:=by simp[stripeP]
theorem stripeP_other{fs:List Fd} {fd:Fd} {x y:Int} (h:¬(x=fd.p.vol∧y=fd.p.stripe)):stripeP (fs++[fd]) x y=stripeP fs x y:=by
 have:(fd.p.vol==x&&fd.p.stripe==y)=false:=by
  rw[Bool.and_eq_false_iff];by_cases e:fd.p.vol=x
  ·right;rw[beq_eq_false_iff_ne];exact fun e2=>h ⟨e.symm,e2.symm⟩
  ·left;rw[beq_eq_false_iff_ne];exact e
 simp[stripeP,List.filter_append,this]
theorem stripeP_length(fs:List Fd) (x y:Int):(stripeP fs x y).length≤fs.length:=List.length_filter_le _ _
def Groups(w:World) (base:Nat) (acks:List Ac) (f:Int→Int→Option Value) (fs:List Fd):Prop :=
 (∀x y,I64 x→I64 y→(verOf acks x y=none∧f x y=none)∨((verOf acks x y).isSome=true∧∃v,f x y=some v∧OwnFd w base 152 v (stripeP fs x y))) ∧
 (∀x y x' y' v v',I64 x→I64 y→I64 x'→I64 y'→f x y=some v→f x' y'=some v'→¬(x'=x∧y'=y)→v'.ownBlock=none∨v'.ownBlock≠v.ownBlock)
theorem Groups.start{w:World} {base:Nat} {acks:List Ac} {f:Int→Int→Option Value} (h:∀x y,I64 x→I64 y→f x y=if(verOf acks x y).isSome then some (.slice none 0 0) else none):Groups w base acks f []:=by
 refine⟨fun x y hx hy=>?_,fun x y x' y' v v' hx hy hx' hy' e e' _=>?_⟩
 ·rw[h x y hx hy]
  cases hv:verOf acks x y with
  | none=>left;exact⟨rfl,rfl⟩
  | some u=>right;exact⟨rfl,_,rfl,World.ownsRow_nil _ _ _ _⟩
 ·left
  rw[h x' y' hx' hy'] at e';split at e'
  ·injection e' with e';rw[←e'];rfl
  ·cases e'
theorem Groups.kept{w w':World} {base:Nat} {acks:List Ac} {f:Int→Int→Option Value} {fs:List Fd} {row:Option Nat} (h:Groups w base acks f fs) (hg:w.grownBy w' row) (hr:∀b,row=some b→b<base):Groups w' base acks f fs:=by
 refine⟨fun x y hx hy=>?_,h.2⟩;rcases h.1 x y hx hy with h1 | ⟨h1,v,hv,ho⟩
 ·exact .inl h1
 ·refine .inr ⟨h1,v,hv,World.ownsRow.kept ho hg ?_⟩;by_cases e:v.ownBlock=none
  ·exact .inl e
  ·right
   intro e2
   cases hvb:v.ownBlock with
   | none=>exact e hvb
   | some k =>
    have h3:=(World.ownsRow.lt ho k hvb).1;have h4:=hr k (by rw[←e2,hvb]);omega
theorem Groups.below{w w':World} {base:Nat} {acks:List Ac} {f:Int→Int→Option Value} {fs:List Fd} (h:Groups w base acks f fs) (hb:Below w.heap.size w w'):Groups w' base acks f fs :=
 h.kept (row:=none) ⟨hb.os,hb.tape,hb.output,hb.size,fun k hk _=>hb.block k hk⟩ (fun b e=>by cases e)
theorem Groups.push{w w':World} {base:Nat} {acks:List Ac} {f:Int→Int→Option Value} {fs:List Fd} {fd:Fd} {v v':Value} (h:Groups w base acks f fs) (hv:f fd.p.vol fd.p.stripe=some v) (hx:I64 fd.p.vol) (hy:I64 fd.p.stripe)
  (ho:OwnFd w' base 152 v' (stripeP fs fd.p.vol fd.p.stripe++[fd])) (hg:w.grownBy w' v.ownBlock) (hat:v'.ownBlock=v.ownBlock∨v'.ownBlock=some w.heap.size) (hs:(verOf acks fd.p.vol fd.p.stripe).isSome=true) :
  Groups w' base acks (upd f fd.p.vol fd.p.stripe v') (fs++[fd]):=by
 have old:∀x y u,I64 x→I64 y→f x y=some u→OwnFd w base 152 u (stripeP fs x y):=by
  intro x y u hx hy hu;rcases h.1 x y hx hy with h1 | ⟨_,u',hu',ho'⟩
  ·rw[h1.2] at hu;cases hu
  ·rw[hu] at hu';injection hu' with e;rw[e];exact ho'
 refine⟨fun x y hx' hy'=>?_,fun x y x2 y2 u u2 h1 h2 h3 h4 e e2 hne=>?_⟩
 ·by_cases e:x=fd.p.vol∧y=fd.p.stripe
  ·obtain⟨rfl,rfl⟩:=e
   right
   rw[upd_same,stripeP_snoc];exact⟨hs,v',rfl,ho⟩
  ·rw[upd_other e,stripeP_other e];rcases h.1 x y hx' hy' with h1 | ⟨h1,u,hu,hou⟩
   ·exact .inl h1
   ·exact .inr ⟨h1,u,hu,World.ownsRow.kept hou hg (h.2 _ _ x y v u hx hy hx' hy' hv hu e)⟩
 ·have new:∀x y u,I64 x→I64 y→f x y=some u→¬(x=fd.p.vol∧y=fd.p.stripe)→u.ownBlock=none∨u.ownBlock≠v'.ownBlock:=by
   intro x y u hx' hy' hu hne2;rcases hat with ha | ha
   ·rw[ha];exact h.2 _ _ x y v u hx hy hx' hy' hv hu hne2
   ·by_cases e0:u.ownBlock=none
    ·exact .inl e0
    ·right
     intro e3;have:=(World.ownsRow.lt (old x y u hx' hy' hu) w.heap.size (e3.trans ha)).2;omega
  by_cases c1:x=fd.p.vol∧y=fd.p.stripe
  ·obtain⟨rfl,rfl⟩:=c1;rw[upd_same] at e;injection e with e;subst e;rw[upd_other hne] at e2;exact new x2 y2 u2 h3 h4 e2 hne
  ·rw[upd_other c1] at e;by_cases c2:x2=fd.p.vol∧y2=fd.p.stripe
   ·obtain⟨rfl,rfl⟩:=c2;rw[upd_same] at e2;injection e2 with e2;subst e2;rcases new x y u h1 h2 e c1 with h5 | h5
    ·by_cases e5:v'.ownBlock=none
     ·exact .inl e5
     ·exact .inr (fun e6=>e5 (e6.trans h5))
    ·exact .inr (fun e6=>h5 e6.symm)
   ·rw[upd_other c2] at e2;exact h.2 x y x2 y2 u u2 h1 h2 h3 h4 e e2 hne
theorem info_found:(Tryz.prog.info? 152).map (fun i=>(i.zero,i.size,i.bytes))=some (some (.agg #[.int .i64 0,.int .i64 0,.int .i64 0,.int .i64 0,.int .i64 0,.int .i64 0,.string ⟨#[]⟩]),7,64):=by kernel_rfl
theorem app_found{ops:Array Oper} {rest:List Oper} {o:Oper} {a:Act} {Q:Exit→Act→World→Prop} {w:World} (f:Fd) (s x:Operand) (hgd:o.guard=none) (ho:o.op=.call { callee:=.builtin .append,args:=#[s,x],argTypes:=#[143,143] })
  (base:Nat) (v:Value) (fs:List Fd) (hs:a.eval s=v) (hown:OwnFd w base 152 v fs) (g:Nat) (hx:a.eval x=.slice (some ⟨g,0,none⟩) 1 1) (v0 v1 v2 v3 v4 v5:Int) (t:ByteArray) (hf:FdC f=[.int .i64 v0,.int .i64 v1,.int .i64 v2,.int .i64 v3,.int .i64 v4,.int .i64 v5,.string t])
  (hc:w.heap[g]?=some (.cells #[.int .i64 v0,.int .i64 v1,.int .i64 v2,.int .i64 v3,.int .i64 v4,.int .i64 v5,.string t] 152 (0,0))) (hn:fs.length+1≤16777216) (hbase:base≤w.heap.size)
  (h:∀v' w',OwnFd w' base 152 v' (fs++[f])→w.grownBy w' v.ownBlock→(v'.ownBlock=v.ownBlock∨v'.ownBlock=some w.heap.size)→wpList Tryz.prog ops Q rest (a.put o.dst v') w') :
  wpList Tryz.prog ops Q (o :: rest) a w:=by
 obtain⟨i0,hi0,hz0,hz1,hz2⟩:=info_parts info_found;refine wpList_append_own_at (P:=Tryz.prog) _ hgd s x _ ho base _ i0 _ 7 64 Tryz.underlying143 hi0 hz0 hz1 hz2 rfl (by decide) v fs.length _ hs hown ⟨g,0,none⟩ 1 1 (FdC f) hx rfl ?_ (fun u hu=>?_) (by unfold maxLen;omega) (by omega) hbase (fun v' w' h1 h2 _ h4=>h v' w' ?_ h2 h4)
 ·intro j u hj
  have e1:(⟨g,0,none⟩:Addr).add j=⟨g,j,none⟩:=by unfold Addr.add;split <;> simp_all
  rw[e1,cell_of_row _ _ _ _ _ _ hc];rw[hf] at hj
  simpa using hj
 ·simp[FdC] at hu;rcases hu with rfl | rfl | rfl | rfl | rfl | rfl | rfl <;> rfl
 ·unfold OwnFd;rw[flat_one,List.length_append];exact h1
end Go.Proofs.YtcfkllnpkmebpaaGreatDoor

namespace Go.Proofs.YtcfkllnpkmebpaaGreatDoor
open Go.RowKit
open Go.Maps (Keyed)
set_option linter.unusedVariables false
set_option linter.unusedSimpArgs false
theorem zero_int19(u:World):(zeroValue 3).run Tryz.prog u=.ok (.int .i64 0) u:=by kernel_rfl
theorem key_law19:Keyed Tryz.prog 147:=Keyed.of_law key_law
theorem zero_fds(u:World):(zeroValue 143).run Tryz.prog u=.ok (.slice none 0 0) u:=by kernel_rfl
def verF(l:List Ac):Int→Int→Option Value:=fun x y=>(verOf l x y).map (Value.int .i64)
theorem verOf_have{l:List Ac} {j:Nat} (hj:j<l.length) {x y:Int} (h:(verOf (l.take j) x y).isSome=true):verOf (l.take (j+1)) x y=verOf (l.take j) x y:=by
 unfold verOf at h ⊢;rw[List.take_succ_eq_append_getElem hj,List.find?_append]
 cases e:(l.take j).find? fun a=>a.vol==x&&a.stripe==y with
 | none=>rw[e] at h;cases h
 | some a=>rfl
theorem verOf_new{l:List Ac} {j:Nat} (hj:j<l.length) (h:verOf (l.take j) l[j].vol l[j].stripe=none):verOf (l.take (j+1)) l[j].vol l[j].stripe=some l[j].ver:=by
 unfold verOf at h ⊢;rw[Option.map_eq_none_iff] at h;rw[List.take_succ_eq_append_getElem hj,List.find?_append,h];simp[List.find?]
theorem verF_old{l:List Ac} {j:Nat} (hj:j<l.length) (h:(verOf (l.take j) l[j].vol l[j].stripe).isSome=true):∀x y,verF (l.take (j+1)) x y=verF (l.take j) x y:=by
 intro x y;unfold verF;by_cases e:l[j].vol=x∧l[j].stripe=y
 ·obtain⟨rfl,rfl⟩:=e;rw[verOf_have hj h]
 ·cases hv:verOf (l.take j) x y with
  | none=>rw[verOf_take hv hj e]
  | some u=>rw[verOf_have hj (by rw[hv];rfl),hv]
theorem verF_upd{l:List Ac} {j:Nat} (hj:j<l.length) (h:verOf (l.take j) l[j].vol l[j].stripe=none):∀x y,upd (verF (l.take j)) l[j].vol l[j].stripe (.int .i64 l[j].ver) x y=verF (l.take (j+1)) x y:=by
 intro x y;by_cases e:x=l[j].vol∧y=l[j].stripe
 ·obtain⟨rfl,rfl⟩:=e;rw[upd_same];unfold verF;rw[verOf_new hj h];rfl
 ·rw[upd_other e];unfold verF
  cases hv:verOf (l.take j) x y with
  | none=>rw[verOf_take hv hj (fun e2=>e ⟨e2.1.symm,e2.2.symm⟩)]
  | some u=>rw[verOf_have hj (by rw[hv];rfl),hv]
theorem index_any(vp vo va:Value) (r:Re) (w:World) (h:ReS w (Bl w.heap.size) vp vo va r) (hp:r.plat.length≤1000) (hl:∀l∈r.plat,l.length≤1000) (hac:r.acks.length≤1000000) :
  Calls Tryz.prog 70 #[.agg #[vp,vo,va]] w fun e w'=>∃b n f,e=.returned (.map (some b))∧w.heap.size≤b∧MapKV w' 147 b n f∧Groups w' (b+1) r.acks f (pieces r)∧Below w.heap.size w w':=by
 obtain⟨Ap,cp,rfl,-,hmp⟩:=h.1.form;obtain⟨Aa,ca,rfl,-,hma⟩:=h.2.2.form;have HR:=zh h;have HPL:=zh hl;have HTO:=zh (piecesTo_length r 1000 hl);obtain⟨W0,hW0⟩:=zx (w.alloc (.cells #[.slice Ap r.plat.length cp,vo,.slice Aa r.acks.length ca] 40));obtain⟨q,hq⟩:=zx w.heap.size
 have c0:W0.cell? ⟨q,0,none⟩=some (.slice Ap r.plat.length cp):=by rw[hW0,hq];simp
 have hb0:Below w.heap.size w W0:=by rw[hW0];exact(Below.refl _ _).alloc (Nat.le_refl _) _
 have hq0:q<W0.heap.size:=by rw[hW0,hq];simp
 obtain⟨Bv,hBv⟩:=zx W0.heap.size;obtain⟨W1,hW1⟩:=zx (W0.alloc (.map #[] 0))
 have hM0:MapKV W1 147 Bv 0 (fun _ _=>none):=by rw[hW1,hBv];exact MapKV.made _ _
 have hb1:Below Bv W0 W1:=by rw[hW1,hBv];exact(Below.refl _ _).alloc (Nat.le_refl _) _
 have HQ:=zh hq;have HW0:=zh hW0;have HB0:=zh hb0;have HC0:=zh c0;have HBV:=zh hBv
 have hBq:Bv=q+1:=by rw[hBv,hW0,hq];simp
 have HBQ:=zh hBq;have HW1:=zh hW1;have HM0:=zh hM0;have HB1:=zh hb1;obtain⟨D,hD⟩:=zx r.plat.length;obtain⟨N,hN⟩:=zx r.acks.length;rw[←hD,←hN] at HW0;rw[←hD] at HC0 hp ⊢;rw[←hN] at hac ⊢;have HD:=zh hD;have HN:=zh hN;have hmm:=@run_makeMap Tryz.prog;clear h hl hW0 hq hb0 c0 hD hN hBv hW1 hM0 hb1 hBq;go_enter Tryz.func70,Tryz.ntmps70;go_wp2_with fail;clear hmm;rw[←HW0.out,←HQ.out,←HBQ.out,←HW1.out]
 have hBw:w.heap.size≤Bv:=by rw[HBV.out];exact HB0.out.size
 have hW1s:Bv<W1.heap.size:=HM0.out.lt;go_loopg [24] N (fun z v24 wr=>∃j:Nat,j≤N∧z=N - j∧v24=.int .i64 (j:Int)∧Hid (∃n,n≤j∧MapKV wr 147 Bv n (verF (r.acks.take j)))∧Below Bv W0 wr)
 case atStart=>exact⟨0,by omega,rfl,rfl,⟨0,by omega,HM0.out⟩,HB1.out⟩
 case round =>
  obtain⟨j,hj,rfl,rfl,HM,hbr⟩:=hrel;have hbw:=HB0.out.trans (hbr.mono hBw)
  have hsz:Bv≤wr.heap.size:=by rw[HBV.out];exact hbr.size
  by_cases hlt:j<N
  ·-- L1{
   have hjl:j<r.acks.length:=by rw[←HN.out];exact hlt
   obtain⟨n,hn,hM⟩:=HM.out;obtain⟨b,off,cs,rfl,hRb,-,hcs,hk,i1,i2,i3,i4⟩:=HR.out.2.2.at_ hjl;obtain⟨d0,d1,d2,d3⟩:=four hcs hk;have k0:=(hbw.cell (p:=⟨b,off+j * 4,none⟩) hRb).trans d0;have k1:=(hbw.cell (p:=⟨b,off+j * 4+1,none⟩) hRb).trans d1;have k2:=(hbw.cell (p:=⟨b,off+j * 4+2,none⟩) hRb).trans d2;have k3:=(hbw.cell (p:=⟨b,off+j * 4+3,none⟩) hRb).trans d3
   have hold:=fun hs=>verF_old (l:=r.acks) hjl hs
   have hnew:=fun hs=>verF_upd (l:=r.acks) hjl hs
   generalize r.acks[j]=x at *;have HOLD:=zh hold;have HNEW:=zh hnew;have HMJ:=zh hM;have hblt:b<wr.heap.size:=Nat.lt_of_lt_of_le hRb hbw.size;clear hcs hk d0 d1 d2 d3 hold hnew hM HM cs
   cases hv:verOf (r.acks.take j) x.vol x.stripe with
   | none =>
    have hu:verF (r.acks.take j) x.vol x.stripe=none:=by unfold verF;rw[hv];rfl
    have HNW:=zh (HNEW.out hv);have HU:=zh hu;clear hv hu
    go_wp2_with (first
     | (at_lookup;refine kv_look_ok rfl _ _ _ 147 3 rfl key_two Tryz.underlying206 Bv n (verF (r.acks.take j)) x.vol x.stripe (.int .i64 0) (by rfl) (by rfl) ((HMJ.out.kept (World.grownBy_alloc _ _ none) (by simp)).kept (World.grownBy_alloc _ _ none) (by simp)) (zero_int19 _) i1 i2 _ HU.out ?_)
     | (at_mapUpdate;refine kv_store rfl _ _ _ _ 147 3 rfl key_two Tryz.underlying206 Bv n (verF (r.acks.take j)) x.vol x.stripe _ (by rfl) (by rfl) (by rfl) ((HMJ.out.kept (World.grownBy_alloc _ _ none) (by simp)).kept (World.grownBy_alloc _ _ none) (by simp)) (by unfold maxLen;omega) i1 i2 ?_;intro w4 hM4 hg4))
    go_roundg (N - (j+1))
    case measure=>omega
    case rel=>exact⟨j+1,by omega,rfl,by go_num,⟨n+1,by omega,MapKV.congr key_two hM4 (fun x y _ _=>HNW.out x y)⟩,((hbr.alloc hsz _).alloc (by simp;omega) _).grown hg4 (by simp;omega) (fun b e=>by injection e with e;omega)⟩
   | some u =>
    have hu:verF (r.acks.take j) x.vol x.stripe=some (.int .i64 u):=by unfold verF;rw[hv];rfl
    have HOD:=zh (HOLD.out (by rw[hv];rfl));have HU:=zh hu;clear hv hu;go_wp2_with (at_lookup;refine kv_look_ok rfl _ _ _ 147 3 rfl key_two Tryz.underlying206 Bv n (verF (r.acks.take j)) x.vol x.stripe (.int .i64 0) (by rfl) (by rfl) ((HMJ.out.kept (World.grownBy_alloc _ _ none) (by simp)).kept (World.grownBy_alloc _ _ none) (by simp)) (zero_int19 _) i1 i2 _ HU.out ?_);go_roundg (N - (j+1))
    case measure=>omega
    case rel=>exact⟨j+1,by omega,rfl,by go_num,⟨n,by omega,MapKV.congr key_two ((HMJ.out.kept (World.grownBy_alloc _ _ none) (by simp)).kept (World.grownBy_alloc _ _ none) (by simp)) (fun x y _ _=>(HOD.out x y).symm)⟩,(hbr.alloc hsz _).alloc (by simp;omega) _⟩
  ·-- L2{
   obtain⟨n,hn,hM⟩:=HM.out
   have hjN:r.acks.take j=r.acks:=by rw[List.take_of_length_le (by rw[←HN.out];omega)]
   rw[hjN] at hM;obtain⟨W2,hW2⟩:=zx (wr.alloc (.map #[] 0));obtain⟨Bo,hBo⟩:=zx wr.heap.size
   have hMo:MapKV W2 147 Bo 0 (fun _ _=>none):=by rw[hW2,hBo];exact MapKV.made _ _
   have hMv:=hM.kept (World.grownBy_alloc wr (.map #[] 0) none) (by simp);rw[←hW2] at hMv
   have hb2:Below Bv W0 W2:=by rw[hW2];exact hbr.alloc hsz _
   have hvo:Bv<Bo:=by rw[hBo];exact hM.lt
   have hBo2:Bo<W2.heap.size:=hMo.lt;obtain⟨Dv,hDown,hDv⟩:=hMv
   have hcnt:Maps.size Dv≤N:=by have:=hDown.size_le;omega
   have HDN:=zh hDown;have HDV:=zh hDv;have HMO:=zh hMo;have HB2:=zh hb2;have HW2:=zh hW2;have HBO:=zh hBo;have hmm:=@run_makeMap Tryz.prog;clear hW2 hBo hMo hb2 hDown hDv hM HM hjN hmp hma
   go_wp2_with (first
    | (at_range;(try rw[←HW2.out]);refine wpList_range_own _ rfl _ _ rfl 147 3 key_law19 Tryz.underlying206 _ Bv n Dv (by rfl) HDN.out ?_;intro w3 hrg3 hg3 hs3))
   rw[←HBO.out]
   go_frame
   clear hmm;obtain⟨Br,hBr⟩:=zx W2.heap.size;rw[←hBr] at hrg3 ⊢;have HBR:=zh hBr;have hb3:Below Bv W0 w3:=HB2.out.grown hg3 (by rw[←hBr];omega) (fun b e=>by cases e);have HRG:=zh hrg3;have HG3:=zh hg3
   have hBr2:Bo<Br:=by rw[hBr];exact hBo2
   have hs3b:Br<w3.heap.size:=by rw[hs3,←hBr];omega
   have HB3:=zh hb3;clear hrg3 hg3 hs3 hBr hb3;go_loopg [50] (Maps.size Dv) (fun z v50 wx=>∃left,Hid (wx.ranges Tryz.prog 147 rawR Bv Br n Dv left z)∧Hid (∃m,m+z≤N∧MapKV wx 147 Bo m (gotten 147 Dv left (.slice none 0 0)))∧Below Bv W0 wx∧Br<wx.heap.size)
   case atStart=>exact⟨_,HRG.out,⟨0,by omega,MapKV.congr key_two (HMO.out.kept HG3.out (by simp)) (fun x y hx hy=>(gotten_start key_two Dv _ hx hy).symm)⟩,HB3.out,hs3b⟩
   case round =>
    obtain⟨left,hrg,hm,hbx,hBx⟩:=hrel;go_wp2_with (at_next;refine kv_next rfl _ rfl 147 key_two Bv Br n Dv left _ (by rfl) hrg.out ?_ ?_)
    ·-- L3{
     intro _ hl0;obtain⟨m,hm1,hm2⟩:=hm.out;have hMo:MapKV wr 147 Bo m (fun x y=>if(verF r.acks x y).isSome then some (.slice none 0 0) else none):=MapKV.congr key_two hm2 (fun x y hx hy=>gotten_end key_two hl0 HDV.out hx hy);have hMv:MapKV wr 147 Bv n (verF r.acks):=⟨Dv,hrg.out.owns,HDV.out⟩;have hGr:Groups wr (Bo+1) r.acks (fun x y=>if(verF r.acks x y).isSome then some (.slice none 0 0) else none) (piecesTo r 0):=Groups.start (fun x y _ _=>by unfold verF;cases verOf r.acks x y <;> rfl);have HMO:=zh hMo;have HMV:=zh hMv;have HGR:=zh hGr
     have hBos:Bo+1≤wr.heap.size:=by omega
     have HBX:=zh hbx;have e0:=(hbx.cell (p:=⟨q,0,none⟩) (show q<Bv by rw[HBQ.out];omega)).trans HC0.out;clear hm hm2 hrg hMo hMv hGr HDN HDV HM0 HRG HG3 HB3 hl0 hbx;go_wp2_with fail;go_loopg [58] D (fun z v58 wx=>∃d:Nat,d≤D∧z=D - d∧v58=.int .i64 (d:Int)∧Hid (∃m f,m≤N+d * 1000∧MapKV wx 147 Bo m f∧Groups wx (Bo+1) r.acks f (piecesTo r d))∧Hid (MapKV wx 147 Bv n (verF r.acks))∧Below Bv W0 wx∧Bo+1≤wx.heap.size)
     case atStart=>exact⟨0,by omega,rfl,rfl,⟨m,_,by omega,HMO.out,HGR.out⟩,HMV.out,HBX.out,hBos⟩
     case round =>
      clear HMO HMV HGR hBos HBX e0 hm1;obtain⟨d,hd,rfl,rfl,HG,HV,hbx,hBos⟩:=hrel;by_cases hlt:d<D
      ·-- L5{
       have hdl:d<r.plat.length:=by rw[←HD.out];exact hlt
       obtain⟨l,hl⟩:=zx (r.plat[d])
       have hgl:r.plat.getD d []=l:=by rw[hl];exact getD_lt _ _ hdl
       have hl1000:l.length≤1000:=by rw[hl];exact HPL.out _ (List.getElem_mem hdl)
       obtain⟨bp,op,csp,hAp,hRp,-,hcp,vd,hvd,hsl⟩:=HR.out.1.at_ hdl;rw[←hl] at hsl;have hcd:=hcp 0 vd (by rw[hvd];rfl);obtain⟨Ad,cd,rfl,-,-⟩:=hsl.form;have HSL:=zh hsl;have HGL:=zh hgl;have hbw2:=HB0.out.trans (hbx.mono hBw)
       have ed:wr.cell? ⟨bp,op+d,none⟩=some (.slice Ad l.length cd):=by
        have h1:=(hbw2.cell (p:=⟨bp,op+d * 1+0,none⟩) hRp).trans hcd
        simpa using h1
       subst hAp;obtain⟨wo,rfl⟩:=zx (wr:World);clear hl hgl hcp hvd hsl hcd csp hbw2;go_wp2_with fail;go_loopg [65] l.length (fun z v65 wx=>∃j:Nat,j≤l.length∧z=l.length - j∧v65=.int .i64 (j:Int)∧Hid (∃m f,m≤N+d * 1000+j∧MapKV wx 147 Bo m f∧Groups wx (Bo+1) r.acks f (piecesTo r d++drvP r.acks d (l.take j)))∧Hid (MapKV wx 147 Bv n (verF r.acks))∧Below Bv W0 wx∧Bo+1≤wx.heap.size)
       case atStart =>
        obtain⟨m,f,hm,hM,hG⟩:=HG.out;exact⟨0,by omega,rfl,rfl,⟨m,f,by omega,hM,by simpa[drvP] using hG⟩,HV.out,hbx,hBos⟩
       case round =>
        clear HG HV hbx hBos ed;obtain⟨k,hk,rfl,rfl,HG,HV,hbx,hBos⟩:=hrel;by_cases hlt2:k<l.length
        ·-- L6{
         obtain⟨bs,os,css,hAs,hRs,-,hcs,hse,hsm⟩:=HSL.out.at_ hlt2;have hbw2:=HB0.out.trans (hbx.mono hBw);have hes:=hcs 0 (.string l[k]) (by rw[hse];rfl);obtain⟨s,hs⟩:=zx (l[k]);rw[←hs] at hes hsm
         have es:wr.cell? ⟨bs,os+k,none⟩=some (.string s):=by
          have h1:=(hbw2.cell (p:=⟨bs,os+k * 1+0,none⟩) hRs).trans hes
          simpa using h1
         subst hAs;have HDEC:=zh (fun w=>sdec_any s w hsm)
         have hyes:=fun p hg=>drvP_yes (acks:=r.acks) (d:=d) (l:=l) hlt2 (p:=p) hg
         have hno:=fun hg=>drvP_no (acks:=r.acks) (d:=d) (l:=l) hlt2 hg
         rw[←hs] at hyes hno;have HY:=zh hyes;have HNO:=zh hno;obtain⟨E,hE⟩:=zx (decEr s.data.toList);obtain⟨P,hP⟩:=zx (decPc s.data.toList);rw[←hE,←hP] at HDEC;have HE:=zh hE;have HP:=zh hP
         have hlen:(piecesTo r d++drvP r.acks d (l.take k)).length+1≤16777216:=by
          have h1:=HTO.out d;have h2:=drvP_length r.acks d (l.take k);have h3:(l.take k).length≤k:=List.length_take_le _ _;rw[List.length_append];have h4:d * 1000≤1000 * 1000:=Nat.mul_le_mul_right 1000 (by omega);omega
         have hm16:N+d * 1000+k<maxLen:=by
          have h4:d * 1000≤1000 * 1000:=Nat.mul_le_mul_right 1000 (by omega);unfold maxLen;omega
         obtain⟨fs,hfs⟩:=zx (piecesTo r d++drvP r.acks d (l.take k));obtain⟨m,f,hm,hM,hG⟩:=HG.out;rw[←hfs] at hG hlen;have HFS:=zh hfs;have HLEN:=zh hlen;have HM16:=zh hm16;have HM2:=zh hM;have HG2:=zh hG;have HMM:=zh hm
         have hpi:PcI P:=by
          rw[hP];unfold decPc;split
          ·rename_i h0
           have h36:s.data.toList.length=36:=by
            by_cases h:s.data.toList.length=36
            ·exact h
            ·rw[decEr_len h] at h0;cases h0
           exact(decP_in _ h36).1
          ·refine⟨?_,?_,?_,?_,?_,?_⟩ <;> simp[I64]
         have HPI:=zh hpi;obtain⟨pa,pb,pc,pg,pr,px⟩:=P;unfold PcV at HDEC;simp only at HDEC;obtain⟨x,hx⟩:∃x:ByteArray,x=⟨px.toArray⟩:=⟨_,rfl⟩;rw[←hx] at HDEC;have HX:=zh hx
         have hgp:goodP r.acks s=if E=0∧verOf r.acks pa pc=some pr then some ⟨pa,pb,pc,pg,pr,px⟩ else none:=by
          unfold goodP;by_cases hE0:E=0
          ·have hPd:(⟨pa,pb,pc,pg,pr,px⟩:Pc)=decP s.data.toList:=hP.trans (decPc_ok (hE.symm.trans hE0));rw[←hPd,←hE]
          ·rw[if_neg (fun h=>hE0 (hE.trans h.1)),if_neg (fun h=>hE0 h.1)]
         have HGP:=zh hgp;have hpa:=hpi.1;have hpc:=hpi.2.2.1;clear hcs hes hs hse hsm hyes hno hE hP hfs hpi hx css HG hlen hM hG hm hm16 hbw2 hgp;go_wp2_with fail;refine(HDEC.out _).mono ?_;rintro e w2 ⟨rfl,hb2⟩;have hV2:=HV.out.below hb2 (HV.out.lt);have hM2:=HM2.out.below hb2 (HM2.out.lt);have hG2:=HG2.out.below hb2;have hbx2:Below Bv W0 w2:=hbx.trans (hb2.mono (by omega))
         have hBos2:Bo+1≤w2.heap.size:=by have:=hb2.size;omega
         have HV2:=zh ((hV2.kept (World.grownBy_alloc _ (.cells #[.int .i64 pa,.int .i64 pb,.int .i64 pc,.int .i64 pg,.int .i64 pr,.string x] 94) none) (by simp)).kept (World.grownBy_alloc _ (.cells #[.int .i64 pa,.int .i64 pc] 147) none) (by simp));have HM3:=zh ((hM2.kept (World.grownBy_alloc _ (.cells #[.int .i64 pa,.int .i64 pb,.int .i64 pc,.int .i64 pg,.int .i64 pr,.string x] 94) none) (by simp)).kept (World.grownBy_alloc _ (.cells #[.int .i64 pa,.int .i64 pc] 147) none) (by simp));have HG3:=zh ((hG2.kept (World.grownBy_alloc _ (.cells #[.int .i64 pa,.int .i64 pb,.int .i64 pc,.int .i64 pg,.int .i64 pr,.string x] 94) none) (by intro b e;cases e)).kept (World.grownBy_alloc _ (.cells #[.int .i64 pa,.int .i64 pc] 147) none) (by intro b e;cases e));have HBX3:=zh ((hbx2.alloc (by omega) (.cells #[.int .i64 pa,.int .i64 pb,.int .i64 pc,.int .i64 pg,.int .i64 pr,.string x] 94)).alloc (by simp;omega) (.cells #[.int .i64 pa,.int .i64 pc] 147));clear hV2 hM2 hG2 hbx2 HM2 HG2 HV hbx hb2
         cases hvo:verOf r.acks pa pc with
         | none =>
          have hgn:goodP r.acks s=none:=by rw[HGP.out];exact if_neg (fun h=>by rw[hvo] at h;cases h.2)
          have HGN:=zh (HNO.out hgn);have HU:=zh (show verF r.acks pa pc=none by unfold verF;rw[hvo];rfl);clear hgn hvo;by_cases hE0:E=0
          ·have hE1:(E==0)=true:=by simpa using hE0
           clear hE0;go_wp2_with (at_lookup;refine kv_look_ok rfl _ _ _ 147 3 rfl key_two Tryz.underlying206 Bv n (verF r.acks) pa pc (.int .i64 0) (by rfl) (by rfl) HV2.out (zero_int19 _) hpa hpc _ HU.out ?_);go_roundg (l.length - (k+1))
           case measure=>omega
           case rel=>exact⟨k+1,by omega,rfl,by go_num,⟨m,f,by have:=HMM.out;omega,HM3.out,by rw[HGN.out,←HFS.out];exact HG3.out⟩,HV2.out,HBX3.out,by simp;omega⟩
          ·have hE1:(E==0)=false:=by simpa using hE0
           clear hE0;go_wp2_with (at_lookup;refine kv_look_ok rfl _ _ _ 147 3 rfl key_two Tryz.underlying206 Bv n (verF r.acks) pa pc (.int .i64 0) (by rfl) (by rfl) HV2.out (zero_int19 _) hpa hpc _ HU.out ?_);go_roundg (l.length - (k+1))
           case measure=>omega
           case rel=>exact⟨k+1,by omega,rfl,by go_num,⟨m,f,by have:=HMM.out;omega,HM3.out,by rw[HGN.out,←HFS.out];exact HG3.out⟩,HV2.out,HBX3.out,by simp;omega⟩
         | some u =>
          have HU:=zh (show verF r.acks pa pc=some (.int .i64 u) by unfold verF;rw[hvo];rfl);by_cases hE0:E=0
          ·have hE1:(E==0)=true:=by simpa using hE0
           by_cases hu:u=pr
           ·-- V3{
            have q1:(u==pr)=true:=by simpa using hu
            have hgn:goodP r.acks s=some ⟨pa,pb,pc,pg,pr,px⟩:=by rw[HGP.out,hvo,hu];exact if_pos ⟨hE0,rfl⟩
            have HGN:=zh (HY.out _ hgn)
            have hfd:FdC ⟨d,⟨pa,pb,pc,pg,pr,px⟩⟩=[.int .i64 (d:Int),.int .i64 pa,.int .i64 pb,.int .i64 pc,.int .i64 pg,.int .i64 pr,.string x]:=by rw[HX.out];rfl
            have hsome:(verOf r.acks pa pc).isSome=true:=by rw[hvo];rfl
            rcases HG3.out.1 pa pc hpa hpc with ⟨h1,-⟩ | ⟨-,v,hfv,hown⟩
            ·rw[hvo] at h1;cases h1
            have HFV:=zh hfv
            have hlt3:=fun b e=>World.ownsRow.lt hown b e
            have hsl:=stripeP_length fs pa pc;have hlen:=HLEN.out;obtain⟨A4,c4,rfl⟩:=own_form hown;have HM4:=zh (HM3.out.kept (World.grownBy_alloc _ (.cells #[.int .i64 (d:Int),.int .i64 pa,.int .i64 pb,.int .i64 pc,.int .i64 pg,.int .i64 pr,.string x] 152) none) (by simp));have HG4:=zh (HG3.out.kept (World.grownBy_alloc _ (.cells #[.int .i64 (d:Int),.int .i64 pa,.int .i64 pb,.int .i64 pc,.int .i64 pg,.int .i64 pr,.string x] 152) none) (by intro b e;cases e));have HSM:=zh hsome;have HLT3:=zh hlt3;have HFD:=zh hfd
            have hmx:m<maxLen:=by have:=HMM.out;have:=HM16.out;omega
            clear hgn hvo hu hE0 hsome hlt3 hfd;have HMX:=zh hmx;have HOW:=zh (World.ownsRow.alloc hown (.cells #[.int .i64 (d:Int),.int .i64 pa,.int .i64 pb,.int .i64 pc,.int .i64 pg,.int .i64 pr,.string x] 152))
            have hv7:∀b,(Value.slice A4 (stripeP fs pa pc).length c4).ownBlock=some b→Bo≠b:=fun b e=>by have:=(HLT3.out b e).1;omega
            have HV7:=zh hv7
            have hsl2:(stripeP fs pa pc).length+1≤16777216:=by omega
            have HNE:=zh (show(Value.slice A4 (stripeP fs pa pc).length c4).ownBlock=none∨(Value.slice A4 (stripeP fs pa pc).length c4).ownBlock≠some Bo from .inr (fun e=>hv7 Bo e rfl));clear hmx hv7 hsl hlen hown
            go_wp2_with (first
             | (at_lookup;refine kv_look_ok rfl _ _ _ 147 3 rfl key_two Tryz.underlying206 Bv n (verF r.acks) pa pc (.int .i64 0) (by rfl) (by rfl) HV2.out (zero_int19 _) hpa hpc _ HU.out ?_)
             | (at_builtin;refine app_found ⟨d,⟨pa,pb,pc,pg,pr,px⟩⟩ (.tmp 98) (.tmp 102) rfl rfl (Bo+1) _ (stripeP fs pa pc) (by rfl) (World.ownsRow.kept HOW.out hg6 HNE.out) _ (by rfl) _ _ _ _ _ _ _ HFD.out (by exact(hg6.block _ (by simp) (by intro e;injection e with e;omega)).trans (heap_alloc_at _ _ _ (by simp))) hsl2 (by have h:=hg6.size;simp at h;omega) ?_;intro v7 w7 hown7 hg7 hat7)
             | (refine kv_entry rfl (.tmp 96) (.tmp 97) _ 147 143 rfl key_two Tryz.underlying144 Bo m f pa pc (.slice none 0 0) (by rfl) (by rfl) HM4.out zero_fds HMX.out hpa hpc _ HFV.out ?_;intro st w6 hg6 hpend)
             | (refine kv_entry_store rfl (.tmp 96) (.tmp 105) (.tmp 104) _ 147 rfl Bo m f pa pc _ _ w6 (by rfl) (by rfl) (by rfl) hpend (hg7.block Bo (by have h:=hg6.size;simp at h;omega) (fun e=>HV7.out Bo e.symm rfl)) ?_;intro w8 hM8 hg8))
            have hV6:=(HV2.out.kept (World.grownBy_alloc _ (.cells #[.int .i64 (d:Int),.int .i64 pa,.int .i64 pb,.int .i64 pc,.int .i64 pg,.int .i64 pr,.string x] 152) none) (by simp)).kept hg6 (by intro e;injection e with e;omega);have hV7:=hV6.kept hg7 (fun e=>by have:=(HLT3.out Bv e.symm).1;omega);have hV8:=hV7.kept hg8 (by intro e;injection e with e;omega);have hG8:=(Groups.push (fd:=⟨d,⟨pa,pb,pc,pg,pr,px⟩⟩) (HG4.out.kept hg6 (by intro b e;injection e with e;omega)) HFV.out hpa hpc hown7 hg7 hat7 HSM.out).kept hg8 (by intro b e;injection e with e;omega);have hs6:=hg6.size;have hs7:=hg7.size;have hs8:=hg8.size;simp at hs6;have hbx6:=(HBX3.out.alloc (by simp;omega) (.cells #[.int .i64 (d:Int),.int .i64 pa,.int .i64 pb,.int .i64 pc,.int .i64 pg,.int .i64 pr,.string x] 152)).grown hg6 (by simp;omega) (fun b e=>by injection e with e;omega);have hbx7:=hbx6.grown hg7 (by omega) (fun b e=>by have:=(HLT3.out b e).1;omega);have hbx8:=hbx7.grown hg8 (by omega) (fun b e=>by injection e with e;omega);go_roundg (l.length - (k+1))
            case measure=>omega
            case rel=>exact⟨k+1,by omega,rfl,by go_num,⟨m+1,_,by have:=HMM.out;omega,hM8,by rw[HGN.out,←List.append_assoc,←HFS.out];exact hG8⟩,hV8,hbx8,by omega⟩
           ·have q1:(u==pr)=false:=by simpa using hu
            have hgn:goodP r.acks s=none:=by rw[HGP.out,hvo];exact if_neg (fun h=>hu (by injection h.2))
            have HGN:=zh (HNO.out hgn);clear hgn hvo hu hE0;go_wp2_with (at_lookup;refine kv_look_ok rfl _ _ _ 147 3 rfl key_two Tryz.underlying206 Bv n (verF r.acks) pa pc (.int .i64 0) (by rfl) (by rfl) HV2.out (zero_int19 _) hpa hpc _ HU.out ?_);go_roundg (l.length - (k+1))
            case measure=>omega
            case rel=>exact⟨k+1,by omega,rfl,by go_num,⟨m,f,by have:=HMM.out;omega,HM3.out,by rw[HGN.out,←HFS.out];exact HG3.out⟩,HV2.out,HBX3.out,by simp;omega⟩
          ·have hE1:(E==0)=false:=by simpa using hE0
           have hgn:goodP r.acks s=none:=by rw[HGP.out];exact if_neg (fun h=>hE0 h.1)
           have HGN:=zh (HNO.out hgn);clear hgn hvo hE0;go_wp2_with (at_lookup;refine kv_look_ok rfl _ _ _ 147 3 rfl key_two Tryz.underlying206 Bv n (verF r.acks) pa pc (.int .i64 0) (by rfl) (by rfl) HV2.out (zero_int19 _) hpa hpc _ HU.out ?_);go_roundg (l.length - (k+1))
           case measure=>omega
           case rel=>exact⟨k+1,by omega,rfl,by go_num,⟨m,f,by have:=HMM.out;omega,HM3.out,by rw[HGN.out,←HFS.out];exact HG3.out⟩,HV2.out,HBX3.out,by simp;omega⟩
        ·have hjl:k=l.length:=by omega
         obtain⟨m,f,hm,hM,hG⟩:=HG.out;rw[hjl,List.take_of_length_le (Nat.le_refl _),←HGL.out,←piecesTo_succ] at hG;have HG2:=zh hG;have HM2:=zh hM
         have hm2:m≤N+(d+1) * 1000:=by rw[Nat.add_mul];omega
         clear HG hG hM hm;go_wp2_with fail;go_roundg (D - (d+1))
         case measure=>omega
         case rel=>exact⟨d+1,by omega,rfl,by go_num,⟨m,f,hm2,HM2.out,HG2.out⟩,HV.out,hbx,hBos⟩
      ·have hdD:d=r.plat.length:=by rw[←HD.out];omega
       obtain⟨m,f,hm,hM,hG⟩:=HG.out;rw[hdD] at hG;have HG2:=zh hG;have HM2:=zh hM;have hbz:=HB0.out.trans (hbx.mono hBw);have HBZ:=zh hbz;clear HG hG hM hm hbz;go_wp2_with fail;go_ret;exact⟨_,_,_,rfl,by omega,HM2.out,HG2.out,HBZ.out⟩
    ·-- L4{
     intro x y v kl w4 cnt4 hkey hx hy hlk hhas hrg4 hlt4 hg4 hs4 hen;obtain⟨m,hm1,hm2⟩:=hm.out;have hm3:=hm2.kept hg4 (by intro e;injection e with e;omega);have hb4:Below Bv W0 w4:=hbx.grown hg4 (by omega) (fun b e=>by injection e with e;omega);have HM3:=zh hm3;have HRG4:=zh hrg4;have HB4:=zh hb4;have HST:=zh (fun a b ha hb=>gotten_step key_two (left:=left) (z:=.slice none 0 0) hkey hhas (a:=a) (b:=b) ha hb);clear hm2 hrg4 hb4 hm3 hlk hhas hm hrg;go_wp2_with (at_mapUpdate;refine kv_store rfl _ _ _ _ 147 143 rfl key_two Tryz.underlying144 Bo m _ x y _ (by rfl) (by rfl) (by rfl) (HM3.out.kept (World.grownBy_alloc _ _ none) (by simp)) (by unfold maxLen;omega) hx hy ?_;intro w5 hM5 hg5);go_roundg cnt4
     case measure=>omega
     case rel=>exact⟨_,(HRG4.out.alloc _).kept hg5 (by intro e;injection e with e;omega) (by intro e;injection e with e;omega),⟨m+1,by omega,MapKV.congr key_two hM5 (fun a b ha hb=>HST.out a b ha hb)⟩,((HB4.out.alloc (by omega) _).grown hg5 (by simp;omega) (fun b e=>by injection e with e;omega)),by have:=hg5.size;simp at this;omega⟩
end Go.Proofs.YtcfkllnpkmebpaaGreatDoor
