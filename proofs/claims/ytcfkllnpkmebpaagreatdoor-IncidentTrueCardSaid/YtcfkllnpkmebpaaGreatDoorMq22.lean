/- Lists of causes and of incidents: their words. -/
import Derived.Test.YtcfkllnpkmebpaaGreatDoorMq21
import Derived.Test.YtcfkllnpkmebpaaGreatDoorMq01
import Derived.Test.YtcfkllnpkmebpaaGreatDoorMq07
import Derived.Deep.LoopGhost
import Derived.Test.YtcfkllnpkmebpaaGreatDoorRows
import Derived.Laws.AppendOwnNone
import Derived.Test.YtcfkllnpkmebpaaGreatDoorMq06
import Derived.Deep.AppendLies
import Derived.Test.YtcfkllnpkmebpaaGreatDoorMq12
import Derived.Shelf.SlSortCmp.SmallK
import Derived.Shelf.SlSortCmp.NoneTotal
import Derived.Shelf.Small.Bits
import Derived.Test.YtcfkllnpkmebpaaGreatDoorMq19
set_option linter.unusedSectionVars false
set_option maxRecDepth 100000
set_option maxHeartbeats 12800000
namespace Go.Proofs.YtcfkllnpkmebpaaGreatDoor
open Go.RowKit
set_option linter.unusedVariables false
set_option linter.unusedSimpArgs false
theorem info_cau:(Tryz.prog.info? 102).map (fun i=>(i.zero,i.size,i.bytes))=some (some (.agg #[.int .i64 0,.int .i64 0]),2,16):=by kernel_rfl
theorem info_inc:(Tryz.prog.info? 27).map (fun i=>(i.zero,i.size,i.bytes))=some (some (.agg #[.int .i64 0,.int .i64 0,.bool false,.int .i64 0,.slice none 0 0]),5,56):=by kernel_rfl
def CauK(w:World) (R:Nat→Prop) (cs:List Value) (c:Cau):Prop:=cs=cauC c
theorem cauK:Steady CauK:=⟨fun _ h=>h,fun _ h=>h⟩
def OwnCau(w:World) (base:Nat) (v:Value) (l:List Cau):Prop:=w.ownsRow base 102 2 v l.length (l.flatMap cauC)
theorem OwnCau.nil(w:World) (base:Nat):OwnCau w base (.slice none 0 0) []:=World.ownsRow_nil _ _ _ _
theorem OwnCau.below{w w2:World} {base:Nat} {v:Value} {l:List Cau} (h:OwnCau w base v l) (hb:Below w.heap.size w w2):OwnCau w2 base v l:=own_below h hb
theorem OwnCau.form{w:World} {base:Nat} {v:Value} {l:List Cau} (h:OwnCau w base v l):∃A c,v=.slice A l.length c:=own_form h
theorem OwnCau.lt{w:World} {base:Nat} {v:Value} {l:List Cau} (h:OwnCau w base v l):∀b,v.ownBlock=some b→base≤b∧b<w.heap.size:=World.ownsRow.lt h
theorem app_cau{ops:Array Oper} {rest:List Oper} {o:Oper} {a:Act} {Q:Exit→Act→World→Prop} {w:World} (c:Cau) (s x:Operand) (hgd:o.guard=none) (ho:o.op=.call { callee:=.builtin .append,args:=#[s,x],argTypes:=#[25,25] })
  (base:Nat) (v:Value) (n:Nat) (l:List Cau) (hlen:l.length=n) (hs:a.eval s=v) (hown:w.ownsRow base 102 2 v n (l.flatMap cauC))
  (hx:a.eval x=.slice (some ⟨w.heap.size,0,none⟩) 1 1) (hn:n+1≤16777216) (hbase:base≤w.heap.size)
  (h:∀v' w',OwnCau w' base v' (l++[c])→w.grownBy w' v.ownBlock→(v'.ownBlock=v.ownBlock∨v'.ownBlock=some (w.heap.size+1))→wpList Tryz.prog ops Q rest (a.put o.dst v') w') :
  wpList Tryz.prog ops Q (o :: rest) a (w.alloc (.cells #[.int .i64 c.state,.int .i64 c.drive] 102)):=by
 obtain⟨i0,hi0,hz0,hz1,hz2⟩:=info_parts info_cau;refine wpList_append1 hgd s x _ ho base i0 _ 2 16 Tryz.underlying25 hi0 hz0 hz1 hz2 rfl (by omega) (by omega) v n (l.flatMap cauC) hs hown hx rfl (fun u hu=>?_) hn hbase (fun v' w' h1 h2 h3=>h v' w' ?_ h2 h3)
 ·simp at hu;rcases hu with rfl | rfl <;> rfl
 ·unfold OwnCau;rw[List.length_append,List.length_singleton,hlen,List.flatMap_append]
  simpa[cauC] using h1
theorem flat_cau:∀(l:List Cau) (k:Nat) (x:Cau),l[k]?=some x→∀i c,(cauC x)[i]?=some c→(l.flatMap cauC)[k * 2+i]?=some c
 | [],k,f,h=>by simp at h
 | x :: r,0,f,h=>by
  simp at h;subst h;intro i c hc;have hi:i<(cauC x).length:=(List.getElem?_eq_some_iff.1 hc).1;rw[List.flatMap_cons,Nat.zero_mul,Nat.zero_add,List.getElem?_append_left hi];exact hc
 | x :: r,k+1,f,h=>by
  intro i c hc;have hl:(cauC x).length=2:=rfl;rw[List.flatMap_cons,List.getElem?_append_right (by rw[hl];omega),hl];have:=flat_cau r k f (by simpa using h) i c hc;rw[←this]
  congr 1
  omega
theorem OwnCau.slS{w:World} {base:Nat} {v:Value} {l:List Cau} (h:OwnCau w base v l):SlS 2 CauK w (Fr base w.heap.size) v l:=by
 have h1:w.ownsRow base 102 2 v l.length (l.flatMap cauC):=h
 have hc:=fun g=>h1.cells (g:=g)
 have hlt:=h1.lt;rcases h1.2 with ⟨rfl,h0⟩ | ⟨g,cap,cur,rfl,_,_,h2,h3,_⟩
 ·unfold SlS;rw[h0];exact Row.nil _ _ _
 ·refine⟨_,cap,rfl,h2,Nat.le_trans h2 h3,fun _=>⟨g,0,rfl,hlt g rfl,fun k f hf=>⟨cauC f,rfl,fun i c hi=>?_,rfl⟩⟩⟩
  have e1:∀j,(⟨g,0,none⟩:Addr).add j=⟨g,0+j,none⟩:=fun j=>by unfold Addr.add;split <;> simp_all
  rw[Nat.add_assoc,←e1];exact hc g rfl _ _ (flat_cau l k f hf i c hi)
theorem two_cau{cs:List Value} {x:Cau} {w:World} {p o:Nat} (h:∀i c,cs[i]?=some c→w.cell? ⟨p,o+i,none⟩=some c) (e:cs=cauC x) :
  w.cell? ⟨p,o,none⟩=some (.int .i64 x.state)∧w.cell? ⟨p,o+1,none⟩=some (.int .i64 x.drive):=by
 subst e;exact⟨h 0 _ rfl,h 1 _ rfl⟩
theorem one_sls{α:Type} {size:Nat} {K:World→(Nat→Prop)→List Value→α→Prop} {w:World} {R:Nat→Prop} {v:Value} {es:List α} (h:SlS size K w R v es):v.oneCell'=true:=by
 obtain⟨A,c,rfl,-,-⟩:=h.form
 rfl
structure IncW where
 x:Inc
 cv:Value
instance:Inhabited IncW:=⟨⟨⟨0,0,false,0,[]⟩,.slice none 0 0⟩⟩
def incC(s:IncW):List Value:=[.int .i64 s.x.vol,.int .i64 s.x.stripe,.bool s.x.lost,.int .i64 s.x.need,s.cv]
def IncR(w:World) (B:Nat) (v:Value) (b:Nat):Prop:=B≤b∧b<w.heap.size∧v.ownBlock≠some b
structure IncsS (w:World) (B:Nat) (v:Value) (L:List IncW):Prop where
 row:w.ownsRow B 27 5 v L.length (L.flatMap incC)
 each:∀s∈L,SlS 2 CauK w (IncR w B v) s.cv s.x.causes
theorem IncsS.nil(w:World) (B:Nat):IncsS w B (.slice none 0 0) []:=⟨World.ownsRow_nil _ _ _ _,fun s h=>by cases h⟩
theorem IncsS.below{w w':World} {B:Nat} {v:Value} {L:List IncW} (h:IncsS w B v L) (hb:Below w.heap.size w w'):IncsS w' B v L :=
 ⟨own_below h.row hb,fun s hs=>SlS.mono cauK (SlS.keep cauK (h.each s hs) (fun b hx=>hb.block b hx.2.1)) (fun b hx=>⟨hx.1,Nat.lt_of_lt_of_le hx.2.1 hb.size,hx.2.2⟩)⟩
theorem IncsS.push{w w':World} {B:Nat} {v v':Value} {L:List IncW} {s:IncW} (h:IncsS w B v L) (hs:SlS 2 CauK w (IncR w B v) s.cv s.x.causes)
  (ho:w'.ownsRow B 27 5 v' (L.length+1) (L.flatMap incC++incC s)) (hg:w.grownBy w' v.ownBlock) (hat:v'.ownBlock=v.ownBlock∨∃g,v'.ownBlock=some g∧w.heap.size≤g):IncsS w' B v' (L++[s]):=by
 have hk:∀{u:IncW},SlS 2 CauK w (IncR w B v) u.cv u.x.causes→SlS 2 CauK w' (IncR w' B v') u.cv u.x.causes:=fun hu =>
  SlS.mono cauK (SlS.keep cauK hu (fun b hx=>hg.block b hx.2.1 (fun e=>hx.2.2 e.symm))) (fun b hx=>⟨hx.1,Nat.lt_of_lt_of_le hx.2.1 hg.size,fun e=>by
   rcases hat with h2 | ⟨g,h2,h3⟩
   ·rw[h2] at e;exact hx.2.2 e
   ·rw[h2] at e;injection e with e;have:=hx.2.1;omega⟩)
 refine⟨by rw[List.length_append,List.flatMap_append];simpa using ho,fun u hu=>?_⟩;rcases List.mem_append.1 hu with h2 | h2
 ·exact hk (h.each u h2)
 ·rw[List.mem_singleton.1 h2];exact hk hs
theorem app_inc{ops:Array Oper} {rest:List Oper} {o:Oper} {a:Act} {Q:Exit→Act→World→Prop} {w:World} (u:Inc) (cv:Value) (s x:Operand) (hgd:o.guard=none) (ho:o.op=.call { callee:=.builtin .append,args:=#[s,x],argTypes:=#[23,23] })
  (base:Nat) (v:Value) (L:List IncW) (hs:a.eval s=v) (hown:IncsS w base v L) (hnew:SlS 2 CauK w (IncR w base v) cv u.causes)
  (hx:a.eval x=.slice (some ⟨w.heap.size,0,none⟩) 1 1) (hn:L.length+1≤16777216) (hbase:base≤w.heap.size)
  (h:∀v' w',IncsS w' base v' (L++[⟨u,cv⟩])→w.grownBy w' v.ownBlock→wpList Tryz.prog ops Q rest (a.put o.dst v') w') :
  wpList Tryz.prog ops Q (o :: rest) a (w.alloc (.cells #[.int .i64 u.vol,.int .i64 u.stripe,.bool u.lost,.int .i64 u.need,cv] 27)):=by
 obtain⟨i0,hi0,hz0,hz1,hz2⟩:=info_parts info_inc;have h1c:=one_sls hnew;refine wpList_append1 hgd s x _ ho base i0 _ 5 56 Tryz.underlying23 hi0 hz0 hz1 hz2 rfl (by omega) (by omega) v L.length (L.flatMap incC) hs hown.row hx rfl (fun y hy=>?_) hn hbase (fun v' w' h1 h2 h3=>h v' w' (hown.push (s:=⟨u,cv⟩) hnew h1 h2 ?_) h2)
 ·simp at hy;rcases hy with rfl | rfl | rfl | rfl | rfl
  ·rfl
  ·rfl
  ·rfl
  ·rfl
  ·exact h1c
 ·rcases h3 with h3 | h3
  ·exact .inl h3
  ·exact .inr ⟨_,h3,by omega⟩
theorem flat_inc:∀(l:List IncW) (k:Nat) (x:IncW),l[k]?=some x→∀i c,(incC x)[i]?=some c→(l.flatMap incC)[k * 5+i]?=some c
 | [],k,f,h=>by simp at h
 | x :: r,0,f,h=>by
  simp at h;subst h;intro i c hc;have hi:i<(incC x).length:=(List.getElem?_eq_some_iff.1 hc).1;rw[List.flatMap_cons,Nat.zero_mul,Nat.zero_add,List.getElem?_append_left hi];exact hc
 | x :: r,k+1,f,h=>by
  intro i c hc;have hl:(incC x).length=5:=rfl;rw[List.flatMap_cons,List.getElem?_append_right (by rw[hl];omega),hl];have:=flat_inc r k f (by simpa using h) i c hc;rw[←this]
  congr 1
  omega
def IncK(w:World) (R:Nat→Prop) (cs:List Value) (x:Inc):Prop:=∃cv,cs=[.int .i64 x.vol,.int .i64 x.stripe,.bool x.lost,.int .i64 x.need,cv]∧SlS 2 CauK w R cv x.causes
theorem incK:Steady IncK:=⟨fun hk ⟨v,e,h⟩=>⟨v,e,SlS.keep cauK h hk⟩,fun hr ⟨v,e,h⟩=>⟨v,e,SlS.mono cauK h hr⟩⟩
end Go.Proofs.YtcfkllnpkmebpaaGreatDoor

namespace Go.Proofs.YtcfkllnpkmebpaaGreatDoor
open Go.RowKit
set_option linter.unusedVariables false
set_option linter.unusedSimpArgs false
theorem five_inc{cs:List Value} {x:Inc} {w:World} {R:Nat→Prop} {p o:Nat} (h:∀i c,cs[i]?=some c→w.cell? ⟨p,o+i,none⟩=some c) (e:IncK w R cs x) :
  ∃A c,w.cell? ⟨p,o,none⟩=some (.int .i64 x.vol)∧w.cell? ⟨p,o+1,none⟩=some (.int .i64 x.stripe)∧w.cell? ⟨p,o+2,none⟩=some (.bool x.lost)∧w.cell? ⟨p,o+3,none⟩=some (.int .i64 x.need)∧w.cell? ⟨p,o+4,none⟩=some (.slice A x.causes.length c)∧SlS 2 CauK w R (.slice A x.causes.length c) x.causes∧x.causes.length≤maxLen:=by
 obtain⟨cv,rfl,hs⟩:=e;obtain⟨A,c,rfl,-,hm⟩:=hs.form;exact⟨A,c,h 0 _ rfl,h 1 _ rfl,h 2 _ rfl,h 3 _ rfl,h 4 _ rfl,hs,hm⟩
end Go.Proofs.YtcfkllnpkmebpaaGreatDoor

namespace Go.Proofs.YtcfkllnpkmebpaaGreatDoor
open Go.RowKit
open Go.ChangeMaps Go.MapKept Go.WideShapes
open Go.WideElems (Fit rd rg pl rd_key rd_val rg_of)
open Go.Maps (Keyed)
set_option linter.unusedVariables false
set_option linter.unusedSimpArgs false
structure KeyT {κ:Type} (kt:TypeId) (kval:κ→Value) (ok:κ→Prop):Prop where
 law:Keyed Tryz.prog kt
 lit:∀k,ok k→∃l,keyOf Tryz.prog kt (kval k)=some l
 inv:∀v l,keyOf Tryz.prog kt v=some l→∃k,v=kval k∧ok k
 inj:∀k k',kval k=kval k'→k=k'
section
variable {κ : Type} {kval : κ → Value} {ok : κ → Prop}
def MapG(w:World) (kt:TypeId) (kval:κ→Value) (b n:Nat) (f:κ→Option Value):Prop :=
 ∃D,w.ownsMap Tryz.prog kt rawR b n D∧∀k l,keyOf Tryz.prog kt (kval k)=some l→Maps.has D l=(f k).isSome∧∀z,D.atKey l (.held z)=.held ((f k).getD z)
def updG [DecidableEq κ] (f:κ→Option Value) (k:κ) (v:Value):κ→Option Value:=fun c=>if c=k then some v else f c
theorem updG_same [DecidableEq κ] (f:κ→Option Value) (k:κ) (v:Value):updG f k v k=some v:=if_pos rfl
theorem updG_other [DecidableEq κ] {f:κ→Option Value} {k c:κ} {v:Value} (h:c≠k):updG f k v c=f c:=if_neg h
theorem MapG.made(w:World) (kt:TypeId):MapG (w.alloc (.map #[] 0)) kt kval w.heap.size 0 (fun _=>none) :=
 ⟨_,World.ownsMap_made w Tryz.prog kt rawR,fun k l _=>⟨rfl,fun z=>rfl⟩⟩
variable {w w' : World} {kt t e : TypeId} {b n : Nat} {f : κ → Option Value} {x : κ} {z : Value}
theorem MapG.lt(h:MapG w kt kval b n f):b<w.heap.size:=by
 obtain⟨D,h1,-⟩:=h;exact h1.lt
theorem MapG.same(h:MapG w kt kval b n f) (e:w'.heap[b]?=w.heap[b]?):MapG w' kt kval b n f:=by
 obtain⟨D,⟨es,clock,hb,r⟩,h2⟩:=h;exact⟨D,⟨es,clock,e.trans hb,r⟩,h2⟩
theorem MapG.below{B:Nat} (h:MapG w kt kval b n f) (hb:Below B w w') (hB:b<B):MapG w' kt kval b n f:=h.same (hb.block b hB)
theorem MapG.look_ok(T:KeyT kt kval ok) (h:MapG w kt kval b n f) (ht:Tryz.prog.underlying t=some (.map kt e)) (hz:(zeroValue e).run Tryz.prog w=.ok z w) (hx:ok x) :
  (Instr.lookup t (.map (some b)) (kval x) true).run Tryz.prog w=.ok (.tuple #[(f x).getD z,.bool (f x).isSome]) w:=by
 obtain⟨D,h1,h2⟩:=h;obtain⟨l,hl⟩:=T.lit x hx;obtain⟨v,ps,hrun,hv⟩:=h1.look_ok T.law ht hz (zd:=.held z) (zp:=[]) rfl hl;rw[(h2 x l hl).2 z] at hv;rw[hrun,(h2 x l hl).1,held_inj (rawR_inj hv)]
theorem put_updG [DecidableEq κ] {D:DataW Value} {l:Lit} {v:Value} (T:KeyT kt kval ok) (hD:Maps.IsMap D) (h2:∀k l,keyOf Tryz.prog kt (kval k)=some l→Maps.has D l=(f k).isSome∧∀z,D.atKey l (.held z)=.held ((f k).getD z)) (hl:keyOf Tryz.prog kt (kval x)=some l) :
  ∀c l',keyOf Tryz.prog kt (kval c)=some l'→Maps.has (D.put l (.held v)) l'=(updG f x v c).isSome∧∀z,(D.put l (.held v)).atKey l' (.held z)=.held ((updG f x v c).getD z):=by
 intro c l' hl';by_cases hk:c=x
 ·subst hk;rw[hl'] at hl;injection hl with hl;subst hl;rw[updG_same];exact⟨Maps.has_put_same hD (T.law.key hl') _,fun z=>Maps.atKey_put_same hD (T.law.key hl') _ _⟩
 ·rw[updG_other hk]
  have hne:l'≠l:=fun e=>hk (T.inj _ _ (T.law.inj hl' (e▸hl)))
  exact⟨by rw[Maps.has_put_other hne];exact(h2 c l' hl').1,fun z=>by rw[Maps.atKey_put_other hne];exact(h2 c l' hl').2 z⟩
theorem MapG.store [DecidableEq κ] (T:KeyT kt kval ok) (h:MapG w kt kval b n f) (ht:Tryz.prog.underlying t=some (.map kt e)) (hn:n<maxLen) (hx:ok x) (v:Value) :
  ∃w',(Instr.mapUpdate t (.map (some b)) (kval x) v).run Tryz.prog w=.ok () w'∧MapG w' kt kval b (n+1) (updG f x v)∧w.grownBy w' (some b):=by
 obtain⟨D,h1,h2⟩:=h;obtain⟨l,hl⟩:=T.lit x hx;obtain⟨w',hrun,r1,r2⟩:=h1.update T.law ht hn hl (d:=.held v) (ps:=[]) rfl;exact⟨w',hrun,⟨_,r1,put_updG T h1.isMap h2 hl⟩,r2⟩
end
section
variable {κ : Type} {kval : κ → Value} {ok : κ → Prop}
variable {w : World} {ops : Array Oper} {rest : List Oper} {o : Oper} {a : Act} {Q : Exit → Act → World → Prop}
theorem kg_look_ok(hg:o.guard=none) (m xo:Operand) (t kt e:TypeId) (hop:o.op=Op.lookup t m xo true) (T:KeyT kt kval ok) (ht:Tryz.prog.underlying t=some (.map kt e)) (b n:Nat) (f:κ→Option Value) (x:κ) (z:Value)
  (hm:a.eval m=.map (some b)) (hxo:a.eval xo=kval x) (h:MapG w kt kval b n f) (hz:(zeroValue e).run Tryz.prog w=.ok z w) (hx:ok x) (u:Option Value) (hu:f x=u)
  (hK:wpList Tryz.prog ops Q rest (a.put o.dst (.tuple #[u.getD z,.bool u.isSome])) w):wpList Tryz.prog ops Q (o :: rest) a w:=by
 refine wpList_plain hg fun K' hK'=>?_
 have hrun:=h.look_ok T ht hz hx;rw[hu] at hrun;unfold Oper.wp;simp[execOp,hop,hm,hxo,hrun,Result.andThen];exact hK' _ _ hK
theorem kg_store [DecidableEq κ] (hg:o.guard=none) (m xo vo:Operand) (t kt e:TypeId) (hop:o.op=Op.mapUpdate t m xo vo) (T:KeyT kt kval ok) (ht:Tryz.prog.underlying t=some (.map kt e)) (b n:Nat) (f:κ→Option Value) (x:κ) (v:Value)
  (hm:a.eval m=.map (some b)) (hxo:a.eval xo=kval x) (hvo:a.eval vo=v) (h:MapG w kt kval b n f) (hn:n<maxLen) (hx:ok x)
  (hK:∀w',MapG w' kt kval b (n+1) (updG f x v)→w.grownBy w' (some b)→wpList Tryz.prog ops Q rest (a.put o.dst undef) w'):wpList Tryz.prog ops Q (o :: rest) a w:=by
 refine wpList_plain hg fun K' hK'=>?_
 obtain⟨w',hrun,r1,r2⟩:=h.store T ht hn hx v;unfold Oper.wp;simp[execOp,hop,hm,hxo,hvo,hrun,Result.andThen];exact hK' _ _ (hK w' r1 r2)
end
end Go.Proofs.YtcfkllnpkmebpaaGreatDoor

namespace Go.Proofs.YtcfkllnpkmebpaaGreatDoor
open Go.RowKit
open Go.ChangeMaps Go.MapKept Go.WideShapes
open Go.WideElems (Fit rd rg pl rd_key rd_val rg_of)
open Go.Maps (Keyed)
set_option linter.unusedVariables false
set_option linter.unusedSimpArgs false
structure Ky3 where
 v:Int
 f:Int
 s:Int
deriving DecidableEq
def k3(x:Ky3):Value:=.agg #[.int .i64 x.v,.int .i64 x.f,.int .i64 x.s]
def Ky3.ok(x:Ky3):Prop:=I64 x.v∧I64 x.f∧I64 x.s
theorem key3_row:(210:TypeId)<Tryz.prog.types.size:=of_decide_eq_true (by kernel_rfl)
theorem key3_wide:(match Tryz.prog.underlying 210 with | some (.array _ _) | some (.struct _)=>true | _=>false)=true:=by rw[Tryz.underlying210]
theorem key3_law:WideMaps.KeyLaw Tryz.prog 210:=deep_law_laid laidOut17 (m:=2) (by omega) key3_row (by kernel_rfl) key3_wide
theorem key3_type:Tryz.prog.keyType 210=true:=by kernel_rfl
theorem key3_cells:Tryz.prog.cellsOf 210=3:=by kernel_rfl
theorem key3_lits(n:Nat) (a b c:Int) (ha:I64 a) (hb:I64 b) (hc:I64 c):Tryz.prog.keyLits (n+2) 210 [.int .i64 a,.int .i64 b,.int .i64 c]=some [.int .i64 a,.int .i64 b,.int .i64 c]:=by
 have h1:=(i64_wf a).2 ha;have h2:=(i64_wf b).2 hb;have h3:=(i64_wf c).2 hc;simp[Program.keyLits,Tryz.underlying210,Tryz.underlying3,key3_cells,int_cells,h1,h2,h3]
theorem key3_lits_inv(n:Nat) (cs:List Value) (l:List Lit) (h:Tryz.prog.keyLits (n+2) 210 cs=some l):∃a b c,cs=[.int .i64 a,.int .i64 b,.int .i64 c]∧I64 a∧I64 b∧I64 c:=by
 simp[Program.keyLits,Tryz.underlying210,Tryz.underlying3,key3_cells,int_cells] at h;obtain⟨hl,h⟩:=h
 match cs,hl with
 | [x,y,z],hxl =>
  simp at h;clear hxl
  cases x
  case int q a =>
   by_cases hq:q=.i64∧(Lit.int .i64 a).wf=true
   ·obtain⟨rfl,hwa⟩:=hq
    cases y
    case int q2 b =>
     by_cases hq2:q2=.i64∧(Lit.int .i64 b).wf=true
     ·obtain⟨rfl,hwb⟩:=hq2
      cases z
      case int q3 c =>
       by_cases hq3:q3=.i64∧(Lit.int .i64 c).wf=true
       ·obtain⟨rfl,hwc⟩:=hq3;exact⟨a,b,c,rfl,(i64_wf a).1 hwa,(i64_wf b).1 hwb,(i64_wf c).1 hwc⟩
       ·exfalso
        by_cases hq4:q3=.i64
        ·subst hq4
         have:(Lit.int .i64 c).wf=false:=by rw[Bool.eq_false_iff];exact fun e=>hq3 ⟨rfl,e⟩
         simp[hwa,hwb,this] at h
        ·simp[hwa,hwb,hq4] at h
      all_goals (exfalso;simp[hwa,hwb] at h)
     ·exfalso
      by_cases hq3:q2=.i64
      ·subst hq3
       have:(Lit.int .i64 b).wf=false:=by rw[Bool.eq_false_iff];exact fun e=>hq2 ⟨rfl,e⟩
       simp[hwa,this] at h
      ·simp[hwa,hq3] at h
    all_goals (exfalso;simp[hwa] at h)
   ·exfalso
    by_cases hq3:q=.i64
    ·subst hq3
     have:(Lit.int .i64 a).wf=false:=by rw[Bool.eq_false_iff];exact fun e=>hq ⟨rfl,e⟩
     simp[this] at h
    ·simp[hq3] at h
  all_goals (exfalso;simp at h)
theorem key3:KeyT 210 k3 Ky3.ok where
 law:=Keyed.of_law key3_law
 lit x hx:=by
  obtain⟨n,hn⟩:=types_pos;have h1:=key3_lits n x.v x.f x.s hx.1 hx.2.1 hx.2.2;refine⟨.string (keyBytes [.int .i64 x.v,.int .i64 x.f,.int .i64 x.s]),?_⟩;unfold keyOf;rw[Tryz.underlying210,hn];simp[key3_type,Value.formed,Tryz.underlying210,key3_cells,k3,Value.cells,h1]
 inv v l h:=by
  obtain⟨n,hn⟩:=types_pos;unfold keyOf at h;rw[Tryz.underlying210,hn] at h;simp[key3_type] at h;obtain⟨hf,ls,hk,-⟩:=h;obtain⟨a,b,c,e,ha,hb,hc⟩:=key3_lits_inv n _ _ hk;refine⟨⟨a,b,c⟩,?_,ha,hb,hc⟩
  cases v <;> simp[Value.formed,Tryz.underlying210] at hf
  rename_i cs
  unfold k3;simp[Value.cells] at e
  congr 1
  exact Array.ext' (by simpa using e)
 inj x y h:=by
  unfold k3 at h;simp at h
  cases x;cases y
  obtain⟨h1,h2,h3⟩:=h;simp only at h1 h2 h3;subst h1;subst h2;subst h3
  rfl
end Go.Proofs.YtcfkllnpkmebpaaGreatDoor

namespace Go.Proofs.YtcfkllnpkmebpaaGreatDoor
open Go.RowKit
set_option linter.unusedVariables false
set_option linter.unusedSimpArgs false
end Go.Proofs.YtcfkllnpkmebpaaGreatDoor

namespace Go.Proofs.YtcfkllnpkmebpaaGreatDoor
open Go.RowKit
set_option linter.unusedVariables false
set_option linter.unusedSimpArgs false
end Go.Proofs.YtcfkllnpkmebpaaGreatDoor

namespace Go.Proofs.YtcfkllnpkmebpaaGreatDoor
open Go.RowKit
set_option linter.unusedVariables false
set_option linter.unusedSimpArgs false
theorem zero_int8(w:World):(zeroValue 3).run Tryz.prog w=.ok (.int .i64 0) w:=Tryz.zeroValue3 w
end Go.Proofs.YtcfkllnpkmebpaaGreatDoor

namespace Go.Proofs.YtcfkllnpkmebpaaGreatDoor
open Go.RowKit
open Go.ChangeMaps Go.MapKept Go.WideShapes
set_option linter.unusedVariables false
set_option linter.unusedSimpArgs false
def oldM(r:Re) (d:Nat) (l:List ByteArray) (k:Ky3):Option Nat:=match (r.plat.take d).findIdx? (oldAt k.v k.f k.s) with | some i=>some i | none=>if oldAt k.v k.f k.s l=true then some d else none
def dV(i:Nat):Value:=.int .i64 (i:Int)
theorem oldM_zero(r:Re):oldM r 0 []=fun _=>none:=by funext k;simp[oldM,oldAt]
theorem oldM_next(r:Re) {d:Nat} {l:List ByteArray} (hd:d<r.plat.length) (hl:l=r.plat[d]):oldM r d l=oldM r (d+1) []:=by
 funext k
 unfold oldM;rw[List.take_succ_eq_append_getElem hd,List.findIdx?_append,←hl]
 have hlen:(r.plat.take d).length=d:=by rw[List.length_take];omega
 cases h:(r.plat.take d).findIdx? (oldAt k.v k.f k.s) with
 | some i=>rfl
 | none =>
  by_cases ho:oldAt k.v k.f k.s l=true
  ·simp[ho,hlen,List.findIdx?_cons]
  ·have ho':oldAt k.v k.f k.s l=false:=by simpa using ho
   have h2:oldAt k.v k.f k.s []=false:=rfl;simp[ho',h2,List.findIdx?_cons]
theorem oldM_all(r:Re) (k:Ky3):oldM r r.plat.length [] k=oldD r k.v k.f k.s:=by
 unfold oldM oldD;rw[List.take_length]
 cases r.plat.findIdx? (oldAt k.v k.f k.s) <;> simp[oldAt]
theorem oldAt_succ{v f s:Int} {l:List ByteArray} {j:Nat} (h:j<l.length):oldAt v f s (l.take (j+1))=(oldAt v f s (l.take j)||oldS v f s l[j]):=by
 rw[oldAt_eq,oldAt_eq,List.take_succ_eq_append_getElem h,List.any_append];simp
theorem oldS_bad{v f s:Int} {x:ByteArray} (h:decEr x.data.toList≠0):oldS v f s x=false:=by unfold oldS;rw[decide_eq_false h];rfl
theorem oldS_ok{v f s:Int} {x:ByteArray} (h:decEr x.data.toList=0):oldS v f s x=decide ((⟨v,f,s⟩:Ky3)=⟨(decPc x.data.toList).vol,(decPc x.data.toList).frag,(decPc x.data.toList).stripe⟩):=by
 unfold oldS isB;rw[decide_eq_true h,decPc_ok h,Bool.true_and,Bool.eq_iff_iff,decide_eq_true_eq];simp only[Bool.and_eq_true,beq_iff_eq,Ky3.mk.injEq]
 constructor
 ·rintro ⟨⟨h1,h2⟩,h3⟩;exact⟨h1.symm,h2.symm,h3.symm⟩
 ·rintro ⟨h1,h2,h3⟩;exact⟨⟨h1.symm,h2.symm⟩,h3.symm⟩
theorem oldM_bad(r:Re) {d:Nat} {l:List ByteArray} {j:Nat} (h:j<l.length) (hb:decEr l[j].data.toList≠0):oldM r d (l.take (j+1))=oldM r d (l.take j):=by
 funext k
 unfold oldM;rw[oldAt_succ h,oldS_bad hb,Bool.or_false]
theorem oldM_known(r:Re) {d:Nat} {l:List ByteArray} {j:Nat} (h:j<l.length) (hb:decEr l[j].data.toList=0) {kx:Ky3} (hk:kx=⟨(decPc l[j].data.toList).vol,(decPc l[j].data.toList).frag,(decPc l[j].data.toList).stripe⟩) {i:Nat} (ho:oldM r d (l.take j) kx=some i):oldM r d (l.take (j+1))=oldM r d (l.take j):=by
 funext k
 unfold oldM;rw[oldAt_succ h,oldS_ok hb,←hk];by_cases e:k=kx
 ·subst e;unfold oldM at ho
  cases h1:(r.plat.take d).findIdx? (oldAt k.v k.f k.s) with
  | some i=>rfl
  | none =>
   rw[h1] at ho;simp only at ho;by_cases h2:oldAt k.v k.f k.s (l.take j)=true
   ·rw[h2,Bool.true_or]
   ·rw[if_neg h2] at ho;cases ho
 ·have e2:decide ((⟨k.v,k.f,k.s⟩:Ky3)=kx)=false:=decide_eq_false e;rw[e2,Bool.or_false]
theorem oldM_new(r:Re) {d:Nat} {l:List ByteArray} {j:Nat} (h:j<l.length) (hb:decEr l[j].data.toList=0) {kx:Ky3} (hk:kx=⟨(decPc l[j].data.toList).vol,(decPc l[j].data.toList).frag,(decPc l[j].data.toList).stripe⟩) (ho:oldM r d (l.take j) kx=none):(fun k=>(oldM r d (l.take (j+1)) k).map dV)=updG (fun k=>(oldM r d (l.take j) k).map dV) kx (dV d):=by
 funext k
 unfold updG;by_cases e:k=kx
 ·subst e;rw[if_pos rfl];unfold oldM at ho ⊢;rw[oldAt_succ h,oldS_ok hb,←hk]
  cases h1:(r.plat.take d).findIdx? (oldAt k.v k.f k.s) with
  | some i=>rw[h1] at ho;cases ho
  | none =>
   have e2:decide ((⟨k.v,k.f,k.s⟩:Ky3)=k)=true:=decide_eq_true rfl;rw[e2,Bool.or_true]
   rfl
 ·rw[if_neg e];unfold oldM;rw[oldAt_succ h,oldS_ok hb,←hk];have e2:decide ((⟨k.v,k.f,k.s⟩:Ky3)=kx)=false:=decide_eq_false e;rw[e2,Bool.or_false]
theorem old_any(vp vo va:Value) (r:Re) (w:World) (h:ReS w (Bl w.heap.size) vp vo va r) (hp:r.plat.length≤1000) (hl:∀l∈r.plat,l.length≤1000) :
  Calls Tryz.prog 77 #[.agg #[vp,vo,va]] w fun e w'=>∃gm n,e=.returned (.map (some gm))∧w.heap.size≤gm∧MapG w' 210 k3 gm n (fun k=>(oldD r k.v k.f k.s).map dV)∧Below w.heap.size w w':=by
 obtain⟨Ap,cp,rfl,-,-⟩:=h.1.form;have HR:=zh h;have HPL:=zh hl;obtain⟨W0,hW0⟩:=zx ((w.alloc (.cells #[.slice Ap r.plat.length cp,vo,va] 40)).alloc (.map #[] 0));obtain⟨q,hq⟩:=zx w.heap.size;obtain⟨gm,hgm⟩:=zx (w.heap.size+1)
 have hb0:Below w.heap.size w W0:=by rw[hW0];exact((Below.refl _ _).alloc (Nat.le_refl _) _).alloc (by simp) _
 have hqk:W0.heap[q]?=some (.cells #[.slice Ap r.plat.length cp,vo,va] 40 (0,0)):=by rw[hW0,hq];exact(Below.heap_alloc _ _ _ (by simp)).trans (heap_alloc_new w _)
 have c0:W0.cell? ⟨q,0,none⟩=some (.slice Ap r.plat.length cp):=by rw[cell_of_row W0 q 0 _ _ _ hqk];rfl
 have HM0:=zh (show MapG W0 210 k3 gm 0 (fun k=>(oldM r 0 [] k).map dV) by
  have h1:=MapG.made (kval:=k3) (w.alloc (.cells #[.slice Ap r.plat.length cp,vo,va] 40)) 210;rw[←hW0] at h1;rw[oldM_zero,hgm]
  simpa using h1)
 have HQ:=zh hq;have HGM:=zh hgm;have HGW:=zh (show w.heap.size≤gm by omega);have HW0:=zh hW0;have HB0:=zh hb0;obtain⟨D,hD⟩:=zx r.plat.length;rw[←hD] at HW0 c0 hp HR ⊢;have HD:=zh hD;clear h hl hW0 hq hgm hb0 hqk hD;have hmm:=@run_makeMap Tryz.prog;go_enter Tryz.func77,Tryz.ntmps77;go_upto_region 2 with fail;clear hmm;rw[←HW0.out,←HGM.out,←HQ.out];go_wp2_with fail;go_loopg [17] D (fun z v17 wr=>∃d n:Nat,d≤D∧z=D - d∧v17=.int .i64 (d:Int)∧n≤d * 1000∧Hid (MapG wr 210 k3 gm n (fun k=>(oldM r d [] k).map dV))∧Hid (Below w.heap.size w wr))
 case atStart=>exact⟨0,0,by omega,rfl,rfl,by omega,HM0,HB0⟩
 case round =>
  clear c0;obtain⟨d,n,hd,rfl,rfl,hn,HM,HBR⟩:=hrel;by_cases hlt:d<D
  ·have hdl:d<r.plat.length:=by rw[←HD.out];exact hlt
   obtain⟨l,hl⟩:=zx (r.plat[d])
   have hl1000:l.length≤1000:=by rw[hl];exact HPL.out _ (List.getElem_mem hdl)
   obtain⟨bp,op,csp,hAp,hRp,-,hcp,vd,hvd,hsl⟩:=HR.out.1.at_ hdl;rw[←hl] at hsl;have hcd:=hcp 0 vd (by rw[hvd];rfl);obtain⟨Ad,cd,rfl,-,-⟩:=hsl.form;have HSL:=zh hsl;have HNEXT:=zh (oldM_next r hdl hl);subst hAp;obtain⟨wo,rfl⟩:=zx (wr:World)
   have edo:wo.cell? ⟨bp,op+d,none⟩=some (.slice Ad l.length cd):=by
    have h1:=(HBR.out.cell (p:=⟨bp,op+d * 1+0,none⟩) hRp).trans hcd
    simpa using h1
   clear hl hcp hvd hsl hcd csp hRp hdl;go_wp2_with fail;go_loopg [24] l.length (fun z v24 wr=>∃j n2:Nat,j≤l.length∧z=l.length - j∧v24=.int .i64 (j:Int)∧n2≤d * 1000+j∧Hid (MapG wr 210 k3 gm n2 (fun k=>(oldM r d (l.take j) k).map dV))∧Hid (Below w.heap.size w wr))
   case atStart=>exact⟨0,n,by omega,rfl,rfl,by omega,HM,HBR⟩
   case round =>
    clear edo HM HBR;obtain⟨j,n2,hj,rfl,rfl,hn2,HM,HBR⟩:=hrel;by_cases hlt2:j<l.length
    ·obtain⟨bs,os,css,hAs,hRs,-,hcs,hse,hsm⟩:=HSL.out.at_ hlt2;have hes:=hcs 0 (.string l[j]) (by rw[hse];rfl);have HBAD:=zh (oldM_bad r (d:=d) hlt2);have HKNOWN:=zh (fun hb (kx:Ky3) hk (i:Nat) ho=>oldM_known r (d:=d) hlt2 hb (kx:=kx) hk (i:=i) ho);have HNEW:=zh (fun hb (kx:Ky3) hk ho=>oldM_new r (d:=d) hlt2 hb (kx:=kx) hk ho);obtain⟨x,hx⟩:=zx (l[j]);rw[←hx] at hes hsm HBAD HKNOWN HNEW
     have es:wr.cell? ⟨bs,os+j,none⟩=some (.string x):=by
      have h1:=(HBR.out.cell (p:=⟨bs,os+j * 1+0,none⟩) hRs).trans hes
      simpa using h1
     subst hAs;have HDEC:=zh (fun w=>sdec_any x w hsm)
     have HPI:=zh (show PcI (decPc x.data.toList) by
      unfold decPc;split
      ·rename_i h0
       have h36:x.data.toList.length=36:=by
        by_cases h:x.data.toList.length=36
        ·exact h
        ·rw[decEr_len h] at h0;cases h0
       exact(decP_in _ h36).1
      ·refine⟨?_,?_,?_,?_,?_,?_⟩ <;> simp[I64])
     obtain⟨E,hE⟩:=zx (decEr x.data.toList);obtain⟨P,hP⟩:=zx (decPc x.data.toList);rw[←hE,←hP] at HDEC HKNOWN HNEW;rw[←hE] at HBAD;rw[←hP] at HPI;obtain⟨pa,pb,pc,pg,pr,px⟩:=P;unfold PcV at HDEC;simp only at HDEC HKNOWN HNEW;obtain⟨y,hy⟩:∃y:ByteArray,y=⟨px.toArray⟩:=⟨_,rfl⟩;rw[←hy] at HDEC;obtain⟨kx,hkx⟩:∃kx:Ky3,kx=⟨pa,pb,pc⟩:=⟨_,rfl⟩;have HKX:=zh hkx;have HOKX:=zh (show kx.ok by rw[hkx];exact⟨HPI.out.1,HPI.out.2.1,HPI.out.2.2.1⟩);have HKV:=zh (show(.agg #[.int .i64 pa,.int .i64 pb,.int .i64 pc]:Value)=k3 kx by rw[hkx];rfl);have hsz:=HBR.out.size;clear hcs hes hx hse hsm hE hP css hy hkx hRs;go_wp2_with fail;refine(HDEC.out _).mono ?_;rintro e w3 ⟨rfl,hb3⟩;have hbr3:=HBR.out.trans (hb3.mono hsz);have HM3:=zh (HM.out.below hb3 HM.out.lt);obtain⟨W4,hW4⟩:=zx ((w3.alloc (.cells #[.int .i64 pa,.int .i64 pb,.int .i64 pc,.int .i64 pg,.int .i64 pr,.string y] 94)).alloc (.cells #[.int .i64 pa,.int .i64 pb,.int .i64 pc] 210));have hz4:w3.alloc (.cells #[.int .i64 pa,.int .i64 pb,.int .i64 pc,.int .i64 pg,.int .i64 pr,.string y] 94)=w3.alloc (.cells #[.int .i64 pa,.int .i64 pb,.int .i64 pc,.int .i64 pg,.int .i64 pr,.string y] 94):=rfl
     have hb4:Below w3.heap.size w3 W4:=by rw[hW4];exact((Below.refl _ _).alloc (Nat.le_refl _) _).alloc (by simp) _
     have HM4:=zh (HM3.out.below hb4 HM3.out.lt);have HBR4:=zh (hbr3.trans (hb4.mono hbr3.size));obtain⟨gk',hgk'⟩:=zx (w3.heap.size+1)
     have hkk:W4.heap[gk']?=some (.cells #[.int .i64 pa,.int .i64 pb,.int .i64 pc] 210 (0,0)):=by rw[hW4];exact heap_alloc_at _ _ _ (by rw[hgk'];simp)
     have k0:W4.cell? ⟨gk',0,none⟩=some (.int .i64 pa):=by rw[cell_of_row W4 gk' 0 _ _ _ hkk];rfl
     have k1:W4.cell? ⟨gk',1,none⟩=some (.int .i64 pb):=by rw[cell_of_row W4 gk' 1 _ _ _ hkk];rfl
     have k2:W4.cell? ⟨gk',2,none⟩=some (.int .i64 pc):=by rw[cell_of_row W4 gk' 2 _ _ _ hkk];rfl
     have HW4:=zh hW4;have HGK:=zh hgk'
     have hnl:n2<maxLen:=by unfold maxLen;omega
     have HNL:=zh hnl;obtain⟨M,hM⟩:∃M:Option Nat,M=oldM r d (l.take j) kx:=⟨_,rfl⟩;have HMM:=zh hM;have HU:=zh (show(fun k=>(oldM r d (l.take j) k).map dV) kx=M.map dV by rw[hM]);clear es hW4 hgk' hkk hb4 hbr3 hb3 hz4 hM hnl;go_upto_region 10 with fail;rw[←HW4.out,←HGK.out]
     cases M with
     | some i =>
      have HEQ:=zh (show oldM r d (l.take (j+1))=oldM r d (l.take j) by
       by_cases hE0:E=0
       ·exact HKNOWN.out hE0 kx HKX.out i HMM.out.symm
       ·exact HBAD.out hE0)
      by_cases hE0:E=0
      ·have b1:((E:Int)==0)=true:=by simpa using hE0
       clear hE0;go_wp2_with (refine kg_look_ok rfl (.tmp 41) (.tmp 42) 158 210 3 rfl key3 Tryz.underlying158 gm n2 _ kx (.int .i64 0) (by rfl) HKV.out HM4.out (zero_int8 _) HOKX.out (some (dV i)) HU.out ?_;unfold dV);go_roundg (l.length - (j+1))
       case measure=>omega
       case rel=>exact⟨j+1,n2,by omega,rfl,by go_num,by omega,by rw[HEQ.out];exact HM4,HBR4⟩
      ·have b1:((E:Int)==0)=false:=by simpa using hE0
       clear hE0;go_wp2_with (refine kg_look_ok rfl (.tmp 41) (.tmp 42) 158 210 3 rfl key3 Tryz.underlying158 gm n2 _ kx (.int .i64 0) (by rfl) HKV.out HM4.out (zero_int8 _) HOKX.out (some (dV i)) HU.out ?_;unfold dV);go_roundg (l.length - (j+1))
       case measure=>omega
       case rel=>exact⟨j+1,n2,by omega,rfl,by go_num,by omega,by rw[HEQ.out];exact HM4,HBR4⟩
     | none =>
      by_cases hE0:E=0
      ·have b1:((E:Int)==0)=true:=by simpa using hE0
       have HEQ:=zh (HNEW.out hE0 kx HKX.out HMM.out.symm);clear hE0;go_wp2_with (first | (refine kg_look_ok rfl (.tmp 41) (.tmp 42) 158 210 3 rfl key3 Tryz.underlying158 gm n2 _ kx (.int .i64 0) (by rfl) HKV.out HM4.out (zero_int8 _) HOKX.out none HU.out ?_) | (refine kg_store rfl (.tmp 52) (.tmp 53) (.tmp 54) 158 210 3 rfl key3 Tryz.underlying158 gm n2 _ kx (dV d) (by rfl) HKV.out (by rfl) HM4.out HNL.out HOKX.out ?_;intro w5 hm5 hg5));go_roundg (l.length - (j+1))
       case measure=>omega
       case rel=>exact⟨j+1,n2+1,by omega,rfl,by go_num,by omega,zh (by rw[HEQ.out];exact hm5),zh (HBR4.out.grown hg5 HBR4.out.size (fun b hb=>by injection hb with hb;rw[←hb];exact HGW.out))⟩
      ·have b1:((E:Int)==0)=false:=by simpa using hE0
       have HEQ:=zh (HBAD.out hE0);clear hE0;go_wp2_with (refine kg_look_ok rfl (.tmp 41) (.tmp 42) 158 210 3 rfl key3 Tryz.underlying158 gm n2 _ kx (.int .i64 0) (by rfl) HKV.out HM4.out (zero_int8 _) HOKX.out none HU.out ?_);go_roundg (l.length - (j+1))
       case measure=>omega
       case rel=>exact⟨j+1,n2,by omega,rfl,by go_num,by omega,by rw[HEQ.out];exact HM4,HBR4⟩
    ·have HJ:=zh (show oldM r d (l.take j)=oldM r (d+1) [] by rw[List.take_of_length_le (by omega)];exact HNEXT.out);go_wp2_with fail;go_roundg (D - (d+1))
     case measure=>omega
     case rel=>exact⟨d+1,n2,by omega,rfl,by go_num,by omega,by rw[←HJ.out];exact HM,HBR⟩
  ·have HJ:=zh (show(fun k=>(oldM r d [] k).map dV)=fun k=>(oldD r k.v k.f k.s).map dV by
    funext k
    have hdd:d=r.plat.length:=by have:=HD.out;omega
    rw[hdd,oldM_all])
   go_wp2_with fail;go_ret;exact⟨gm,n,rfl,HGW.out,by rw[←HJ.out];exact HM.out,HBR.out⟩
end Go.Proofs.YtcfkllnpkmebpaaGreatDoor

namespace Go.Proofs.YtcfkllnpkmebpaaGreatDoor
open Go.RowKit
set_option linter.unusedVariables false
set_option linter.unusedSimpArgs false
def upF(r:Re) (v s:Int) (set:List Nat) (i:Nat):Bool:=(pieces r).any fun x=>isB x.p v (i:Int) s&&(onB r x.drive||decide (x.drive∈set))
def cntS(r:Re) (v s:Int) (n:Nat) (set:List Nat):Nat:=((List.range n).filter (upF r v s set)).length
theorem upF_iff{r:Re} {v s:Int} {set:List Nat} {i:Nat}:upF r v s set i=true↔∃x∈pieces r,isB x.p v (i:Int) s=true∧(onB r x.drive=true∨x.drive∈set):=by
 unfold upF;rw[List.any_eq_true]
 constructor
 ·rintro ⟨x,hx,h⟩;rw[Bool.and_eq_true,Bool.or_eq_true,decide_eq_true_eq] at h;exact⟨x,hx,h⟩
 ·rintro ⟨x,hx,h1,h2⟩;exact⟨x,hx,by rw[Bool.and_eq_true,Bool.or_eq_true,decide_eq_true_eq];exact⟨h1,h2⟩⟩
theorem pieces_lt(r:Re):∀x∈pieces r,x.drive<r.plat.length:=fun x hx=>by
 have:=piecesTo_drive r _ x hx;omega
def anyF(r:Re) (v s:Int) (i:Nat):Bool:=(pieces r).any fun x=>isB x.p v (i:Int) s
theorem anyF_iff{r:Re} {v s:Int} {i:Nat}:anyF r v s i=true↔∃x∈pieces r,isB x.p v (i:Int) s=true:=by
 unfold anyF;rw[List.any_eq_true]
theorem src_up(r:Re) (v f s:Int):0≤srcI r (pieces r) v f s true↔∃x∈pieces r,isB x.p v f s=true∧onB r x.drive=true:=by
 rw[srcI_has,List.any_eq_true]
 constructor
 ·rintro ⟨x,hx,h⟩;rw[srcB_on,Bool.and_eq_true] at h;exact⟨x,hx,h⟩
 ·rintro ⟨x,hx,h⟩;exact⟨x,hx,by rw[srcB_on,Bool.and_eq_true];exact h⟩
theorem int_count(r:Re) (v s:Int) (on:Bool) (n:Nat) (hn:n≤8):((intI r v s on).filter (fun x=>decide (x<(n:Int)))).length=((List.range n).filter (fun i:Nat=>decide (0≤srcI r (pieces r) v (i:Int) s on))).length:=by
 have h:∀m,((intTo r (pieces r) v s on m).filter (fun x=>decide (x<(n:Int)))).length=((List.range (min m n)).filter (fun i:Nat=>decide (0≤srcI r (pieces r) v (i:Int) s on))).length:=by
  intro m
  induction m with
  | zero=>simp[intTo]
  | succ m ih =>
   rw[intTo_succ,List.filter_append,List.length_append,ih];by_cases hm:m<n
   ·rw[show min (m+1) n=m+1 by omega,show min m n=m by omega,List.range_succ,List.filter_append,List.length_append]
    congr 1
    by_cases hs:0≤srcI r (pieces r) v (m:Int) s on
    ·simp[hs,hm]
    ·simp[hs]
   ·rw[show min (m+1) n=n by omega,show min m n=n by omega];by_cases hs:0≤srcI r (pieces r) v (m:Int) s on
    ·simp[hs,hm]
    ·simp[hs]
 unfold intI;rw[h 8,show min 8 n=n by omega]
theorem cnt_up(r:Re) (v s:Nat) (n:Nat) (hn:n≤8):cntI r v s true (n:Int)=(cntS r (v:Int) (s:Int) n []:Int):=by
 unfold cntI cntS;rw[int_count _ _ _ _ n hn]
 congr 2
 apply List.filter_congr;intro i hi;rw[Bool.eq_iff_iff,decide_eq_true_eq,src_up,upF_iff];simp
theorem cnt_all(r:Re) (v s:Nat) (n:Nat) (hn:n≤8):cntI r v s false (n:Int)=(((List.range n).filter (anyF r (v:Int) (s:Int))).length:Int):=by
 unfold cntI;rw[int_count _ _ _ _ n hn]
 congr 2
 apply List.filter_congr;intro i hi;rw[Bool.eq_iff_iff,decide_eq_true_eq,srcI_has,List.any_eq_true,anyF_iff]
 constructor
 ·rintro ⟨x,hx,h⟩;rw[srcB_off] at h;exact⟨x,hx,h⟩
 ·rintro ⟨x,hx,h⟩;exact⟨x,hx,by rw[srcB_off];exact h⟩
end Go.Proofs.YtcfkllnpkmebpaaGreatDoor

namespace Go.Proofs.YtcfkllnpkmebpaaGreatDoor
open Go.RowKit
set_option linter.unusedVariables false
set_option linter.unusedSimpArgs false
end Go.Proofs.YtcfkllnpkmebpaaGreatDoor

namespace Go.Proofs.YtcfkllnpkmebpaaGreatDoor
open Go.RowKit
set_option linter.unusedVariables false
set_option linter.unusedSimpArgs false
theorem good_nat(r:Re) (v f s:Int):∀y∈goodI r v f s,∃d:Nat,y=(d:Int)∧d<r.plat.length:=fun y hy=>by
 obtain⟨x,hx,e⟩:=goodTo_mem v f s _ y hy;exact⟨x.drive,e,pieces_lt r x hx⟩
end Go.Proofs.YtcfkllnpkmebpaaGreatDoor

namespace Go.Proofs.YtcfkllnpkmebpaaGreatDoor
open Go.RowKit
set_option linter.unusedVariables false
set_option linter.unusedSimpArgs false
theorem below_hotW{a b c:World} {hot:List (Option Nat)} (h:Below a.heap.size a b) (k:HotBy hot b c) (hn:∀x,some x∈hot→a.heap.size≤x):Below a.heap.size a c :=
 ⟨k.os.trans h.os,k.tape.trans h.tape,k.output.trans h.output,Nat.le_trans h.size k.size,fun x hx=>(k.block x (Nat.lt_of_lt_of_le hx h.size) (fun e=>by have:=hn x e;omega)).trans (h.block x hx)⟩
section
variable {W0 w w' : World} {gX : Nat} {vp va vo : Value} {on : List Bool}
end
end Go.Proofs.YtcfkllnpkmebpaaGreatDoor

namespace Go.Proofs.YtcfkllnpkmebpaaGreatDoor
open Go.RowKit
set_option linter.unusedVariables false
set_option linter.unusedSimpArgs false
theorem sz_al(w:World) (o:Obj):(w.alloc o).heap.size=w.heap.size+1:=by simp
theorem find_hit{α:Type} {q:α→Bool} {l:List α} {j:Nat} (hj:j<l.length) (h:∀k (hk:k<l.length),k<j→q l[k]=false) (ho:q l[j]=true):l.find? q=some l[j]:=by
 rw[List.find?_eq_some_iff_getElem];exact⟨ho,j,hj,rfl,fun k hk=>by rw[h k (by omega) hk];rfl⟩
theorem find_miss{α:Type} {q:α→Bool} {l:List α} (h:∀k (hk:k<l.length),q l[k]=false):l.find? q=none:=by
 rw[List.find?_eq_none];intro x hx;obtain⟨i,hi,rfl⟩:=List.getElem_of_mem hx;rw[h i hi];decide
theorem causeG_hit{r:Re} {g:List Int} {o:Option Nat} {j:Nat} (hj:j<g.length) (h:∀k (hk:k<g.length),k<j→onB r g[k].toNat=false) (ho:onB r g[j].toNat=true):causeG r g o=⟨1,g[j]⟩:=by
 unfold causeG;rw[find_hit (q:=fun d:Int=>onB r d.toNat) hj h ho]
theorem causeG_miss{r:Re} {g:List Int} {o:Option Nat} (hg:0<g.length) (h:∀k (hk:k<g.length),onB r g[k].toNat=false):causeG r g o=⟨2,g[0]⟩:=by
 unfold causeG;rw[find_miss (q:=fun d:Int=>onB r d.toNat) h]
 cases g with
 | nil=>simp at hg
 | cons a l=>rfl
theorem causeG_nil(r:Re) (o:Option Nat):causeG r [] o=match o with | some d=>⟨3,(d:Int)⟩ | none=>⟨4,-1⟩:=rfl
def causL(r:Re) (v s:Int) (n:Nat):List Cau:=(List.range n).map fun i:Nat=>causeOf r v (i:Int) s
theorem causL_len(r:Re) (v s:Int) (n:Nat):(causL r v s n).length=n:=by unfold causL;simp
theorem causL_succ(r:Re) (v s:Int) (n:Nat):causL r v s (n+1)=causL r v s n++[causeOf r v (n:Int) s]:=by
 unfold causL;rw[List.range_succ,List.map_append]
 rfl
theorem incOf_eq(F:FltM) (r:Re) (lost:Bool) (v s KN KM:Nat) (hk:kOf F v=(KN:Int)) (hm:kOf F v+mOf F v=(KM:Int)):incOf F r lost (v,s)=⟨(v:Int),(s:Int),lost,(KN:Int),causL r (v:Int) (s:Int) KM⟩:=by
 unfold incOf causL
 dsimp only
 rw[hm,hk,Int.toNat_natCast]
structure IncT (W0:World) (g:Nat) (c0 c1 c2 c3:Value) (w:World) (cv:Value) (l:List Cau):Prop where
 hot:Below W0.heap.size W0 w
 row:w.heap[g]?=some (.cells #[c0,c1,c2,c3,cv] 27 (0,0))
 own:OwnCau w W0.heap.size cv l
 ge:W0.heap.size≤g
section
variable {W0 w w' : World} {g : Nat} {c0 c1 c2 c3 cv : Value} {l : List Cau}
theorem IncT.lt(h:IncT W0 g c0 c1 c2 c3 w cv l):g<w.heap.size:=(Array.getElem?_eq_some_iff.1 h.row).1
theorem IncT.below(h:IncT W0 g c0 c1 c2 c3 w cv l) (hb:Below w.heap.size w w'):IncT W0 g c0 c1 c2 c3 w' cv l :=
 ⟨h.hot.trans (hb.mono h.hot.size),(hb.block g h.lt).trans h.row,h.own.below hb,h.ge⟩
theorem IncT.cells(h:IncT W0 g c0 c1 c2 c3 w cv l):w.cell? ⟨g,4,none⟩=some cv∧w.frozen? ⟨g,4,none⟩=false∧g<w.heap.size :=
 ⟨by rw[cell_of_row _ _ _ _ _ _ h.row];rfl,frozen_of_row _ _ _ _ _ h.row,h.lt⟩
theorem IncT.grown(h:IncT W0 g c0 c1 c2 c3 w cv l) (hg:w.grownBy w' cv.ownBlock):Below W0.heap.size W0 w'∧w'.heap[g]?=some (.cells #[c0,c1,c2,c3,cv] 27 (0,0)) :=
 ⟨below_hotW h.hot (HotBy.grown (hot:=[cv.ownBlock]) hg (.inl (by simp))) (fun x hx=>(h.own.lt x (by simp at hx;exact hx.symm)).1),
  (hg.block g h.lt (fun e=>own_nty h.own h.row (by decide) e.symm)).trans h.row⟩
theorem IncT.push{cv':Value} {c:Cau} (h:IncT W0 g c0 c1 c2 c3 w cv l) (hg:w.grownBy w' cv.ownBlock) (hown:OwnCau w' W0.heap.size cv' (l++[c])):IncT W0 g c0 c1 c2 c3 (w'.setCell ⟨g,4,none⟩ cv') cv' (l++[c]):=by
 obtain⟨h1,h2⟩:=h.grown hg;have hh:HotBy [some g] w' (w'.setCell ⟨g,4,none⟩ cv'):=HotBy.setCell _ _ _ _ (by simp);refine⟨below_hotW h1 hh (fun x hx=>by simp at hx;rw[hx];exact h.ge),heap_setCell_same _ g 4 _ _ cv' h2,?_,h.ge⟩;exact own_hot hown hh (fun b hb e=>by simp at e;subst e;exact own_nty hown h2 (by decide) hb)
theorem IncT.start(hg:g=W0.heap.size):IncT W0 g c0 c1 c2 c3 (W0.alloc (.cells #[c0,c1,c2,c3,.slice none 0 0] 27)) (.slice none 0 0) [] :=
 ⟨(Below.refl W0.heap.size W0).alloc (Nat.le_refl _) _,by rw[hg];exact heap_alloc_new W0 _,OwnCau.nil _ _,by omega⟩
theorem IncT.all(h:IncT W0 g c0 c1 c2 c3 w cv l):w.rangeAt g 0 [c0,c1,c2,c3,cv]:=World.rangeAt_of_block h.row 0 5
end
end Go.Proofs.YtcfkllnpkmebpaaGreatDoor

namespace Go.Proofs.YtcfkllnpkmebpaaGreatDoor
open Go.RowKit Go.Shelf Go.Sort
set_option linter.unusedVariables false
set_option linter.unusedSimpArgs false
def sortRen:Go.Shelf.Ren:=⟨fun | 6=>79 | 15=>116 | 14=>115 | 28=>167 | 29=>168 | 20=>159 | 21=>160 | 22=>161 | 23=>162 | 24=>163 | 25=>164 | 26=>165 | 27=>166 | 46=>215 | 47=>216 | 48=>217 | 49=>218 | 50=>219 | 57=>243 | n=>n,fun | 22=>23 | 24=>27 | 25=>116 | 3=>3 | 39=>183 | 0=>0 | 53=>97 | 55=>181 | 4=>4 | 46=>248 | 45=>247 | 50=>207 | 5=>5 | 9=>9 | 66=>283 | 70=>287 | 76=>300 | 77=>239 | n=>n,fun n=>n⟩
theorem sortLays:Go.Proofs.SlLaysF0.n6 Tryz.prog sortRen:={
 mixed:=by kernel_rfl
 f6 := Exists.intro "slices.SortFunc[[]drydock/api.Incident,drydock/api.Incident]" ⟨of_decide_eq_true (by kernel_rfl), Tryz.func79.trans (congrArg some (by kernel_rfl))⟩
 f14 := Exists.intro "slices.pdqsortCmpFunc[drydock/api.Incident]" ⟨of_decide_eq_true (by kernel_rfl), Tryz.func115.trans (congrArg some (by kernel_rfl))⟩
 f15:=Tryz.func116.trans (congrArg some (by kernel_rfl))
 f20 := Exists.intro "slices.insertionSortCmpFunc[drydock/api.Incident]" ⟨of_decide_eq_true (by kernel_rfl), Tryz.func159.trans (congrArg some (by kernel_rfl))⟩
 f21 := Exists.intro "slices.heapSortCmpFunc[drydock/api.Incident]" ⟨of_decide_eq_true (by kernel_rfl), Tryz.func160.trans (congrArg some (by kernel_rfl))⟩
 f22 := Exists.intro "slices.breakPatternsCmpFunc[drydock/api.Incident]" ⟨of_decide_eq_true (by kernel_rfl), Tryz.func161.trans (congrArg some (by kernel_rfl))⟩
 f23 := Exists.intro "slices.choosePivotCmpFunc[drydock/api.Incident]" ⟨of_decide_eq_true (by kernel_rfl), Tryz.func162.trans (congrArg some (by kernel_rfl))⟩
 f24 := Exists.intro "slices.reverseRangeCmpFunc[drydock/api.Incident]" ⟨of_decide_eq_true (by kernel_rfl), Tryz.func163.trans (congrArg some (by kernel_rfl))⟩
 f25 := Exists.intro "slices.partialInsertionSortCmpFunc[drydock/api.Incident]" ⟨of_decide_eq_true (by kernel_rfl), Tryz.func164.trans (congrArg some (by kernel_rfl))⟩
 f26 := Exists.intro "slices.partitionEqualCmpFunc[drydock/api.Incident]" ⟨of_decide_eq_true (by kernel_rfl), Tryz.func165.trans (congrArg some (by kernel_rfl))⟩
 f27 := Exists.intro "slices.partitionCmpFunc[drydock/api.Incident]" ⟨of_decide_eq_true (by kernel_rfl), Tryz.func166.trans (congrArg some (by kernel_rfl))⟩
 f28:=Tryz.func167.trans (congrArg some (by kernel_rfl))
 f29:=Tryz.func168.trans (congrArg some (by kernel_rfl))
 f46 := Exists.intro "slices.siftDownCmpFunc[drydock/api.Incident]" ⟨of_decide_eq_true (by kernel_rfl), Tryz.func215.trans (congrArg some (by kernel_rfl))⟩
 f47:=Tryz.func216.trans (congrArg some (by kernel_rfl))
 f48:=Tryz.func217.trans (congrArg some (by kernel_rfl))
 f49 := Exists.intro "slices.medianAdjacentCmpFunc[drydock/api.Incident]" ⟨of_decide_eq_true (by kernel_rfl), Tryz.func218.trans (congrArg some (by kernel_rfl))⟩
 f50 := Exists.intro "slices.medianCmpFunc[drydock/api.Incident]" ⟨of_decide_eq_true (by kernel_rfl), Tryz.func219.trans (congrArg some (by kernel_rfl))⟩
 f57 := Exists.intro "slices.order2CmpFunc[drydock/api.Incident]" ⟨of_decide_eq_true (by kernel_rfl), Tryz.func243.trans (congrArg some (by kernel_rfl))⟩
 t0:=Tryz.underlying0
 a0:=Tryz.isAgg0
 z0:=Tryz.sizeOf0
 v0:=Tryz.zeroValue0
 t3:=Tryz.underlying3
 a3:=Tryz.isAgg3
 z3:=Tryz.sizeOf3
 v3:=Tryz.zeroValue3
 t4:=Tryz.underlying4
 a4:=Tryz.isAgg4
 z4:=Tryz.sizeOf4
 v4:=Tryz.zeroValue4
 t5:=Tryz.underlying5
 a5:=Tryz.isAgg5
 z5:=Tryz.sizeOf5
 v5:=Tryz.zeroValue5
 t9:=Tryz.underlying9
 a9:=Tryz.isAgg9
 z9:=Tryz.sizeOf9
 v9:=Tryz.zeroValue9
 t22:=Tryz.underlying23
 a22:=Tryz.isAgg23
 z22:=Tryz.sizeOf23
 v22:=Tryz.zeroValue23
 t25:=Tryz.underlying116
 a25:=Tryz.isAgg116
 z25:=Tryz.sizeOf116
 v25:=Tryz.zeroValue116
 t39:=Tryz.underlying183
 a39:=Tryz.isAgg183
 z39:=Tryz.sizeOf183
 v39:=Tryz.zeroValue183
 t45:=Tryz.underlying247
 a45:=Tryz.isAgg247
 z45:=Tryz.sizeOf247
 v45:=Tryz.zeroValue247
 t46:=Tryz.underlying248
 a46:=Tryz.isAgg248
 z46:=Tryz.sizeOf248
 v46:=Tryz.zeroValue248
 t50:=Tryz.underlying207
 a50:=Tryz.isAgg207
 z50:=Tryz.sizeOf207
 v50:=Tryz.zeroValue207
 t53:=Tryz.underlying97
 a53:=Tryz.isAgg97
 z53:=Tryz.sizeOf97
 v53:=Tryz.zeroValue97
 t55:=Tryz.underlying181
 a55:=Tryz.isAgg181
 z55:=Tryz.sizeOf181
 v55:=Tryz.zeroValue181
 t66:=Tryz.underlying283
 a66:=Tryz.isAgg283
 z66:=Tryz.sizeOf283
 v66:=Tryz.zeroValue283
 t70:=Tryz.underlying287
 a70:=Tryz.isAgg287
 z70:=Tryz.sizeOf287
 v70:=Tryz.zeroValue287
 t76:=Tryz.underlying300
 a76:=Tryz.isAgg300
 z76:=Tryz.sizeOf300
 v76:=Tryz.zeroValue300
 t77:=Tryz.underlying239
 a77:=Tryz.isAgg239
 z77:=Tryz.sizeOf239
 v77:=Tryz.zeroValue239 }
def bitsLenRen:Go.Shelf.Ren:=⟨fun | 125=>116 | 128=>167 | 129=>168 | n=>n,fun | 46=>183 | 3=>3 | 51=>97 | 53=>181 | 4=>4 | 5=>5 | 9=>9 | n=>n,fun n=>n⟩
theorem bitsLenLays:Go.Proofs.Lays.n125 Tryz.prog bitsLenRen:={
 mixed:=by kernel_rfl
 f125:=Tryz.func116.trans (congrArg some (by kernel_rfl))
 f128:=Tryz.func167.trans (congrArg some (by kernel_rfl))
 f129:=Tryz.func168.trans (congrArg some (by kernel_rfl))
 t3:=Tryz.underlying3
 a3:=Tryz.isAgg3
 z3:=Tryz.sizeOf3
 v3:=Tryz.zeroValue3
 t4:=Tryz.underlying4
 a4:=Tryz.isAgg4
 z4:=Tryz.sizeOf4
 v4:=Tryz.zeroValue4
 t5:=Tryz.underlying5
 a5:=Tryz.isAgg5
 z5:=Tryz.sizeOf5
 v5:=Tryz.zeroValue5
 t9:=Tryz.underlying9
 a9:=Tryz.isAgg9
 z9:=Tryz.sizeOf9
 v9:=Tryz.zeroValue9
 t46:=Tryz.underlying183
 a46:=Tryz.isAgg183
 z46:=Tryz.sizeOf183
 v46:=Tryz.zeroValue183
 t51:=Tryz.underlying97
 a51:=Tryz.isAgg97
 z51:=Tryz.sizeOf97
 v51:=Tryz.zeroValue97
 t53:=Tryz.underlying181
 a53:=Tryz.isAgg181
 z53:=Tryz.sizeOf181
 v53:=Tryz.zeroValue181 }
structure IncE where
 v:Fin 4096
 s:Fin 4096
 lost:Bool
 need:Int
 cs:List Cau
 cv:{x:Value // x.oneCell'=true}
instance:Inhabited IncE:=⟨⟨0,0,false,0,[],⟨.slice none 0 0,rfl⟩⟩⟩
def IncE.w(e:IncE):IncW:=⟨⟨(e.v.val:Int),(e.s.val:Int),e.lost,e.need,e.cs⟩,e.cv.1⟩
def sencE(e:IncE):List Value:=[.int .i64 (e.v.val:Int),.int .i64 (e.s.val:Int),.bool e.lost,.int .i64 e.need,e.cv.1]
def cmpE(x y:IncE):Int:=if(x.v.val:Int)=(y.v.val:Int) then(x.s.val:Int) - (y.s.val:Int) else(x.v.val:Int) - (y.v.val:Int)
theorem encE_w(e:IncE):sencE e=incC e.w:=rfl
theorem swoE:SWO (ltOf cmpE) where
 irrefl x:=by unfold ltOf cmpE;simp
 trans x y z h k:=by
  unfold ltOf cmpE at *;simp only[decide_eq_true_eq] at *;split at h <;> split at k <;> split <;> omega
 ntrans x y z h k:=by
  unfold ltOf cmpE at *;simp only[decide_eq_false_iff_not] at *;split at h <;> split at k <;> split <;> omega
theorem ltE_iff(x y:IncE):ltOf cmpE x y=true↔incLt x.w.x y.w.x:=by
 unfold ltOf cmpE incLt IncE.w;simp only[decide_eq_true_eq];split <;> omega
theorem order_any(x y:IncE) (w:World):Calls Tryz.prog 50 #[.agg (sencE x).toArray,.agg (sencE y).toArray] w fun e w'=>e=.returned (.int .i64 (cmpE x y))∧∃q os',w'=grow (w.drewN q) os':=by
 obtain⟨⟨xv,hxv⟩,⟨xs,hxs⟩,xl,xn,xc,⟨xw,hxw⟩⟩:=x;obtain⟨⟨yv,hyv⟩,⟨ys,hys⟩,yl,yn,yc,⟨yw,hyw⟩⟩:=y;unfold sencE cmpE;simp only
 have i1:(xv:Int)<4096:=by omega
 have i2:(xs:Int)<4096:=by omega
 have i3:(yv:Int)<4096:=by omega
 have i4:(ys:Int)<4096:=by omega
 by_cases h:(xv:Int)=(yv:Int)
 ·rw[if_pos h]
  have b1:((xv:Int) != (yv:Int))=false:=by simpa using h
  clear h;go_enter Tryz.func50,Tryz.ntmps50;go_wp2_with fail;go_ret;exact⟨rfl,0,_,by rw[alloc_eq_grow,alloc_eq_grow,grow_grow];rfl⟩
 ·rw[if_neg h]
  have b1:((xv:Int) != (yv:Int))=true:=by simpa using h
  clear h;go_enter Tryz.func50,Tryz.ntmps50;go_wp2_with fail;go_ret;exact⟨rfl,0,_,by rw[alloc_eq_grow,alloc_eq_grow,grow_grow];rfl⟩
theorem hot_sorted(w:World) (g m:Nat) (d:Array IncE) (os:Array Obj):HotBy [some g] w (sortWorldK sencE 5 w g 0 m d os):=by
 unfold sortWorldK grow putRowK putRow mapBlock Go.Sort.ahead;refine⟨rfl,rfl,rfl,?_,fun b hb hn=>?_⟩
 ·simp
 ·have hne:g≠b:=fun e=>hn (by simp[e])
  simp only;rw[Array.getElem?_append_left (by simpa using hb),Array.getElem?_modify,if_neg hne]
theorem toE(L:List IncW) (h:∀s∈L,(0≤s.x.vol∧s.x.vol<4096)∧(0≤s.x.stripe∧s.x.stripe<4096)∧s.cv.oneCell'=true):∃D:List IncE,D.map IncE.w=L:=by
 induction L with
 | nil=>exact⟨[],rfl⟩
 | cons s L ih =>
  obtain⟨D,hD⟩:=ih (fun u hu=>h u (List.mem_cons_of_mem _ hu));obtain⟨⟨h1,h2⟩,⟨h3,h4⟩,h5⟩:=h s (by simp);refine⟨⟨⟨s.x.vol.toNat,by omega⟩,⟨s.x.stripe.toNat,by omega⟩,s.x.lost,s.x.need,s.x.causes,⟨s.cv,h5⟩⟩ :: D,?_⟩;rw[List.map_cons,hD]
  congr 1
  obtain⟨⟨a,b,c,d,e⟩,cv⟩:=s;unfold IncE.w;simp only at h1 h3;simp only[Int.toNat_of_nonneg h1,Int.toNat_of_nonneg h3]
theorem flatE(D:List IncE) (t:Nat) (h:t<D.length * 5):((D.map IncE.w).flatMap incC)[t]?=some (sencE D.toArray[t / 5]!)[t % 5]! := by
 have h1:t / 5<D.length:=by omega
 have h2:(D.map IncE.w)[t / 5]?=some (D[t / 5]).w:=by rw[List.getElem?_map,List.getElem?_eq_getElem h1];rfl
 have h3:D.toArray[t / 5]! = D[t / 5]:=by simp[h1]
 have h4:(incC (D[t / 5]).w)[t % 5]?=some (sencE D[t / 5])[t % 5]! := by
  rw[←encE_w]
  have:t % 5<(sencE D[t / 5]).length:=by show t % 5<5;omega
  rw[List.getElem?_eq_getElem this];simp[this]
 have:=flat_inc _ _ _ h2 _ _ h4;rw[h3,←this]
 congr 1
 omega
theorem bitsLen_any(n:Nat) (W:World) (h:n≤12):Calls Tryz.prog 116 #[.int .u64 n] W fun e w'=>(∃l:Int,e=.returned (.int .i64 l))∧w'=W :=
 (Any.bits_Len bitsLenLays n W (by omega) (by omega)).mono fun _ _ ⟨he,hw⟩=>⟨⟨_,he⟩,hw⟩
theorem sortinc_any(vl:Value) (B:Nat) (L:List IncW) (w:World) (h:IncsS w B vl L) (h12:L.length≤12) (hb:∀s∈L,(0≤s.x.vol∧s.x.vol<4096)∧(0≤s.x.stripe∧s.x.stripe<4096)) :
  Calls Tryz.prog 79 #[vl,.func (.func 50) #[] #[]] w fun e w'=>e=.returned (.tuple #[])∧∃L':List Inc,L'.Perm (L.map (·.x))∧L'.Pairwise (fun a b=>¬incLt b a)∧SlS 5 IncK w' (Fr B w'.heap.size) vl L'∧Below B w w':=by
 have hform:=h.row.2;rcases hform with ⟨rfl,h0⟩ | ⟨g,cap,cur,rfl,hg,hcur,h2,h3,hsz,htk⟩
 ·refine(AnyF.slices_SortFunc_none (P:=Tryz.prog) (ρ:=sortRen) { sortLays with } none 0 (.func (.func 50) #[] #[]) w).mono ?_;rintro e w' ⟨rfl,rfl⟩;have hL:=List.eq_nil_of_length_eq_zero h0;subst hL;exact⟨rfl,[],List.Perm.refl _,List.Pairwise.nil,Row.nil _ _ _,Below.refl _ _⟩
 ·obtain⟨D,hD⟩:=toE L (fun s hs=>⟨(hb s hs).1,(hb s hs).2,one_sls (h.each s hs)⟩)
  have hDl:D.length=L.length:=by rw[←hD,List.length_map]
  have hgl:g<w.heap.size:=(Array.getElem?_eq_some_iff.1 hcur).1
  have hH:HoldsK sencE 5 w g 0 D.toArray:=by
   intro t ht;rw[size_flatK] at ht
   have ht':t<D.length * 5:=by simpa using ht
   have e1:=flatE D t ht';rw[hD,←htk,List.getElem?_take,if_pos (by omega)] at e1;rw[get_flatK _ _ _ _ ht,Nat.zero_add];exact⟨by rw[cell_of_row _ _ _ _ _ _ hcur,←Array.getElem?_toList];exact e1,frozen_of_row _ _ _ _ _ hcur⟩
  have hs:=AnyQ.slices_SortFunc_small_sorted sortLays 5 Tryz.isAgg27 Tryz.sizeOf27 sencE (fun _=>rfl) (fun x v hv=>by
    unfold sencE at hv;simp only[List.mem_cons,List.not_mem_nil,or_false] at hv;rcases hv with rfl | rfl | rfl | rfl | rfl
    ·rfl
    ·rfl
    ·rfl
    ·rfl
    ·exact x.cv.2) cmpE 50 #[] swoE g 0 cap D.toArray w (enters_of Tryz.func50 (by kernel_rfl) rfl) (fun _ _ _ _ x y=>order_any x y _) hH hgl (by simp;omega) bitsLen_any
  have ez:D.toArray.size=L.length:=by simpa using hDl
  rw[ez] at hs;refine hs.mono ?_;rintro e w' ⟨rfl,d',n,os,⟨hsz',-,hperm⟩,hsort,rfl⟩;have hh:=hot_sorted w g n d' os
  have hds:d'.size=L.length:=by rw[hsz',ez]
  have hperm':d'.toList.Perm D:=by
   have e1:(d'.extract 0 L.length).toList=d'.toList:=by rw[←hds];simp
   have e2:(D.toArray.extract 0 L.length).toList=D:=by rw[←ez];simp
   rw[e1,e2] at hperm;exact hperm
  have hHd:=holdsK_sortWorldK_c sencE 5 w g 0 D.toArray d' n os hH hgl (by rw[hds,ez]);have hbel:Below B w (sortWorldK sencE 5 w g 0 n d' os):=⟨hh.os,hh.tape,hh.output,hh.size,fun b hb2=>hh.block b (by omega) (by simp;omega)⟩;refine⟨rfl,d'.toList.map (fun e=>e.w.x),?_,?_,?_,hbel⟩
  ·have:=(hperm'.map IncE.w);rw[hD] at this;have:=this.map (fun s:IncW=>s.x)
   rwa [List.map_map] at this
  ·rw[List.pairwise_map,List.pairwise_iff_getElem];intro i j hi hj hij;have:=hsort i j (Nat.zero_le _) hij (by rw[←hds];simpa using hj)
   have hi':i<d'.size:=by simpa using hi
   have hj':j<d'.size:=by simpa using hj
   have ei:d'[i]! = d'.toList[i]:=by simp[hi']
   have ej:d'[j]! = d'.toList[j]:=by simp[hj']
   rw[ei,ej] at this;intro hlt;rw[←ltE_iff] at hlt;rw[this] at hlt;cases hlt
  ·have hlen:(d'.toList.map (fun e=>e.w.x)).length=L.length:=by rw[List.length_map,Array.length_toList,hds]
   refine⟨some ⟨g,0,none⟩,cap,by rw[hlen],by rw[hlen];exact h2,by rw[hlen];exact Nat.le_trans h2 h3,fun _=>⟨g,0,rfl,⟨hg,Nat.lt_of_lt_of_le hgl hh.size⟩,fun k f hf=>?_⟩⟩;rw[List.getElem?_map] at hf
   cases hx:d'.toList[k]? with
   | none=>rw[hx] at hf;cases hf
   | some e =>
    rw[hx] at hf;injection hf with hf;subst hf
    have hk:k<d'.size:=by have:=(List.getElem?_eq_some_iff.1 hx).1;simpa using this
    have ee:d'[k]! = e:=by
     have h1:d'.toList[k]?=some d'[k]:=by rw[Array.getElem?_toList,Array.getElem?_eq_getElem hk]
     rw[h1] at hx;injection hx with hx;simp[hk,hx]
    have hmem:e.w∈L:=by
     have h1:e∈D:=hperm'.mem_iff.1 (List.mem_of_getElem? hx);rw[←hD];exact List.mem_map.2 ⟨e,h1,rfl⟩
    refine⟨sencE e,rfl,fun i c hi=>?_,e.cv.1,rfl,SlS.mono cauK (SlS.keep cauK (h.each e.w hmem) (fun b hb2=>hh.block b hb2.2.1 (by
     intro hm;simp at hm
     exact hb2.2.2 (by rw[hm];rfl)))) (fun b hb2=>⟨hb2.1,Nat.lt_of_lt_of_le hb2.2.1 hh.size⟩)⟩
    have hi5:i<5:=(List.getElem?_eq_some_iff.1 hi).1;have h1:=(HoldsK.cell hHd hk hi5).1;rw[ee] at h1;rw[h1]
    have:(sencE e)[i]! = c:=by
     have h2:i<(sencE e).length:=hi5;rw[List.getElem?_eq_getElem h2] at hi;injection hi with hi;simp[h2,hi]
    rw[this]
end Go.Proofs.YtcfkllnpkmebpaaGreatDoor

namespace Go.Proofs.YtcfkllnpkmebpaaGreatDoor
open Go.RowKit
set_option linter.unusedVariables false
set_option linter.unusedSimpArgs false
end Go.Proofs.YtcfkllnpkmebpaaGreatDoor

namespace Go.Proofs.YtcfkllnpkmebpaaGreatDoor
end Go.Proofs.YtcfkllnpkmebpaaGreatDoor

namespace Go.Proofs.YtcfkllnpkmebpaaGreatDoor
open Go.RowKit
set_option linter.unusedVariables false
set_option linter.unusedSimpArgs false
end Go.Proofs.YtcfkllnpkmebpaaGreatDoor

namespace Go.Proofs.YtcfkllnpkmebpaaGreatDoor
open Go.RowKit
set_option linter.unusedVariables false
set_option linter.unusedSimpArgs false
theorem ionline_any(vp vo va:Value) (r:Re) (d:Nat) (w:World) (h:ReS w (Bl w.heap.size) vp vo va r) (hd:d≤1048576) :
  Calls Tryz.prog 62 #[.agg #[vp,vo,va],.int .i64 (d:Int)] w fun e w'=>e=.returned (.bool (onB r d))∧Below w.heap.size w w':=by
 obtain⟨A,c,rfl,-,hm⟩:=h.2.1.form;unfold maxLen at hm;by_cases hlt:d<r.on.length
 ·obtain⟨b,off,cs,rfl,hR,-,hc,hk⟩:=h.2.1.at_ hlt;have hk':cs=[.bool r.on[d]]:=hk;have hcell:=hc 0 (.bool r.on[d]) (by rw[hk'];rfl);simp only[Nat.mul_one,Nat.add_zero] at hcell
  have hcell2:(w.alloc (.cells #[vp,.slice (some ⟨b,off,none⟩) r.on.length c,va] 40)).cell? ⟨b,off+d,none⟩=some (.bool r.on[d]) :=
   (((Below.refl w.heap.size w).alloc (Nat.le_refl _) _).cell (p:=⟨b,off+d,none⟩) hR).trans hcell
  have hE:onB r d=r.on[d]:=getD_lt _ _ hlt;rw[hE];generalize r.on[d]=x at *;clear hc hk hk' hcell h hE;go_enter Tryz.func62,Tryz.ntmps62;go_wp2;go_ret;exact⟨rfl,(Below.refl _ _).alloc (Nat.le_refl _) _⟩
 ·have hE:onB r d=false:=by unfold onB;rw[List.getD,List.getElem?_eq_none (by omega)];rfl
  rw[hE];clear h hE;go_enter Tryz.func62,Tryz.ntmps62;go_wp2;go_ret;exact⟨rfl,(Below.refl _ _).alloc (Nat.le_refl _) _⟩
def isStr(n:Nat) (ext v s:Int):Bool:=decide (0≤v∧v<(n:Int)∧0≤s∧s<ext)
theorem iisStripe_any(x1 x2 x3 x4 x5:Value) (A:Option Addr) (n c:Nat) (ext v s:Int) (w:World) (hn:n≤16777216) :
  Calls Tryz.prog 49 #[.agg #[.int .i64 ext,x1,x2,x3,x4,x5,.slice A n c],.int .i64 v,.int .i64 s] w fun e w'=>e=.returned (.bool (isStr n ext v s))∧Below w.heap.size w w':=by
 by_cases h1:0≤v
 ·by_cases h2:v<(n:Int)
  ·by_cases h3:0≤s
   ·by_cases h4:s<ext
    ·rw[show isStr n ext v s=true from decide_eq_true ⟨h1,h2,h3,h4⟩];go_enter Tryz.func49,Tryz.ntmps49;go_wp2;go_ret;exact⟨rfl,(Below.refl _ _).alloc (Nat.le_refl _) _⟩
    ·rw[show isStr n ext v s=false from decide_eq_false (fun h=>h4 h.2.2.2)];go_enter Tryz.func49,Tryz.ntmps49;go_wp2;go_ret;exact⟨rfl,(Below.refl _ _).alloc (Nat.le_refl _) _⟩
   ·rw[show isStr n ext v s=false from decide_eq_false (fun h=>h3 h.2.2.1)];go_enter Tryz.func49,Tryz.ntmps49;go_wp2;go_ret;exact⟨rfl,(Below.refl _ _).alloc (Nat.le_refl _) _⟩
  ·rw[show isStr n ext v s=false from decide_eq_false (fun h=>h2 h.2.1)];go_enter Tryz.func49,Tryz.ntmps49;go_wp2;go_ret;exact⟨rfl,(Below.refl _ _).alloc (Nat.le_refl _) _⟩
 ·rw[show isStr n ext v s=false from decide_eq_false (fun h=>h1 h.1)];go_enter Tryz.func49,Tryz.ntmps49;go_wp2;go_ret;exact⟨rfl,(Below.refl _ _).alloc (Nat.le_refl _) _⟩
end Go.Proofs.YtcfkllnpkmebpaaGreatDoor

namespace Go.Proofs.YtcfkllnpkmebpaaGreatDoor
open Go.RowKit
set_option linter.unusedVariables false
set_option linter.unusedSimpArgs false
end Go.Proofs.YtcfkllnpkmebpaaGreatDoor
