/- Realities es read from memory; the version of a stripe, walked. -/
import Derived.Test.YtcfkllnpkmebpaaGreatDoorMj03
import Derived.Test.YtcfkllnpkmebpaaGreatDoorMj01
import Derived.DeepKeys4
import Derived.WideKeyEntry
import Derived.Maps.RangeWalk
set_option maxRecDepth 100000
set_option maxHeartbeats 12800000
namespace Go.Proofs.YtcfkllnpkmebpaaGreatDoor
open Go.RowKit
set_option linter.unusedVariables false
set_option linter.unusedSimpArgs false
def SlAt{α:Type} (size:Nat) (K:World→(Nat→Prop)→List Value→α→Prop) (w:World) (R:Nat→Prop) (es:List α) (b off:Nat):Prop :=
 ∀k a,es[k]?=some a→∃cs,cs.length=size∧(∀i c,cs[i]?=some c→w.cell? ⟨b,off+k * size+i,none⟩=some c)∧K w R cs a
def SlS{α:Type} (size:Nat) (K:World→(Nat→Prop)→List Value→α→Prop) (w:World) (R:Nat→Prop) (v:Value) (es:List α):Prop:=Row R v es.length (SlAt size K w R es)
structure Steady {α:Type} (K:World→(Nat→Prop)→List Value→α→Prop):Prop where
 keep:∀{w w':World} {R:Nat→Prop} {cs:List Value} {a:α},Kept R w w'→K w R cs a→K w' R cs a
 mono:∀{w:World} {R R':Nat→Prop} {cs:List Value} {a:α},(∀b,R b→R' b)→K w R cs a→K w R' cs a
theorem SlS.keep{α:Type} {size:Nat} {K:World→(Nat→Prop)→List Value→α→Prop} (hK:Steady K) {w w':World} {R:Nat→Prop} {v:Value} {es:List α} (h:SlS size K w R v es) (hk:Kept R w w'):SlS size K w' R v es :=
 Row.imp h (fun _ hb=>hb) fun b off hb hc k a ha=>by
  obtain⟨cs,h1,h2,h3⟩:=hc k a ha
  exact⟨cs,h1,fun i c hi=>(hk.cell hb).trans (h2 i c hi),hK.keep hk h3⟩
theorem SlS.mono{α:Type} {size:Nat} {K:World→(Nat→Prop)→List Value→α→Prop} (hK:Steady K) {w:World} {R R':Nat→Prop} {v:Value} {es:List α} (h:SlS size K w R v es) (hr:∀b,R b→R' b):SlS size K w R' v es :=
 Row.imp h hr fun b off _ hc k a ha=>by
  obtain⟨cs,h1,h2,h3⟩:=hc k a ha
  exact⟨cs,h1,h2,hK.mono hr h3⟩
theorem SlS.below{α:Type} {size:Nat} {K:World→(Nat→Prop)→List Value→α→Prop} (hK:Steady K) {w w':World} {v:Value} {es:List α} (h:SlS size K w (Bl w.heap.size) v es) (hb:Below w.heap.size w w'):SlS size K w' (Bl w'.heap.size) v es :=
 SlS.mono hK (SlS.keep hK h (kept_below hb)) (Bl.mono hb.size)
theorem SlS.form{α:Type} {size:Nat} {K:World→(Nat→Prop)→List Value→α→Prop} {w:World} {R:Nat→Prop} {v:Value} {es:List α} (h:SlS size K w R v es):∃A c,v=.slice A es.length c∧es.length≤c∧es.length≤maxLen:=by
 obtain⟨A',c',e,h1,h2,h3⟩:=h
 exact⟨A',c',e,h1,h2⟩
theorem SlS.at_{α:Type} {size:Nat} {K:World→(Nat→Prop)→List Value→α→Prop} {w:World} {R:Nat→Prop} {A:Option Addr} {n c:Nat} {es:List α} (h:SlS size K w R (.slice A n c) es) {k:Nat} (hk:k<es.length) :
  ∃b off cs,A=some ⟨b,off,none⟩∧R b∧cs.length=size∧(∀i c,cs[i]?=some c→w.cell? ⟨b,off+k * size+i,none⟩=some c)∧K w R cs es[k]:=by
 obtain⟨A',c',e,_,_,h3⟩:=h
 obtain⟨b,off,e2,hb,hc⟩:=h3 (by omega)
 obtain⟨cs,g1,g2,g3⟩:=hc k es[k] (List.getElem?_eq_getElem hk)
 injection e with e
 exact⟨b,off,cs,e.trans e2,hb,g1,g2,g3⟩
def StrK(w:World) (R:Nat→Prop) (cs:List Value) (s:ByteArray):Prop:=cs=[.string s]∧s.size≤maxLen
def BoolK(w:World) (R:Nat→Prop) (cs:List Value) (x:Bool):Prop:=cs=[.bool x]
structure Ac where
 vol:Int
 stripe:Int
 ver:Int
 side:Int
def AcK(w:World) (R:Nat→Prop) (cs:List Value) (a:Ac):Prop:=cs=[.int .i64 a.vol,.int .i64 a.stripe,.int .i64 a.ver,.int .i64 a.side]∧I64 a.vol∧I64 a.stripe∧I64 a.ver∧I64 a.side
def DrvK(w:World) (R:Nat→Prop) (cs:List Value) (l:List ByteArray):Prop:=∃v,cs=[v]∧SlS 1 StrK w R v l
theorem strK:Steady StrK:=⟨fun _ h=>h,fun _ h=>h⟩
theorem boolK:Steady BoolK:=⟨fun _ h=>h,fun _ h=>h⟩
theorem acK:Steady AcK:=⟨fun _ h=>h,fun _ h=>h⟩
theorem drvK:Steady DrvK:=⟨fun hk ⟨v,e,h⟩=>⟨v,e,SlS.keep strK h hk⟩,fun hr ⟨v,e,h⟩=>⟨v,e,SlS.mono strK h hr⟩⟩
structure Re where
 plat:List (List ByteArray)
 on:List Bool
 acks:List Ac
def ReS(w:World) (R:Nat→Prop) (vp vo va:Value) (r:Re):Prop:=SlS 1 DrvK w R vp r.plat∧SlS 1 BoolK w R vo r.on∧SlS 4 AcK w R va r.acks
theorem ReS.keep{w w':World} {R:Nat→Prop} {vp vo va:Value} {r:Re} (h:ReS w R vp vo va r) (hk:Kept R w w'):ReS w' R vp vo va r:=⟨SlS.keep drvK h.1 hk,SlS.keep boolK h.2.1 hk,SlS.keep acK h.2.2 hk⟩
theorem ReS.mono{w:World} {R R':Nat→Prop} {vp vo va:Value} {r:Re} (h:ReS w R vp vo va r) (hr:∀b,R b→R' b):ReS w R' vp vo va r:=⟨SlS.mono drvK h.1 hr,SlS.mono boolK h.2.1 hr,SlS.mono acK h.2.2 hr⟩
theorem ReS.below{w w':World} {vp vo va:Value} {r:Re} (h:ReS w (Bl w.heap.size) vp vo va r) (hb:Below w.heap.size w w'):ReS w' (Bl w'.heap.size) vp vo va r:=(h.keep (kept_below hb)).mono (Bl.mono hb.size)
def verOf(l:List Ac) (v s:Int):Option Int:=(l.find? fun a=>a.vol==v&&a.stripe==s).map (·.ver)
theorem verOf_take{l:List Ac} {v s:Int} {j:Nat} (h:verOf (l.take j) v s=none) (hj:j<l.length) (hn:¬(l[j].vol=v∧l[j].stripe=s)):verOf (l.take (j+1)) v s=none:=by
 unfold verOf at h ⊢
 rw[Option.map_eq_none_iff] at h ⊢
 rw[List.take_succ_eq_append_getElem hj,List.find?_append,h]
 have:(l[j].vol==v&&l[j].stripe==s)=false:=by
  rw[Bool.and_eq_false_iff]
  by_cases e:l[j].vol=v
  ·exact .inr (by rw[beq_eq_false_iff_ne];exact fun e2=>hn ⟨e,e2⟩)
  ·exact .inl (by rw[beq_eq_false_iff_ne];exact e)
 simp[List.find?,this]
theorem four{cs:List Value} {a b c d:Value} {w:World} {p o:Nat} (h:∀i c,cs[i]?=some c→w.cell? ⟨p,o+i,none⟩=some c) (e:cs=[a,b,c,d]) :
  w.cell? ⟨p,o,none⟩=some a∧w.cell? ⟨p,o+1,none⟩=some b∧w.cell? ⟨p,o+2,none⟩=some c∧w.cell? ⟨p,o+3,none⟩=some d:=by
 subst e
 exact⟨h 0 _ rfl,h 1 _ rfl,h 2 _ rfl,h 3 _ rfl⟩
end Go.Proofs.YtcfkllnpkmebpaaGreatDoor

namespace Go.Proofs.YtcfkllnpkmebpaaGreatDoor
open Go.RowKit
set_option linter.unusedVariables false
set_option linter.unusedSimpArgs false
theorem IntS.form7{w:World} {R:Nat→Prop} {v:Value} {xs:List Int} (h:IntS w R v xs):∃A c,v=.slice A xs.length c∧xs.length≤c∧xs.length≤maxLen:=by
 obtain⟨⟨A,c,h1,h2,h3,-⟩,-⟩:=h
 exact⟨A,c,h1,h2,h3⟩
theorem IntS.at7{w:World} {R:Nat→Prop} {A:Option Addr} {n c:Nat} {xs:List Int} (h:IntS w R (.slice A n c) xs) {k:Nat} (hk:k<xs.length):∃b off,A=some ⟨b,off,none⟩∧R b∧w.cell? ⟨b,off+k,none⟩=some (.int .i64 xs[k])∧I64 xs[k]:=by
 obtain⟨⟨A',c',e,_,_,h3⟩,h4⟩:=h
 obtain⟨b,off,e2,hb,hc⟩:=h3 (by omega)
 injection e with e
 exact⟨b,off,e.trans e2,hb,hc k _ (List.getElem?_eq_getElem hk),h4 _ (List.getElem_mem hk)⟩
def isB(p:Pc) (v f s:Int):Bool:=p.vol==v&&p.frag==f&&p.stripe==s
def onB(r:Re) (d:Nat):Bool:=r.on.getD d false
theorem on_any(vp vo va:Value) (r:Re) (d:Nat) (w:World) (h:ReS w (Bl w.heap.size) vp vo va r) (hd:d≤1048576) :
  Calls Tryz.prog 186 #[.agg #[vp,vo,va],.int .i64 (d:Int)] w fun e w'=>e=.returned (.bool (onB r d))∧Below w.heap.size w w':=by
 obtain⟨A,c,rfl,-,hm⟩:=h.2.1.form
 unfold maxLen at hm
 by_cases hlt:d<r.on.length
 ·obtain⟨b,off,cs,rfl,hR,-,hc,hk⟩:=h.2.1.at_ hlt
  have hk':cs=[.bool r.on[d]]:=hk
  have hcell:=hc 0 (.bool r.on[d]) (by rw[hk'];rfl)
  simp only[Nat.mul_one,Nat.add_zero] at hcell
  have hcell2:(w.alloc (.cells #[vp,.slice (some ⟨b,off,none⟩) r.on.length c,va] 40)).cell? ⟨b,off+d,none⟩=some (.bool r.on[d]) :=
   (((Below.refl w.heap.size w).alloc (Nat.le_refl _) _).cell (p:=⟨b,off+d,none⟩) hR).trans hcell
  have hE:onB r d=r.on[d]:=getD_lt _ _ hlt
  rw[hE]
  generalize r.on[d]=x at *
  clear hc hk hk' hcell h hE
  go_enter Tryz.func186,Tryz.ntmps186
  go_wp2
  go_ret
  exact⟨rfl,(Below.refl _ _).alloc (Nat.le_refl _) _⟩
 ·have hE:onB r d=false:=by unfold onB;rw[List.getD,List.getElem?_eq_none (by omega)];rfl
  rw[hE]
  clear h hE
  go_enter Tryz.func186,Tryz.ntmps186
  go_wp2
  go_ret
  exact⟨rfl,(Below.refl _ _).alloc (Nat.le_refl _) _⟩
theorem online_any(vp vo va:Value) (r:Re) (d:Nat) (w:World) (h:ReS w (Bl w.heap.size) vp vo va r) (hd:d≤1048576) :
  Calls Tryz.prog 74 #[.agg #[vp,vo,va],.int .i64 (d:Int)] w fun e w'=>e=.returned (.bool (onB r d))∧Below w.heap.size w w':=by
 obtain⟨A,c,rfl,-,hm⟩:=h.2.1.form
 unfold maxLen at hm
 by_cases hlt:d<r.on.length
 ·obtain⟨b,off,cs,rfl,hR,-,hc,hk⟩:=h.2.1.at_ hlt
  have hk':cs=[.bool r.on[d]]:=hk
  have hcell:=hc 0 (.bool r.on[d]) (by rw[hk'];rfl)
  simp only[Nat.mul_one,Nat.add_zero] at hcell
  have hcell2:(w.alloc (.cells #[vp,.slice (some ⟨b,off,none⟩) r.on.length c,va] 40)).cell? ⟨b,off+d,none⟩=some (.bool r.on[d]) :=
   (((Below.refl w.heap.size w).alloc (Nat.le_refl _) _).cell (p:=⟨b,off+d,none⟩) hR).trans hcell
  have hE:onB r d=r.on[d]:=getD_lt _ _ hlt
  rw[hE]
  generalize r.on[d]=x at *
  clear hc hk hk' hcell h hE
  go_enter Tryz.func74,Tryz.ntmps74
  go_wp2
  go_ret
  exact⟨rfl,(Below.refl _ _).alloc (Nat.le_refl _) _⟩
 ·have hE:onB r d=false:=by unfold onB;rw[List.getD,List.getElem?_eq_none (by omega)];rfl
  rw[hE]
  clear h hE
  go_enter Tryz.func74,Tryz.ntmps74
  go_wp2
  go_ret
  exact⟨rfl,(Below.refl _ _).alloc (Nat.le_refl _) _⟩
end Go.Proofs.YtcfkllnpkmebpaaGreatDoor

namespace Go.Proofs.YtcfkllnpkmebpaaGreatDoor
open Go.RowKit
set_option linter.unusedVariables false
set_option linter.unusedSimpArgs false
structure Fd where
 drive:Nat
 p:Pc
def FdC(f:Fd):List Value:=[.int .i64 (f.drive:Int),.int .i64 f.p.vol,.int .i64 f.p.frag,.int .i64 f.p.stripe,.int .i64 f.p.gen,.int .i64 f.p.ver,.string ⟨f.p.data.toArray⟩]
def goodP(acks:List Ac) (s:ByteArray):Option Pc :=
 if decEr s.data.toList=0∧verOf acks (decP s.data.toList).vol (decP s.data.toList).stripe=some (decP s.data.toList).ver then some (decP s.data.toList) else none
def drvP(acks:List Ac) (d:Nat) (l:List ByteArray):List Fd:=l.filterMap fun s=>(goodP acks s).map fun p=>⟨d,p⟩
def piecesTo(r:Re) (d:Nat):List Fd:=(List.range d).flatMap fun d=>drvP r.acks d (r.plat.getD d [])
def pieces(r:Re):List Fd:=piecesTo r r.plat.length
theorem piecesTo_succ(r:Re) (d:Nat):piecesTo r (d+1)=piecesTo r d++drvP r.acks d (r.plat.getD d []):=by simp[piecesTo,List.range_succ]
theorem drvP_succ(acks:List Ac) (d:Nat) (l:List ByteArray) (j:Nat) (h:j<l.length):drvP acks d (l.take (j+1))=drvP acks d (l.take j)++(match goodP acks l[j] with | some p=>[⟨d,p⟩] | none=>[]):=by
 unfold drvP
 rw[List.take_succ_eq_append_getElem h,List.filterMap_append]
 congr 1
 cases hg:goodP acks l[j] <;> simp[List.filterMap_cons,hg]
theorem drvP_yes{acks:List Ac} {d:Nat} {l:List ByteArray} {j:Nat} (h:j<l.length) {p:Pc} (hg:goodP acks l[j]=some p):drvP acks d (l.take (j+1))=drvP acks d (l.take j)++[⟨d,p⟩]:=by rw[drvP_succ _ _ _ _ h,hg]
theorem drvP_no{acks:List Ac} {d:Nat} {l:List ByteArray} {j:Nat} (h:j<l.length) (hg:goodP acks l[j]=none):drvP acks d (l.take (j+1))=drvP acks d (l.take j):=by rw[drvP_succ _ _ _ _ h,hg,List.append_nil]
theorem drvP_length(acks:List Ac) (d:Nat) (l:List ByteArray):(drvP acks d l).length≤l.length:=List.length_filterMap_le _ _
theorem piecesTo_length(r:Re) (m:Nat) (hm:∀l∈r.plat,l.length≤m):∀d,(piecesTo r d).length≤d * m:=by
 intro d
 induction d with
 | zero=>simp[piecesTo]
 | succ d ih =>
  rw[piecesTo_succ,List.length_append]
  have h1:=drvP_length r.acks d (r.plat.getD d [])
  have h2:(r.plat.getD d []).length≤m:=by
   by_cases h:d<r.plat.length
   ·rw[getD_lt _ _ h];exact hm _ (List.getElem_mem h)
   ·rw[List.getD,List.getElem?_eq_none (by omega)];simp
  rw[Nat.succ_mul]
  omega
def OwnFd(w:World) (base:Nat) (e:TypeId) (v:Value) (fs:List Fd):Prop:=w.ownsRow base e 7 v fs.length (fs.flatMap FdC)
theorem flat_one(fs:List Fd) (f:Fd):(fs++[f]).flatMap FdC=fs.flatMap FdC++FdC f:=by simp
end Go.Proofs.YtcfkllnpkmebpaaGreatDoor

namespace Go.Proofs.YtcfkllnpkmebpaaGreatDoor
open Go.RowKit
set_option linter.unusedVariables false
set_option linter.unusedSimpArgs false
end Go.Proofs.YtcfkllnpkmebpaaGreatDoor

namespace Go.Proofs.YtcfkllnpkmebpaaGreatDoor
open Go.RowKit
set_option linter.unusedVariables false
set_option linter.unusedSimpArgs false
def FdK(w:World) (R:Nat→Prop) (cs:List Value) (f:Fd):Prop:=cs=FdC f∧f.drive≤1048576
theorem fdK:Steady FdK:=⟨fun _ h=>h,fun _ h=>h⟩
theorem flat_at7:∀(fs:List Fd) (k:Nat) (f:Fd),fs[k]?=some f→∀i c,(FdC f)[i]?=some c→(fs.flatMap FdC)[k * 7+i]?=some c
 | [],k,f,h=>by simp at h
 | x :: r,0,f,h=>by
  simp at h;subst h
  intro i c hc
  have hi:i<(FdC x).length:=(List.getElem?_eq_some_iff.1 hc).1
  rw[List.flatMap_cons,Nat.zero_mul,Nat.zero_add,List.getElem?_append_left hi];exact hc
 | x :: r,k+1,f,h=>by
  intro i c hc
  have hl:(FdC x).length=7:=rfl
  rw[List.flatMap_cons,List.getElem?_append_right (by rw[hl];omega),hl]
  have:=flat_at7 r k f (by simpa using h) i c hc
  rw[←this]
  congr 1
  omega
theorem OwnFd.slS{w:World} {base:Nat} {e:TypeId} {v:Value} {fs:List Fd} (h:OwnFd w base e v fs) (hd:∀f∈fs,f.drive≤1048576):SlS 7 FdK w (Fr base w.heap.size) v fs:=by
 have h1:w.ownsRow base e 7 v fs.length (fs.flatMap FdC):=h
 have hc:=fun g=>h1.cells (g:=g)
 have hlt:=h1.lt
 rcases h1.2 with ⟨rfl,h0⟩ | ⟨g,cap,cur,rfl,_,_,h2,h3,_⟩
 ·unfold SlS;rw[h0];exact Row.nil _ _ _
 ·refine⟨_,cap,rfl,h2,Nat.le_trans h2 h3,fun _=>⟨g,0,rfl,hlt g rfl,fun k f hf=>⟨FdC f,rfl,fun i c hi=>?_,rfl,hd f (List.mem_of_getElem? hf)⟩⟩⟩
  have e1:∀j,(⟨g,0,none⟩:Addr).add j=⟨g,0+j,none⟩:=fun j=>by unfold Addr.add;split <;> simp_all
  rw[Nat.add_assoc,←e1]
  exact hc g rfl _ _ (flat_at7 fs k f hf i c hi)
theorem piecesTo_drive(r:Re) (d:Nat):∀f∈piecesTo r d,f.drive<d:=by
 intro f hf
 simp only[piecesTo,List.mem_flatMap,List.mem_range] at hf
 obtain⟨k,hk,hm⟩:=hf
 unfold drvP at hm
 rw[List.mem_filterMap] at hm
 obtain⟨s,-,hs⟩:=hm
 cases hg:goodP r.acks s with
 | none=>rw[hg] at hs;cases hs
 | some p=>rw[hg] at hs;simp at hs;rw[←hs];exact hk
def srcB(r:Re) (v f s:Int) (on:Bool) (x:Fd):Bool:=isB x.p v f s&&(!on||onB r x.drive)
def srcI(r:Re) (l:List Fd) (v f s:Int) (on:Bool):Int:=match l.findIdx? (srcB r v f s on) with | some i=>(i:Int) | none => -1
theorem seven{cs:List Value} {f:Fd} {w:World} {b o:Nat} (h:∀i c,cs[i]?=some c→w.cell? ⟨b,o+i,none⟩=some c) (e:cs=FdC f) :
  w.cell? ⟨b,o,none⟩=some (.int .i64 (f.drive:Int))∧w.cell? ⟨b,o+1,none⟩=some (.int .i64 f.p.vol)∧w.cell? ⟨b,o+2,none⟩=some (.int .i64 f.p.frag)∧w.cell? ⟨b,o+3,none⟩=some (.int .i64 f.p.stripe)∧w.cell? ⟨b,o+4,none⟩=some (.int .i64 f.p.gen)∧w.cell? ⟨b,o+5,none⟩=some (.int .i64 f.p.ver)∧w.cell? ⟨b,o+6,none⟩=some (.string ⟨f.p.data.toArray⟩):=by
 subst e
 exact⟨h 0 _ rfl,h 1 _ rfl,h 2 _ rfl,h 3 _ rfl,h 4 _ rfl,h 5 _ rfl,h 6 _ rfl⟩
end Go.Proofs.YtcfkllnpkmebpaaGreatDoor

namespace Go.Proofs.YtcfkllnpkmebpaaGreatDoor
open Go.RowKit
set_option linter.unusedVariables false
set_option linter.unusedSimpArgs false
end Go.Proofs.YtcfkllnpkmebpaaGreatDoor

namespace Go.Proofs.YtcfkllnpkmebpaaGreatDoor
open Go.RowKit
set_option linter.unusedVariables false
set_option linter.unusedSimpArgs false
def OwnI(w:World) (base:Nat) (v:Value) (xs:List Int):Prop:=w.ownsRow base 3 1 v xs.length (xs.map (Value.int .i64))
theorem OwnI.nil(w:World) (base:Nat):OwnI w base (.slice none 0 0) []:=World.ownsRow_nil _ _ _ _
theorem OwnI.base{w:World} {B B':Nat} {v:Value} {xs:List Int} (h:OwnI w B v xs) (hB:B'≤B):OwnI w B' v xs:=own_base h hB
theorem OwnI.intS{w:World} {base:Nat} {v:Value} {xs:List Int} (h:OwnI w base v xs) (hx:∀x∈xs,I64 x):IntS w (Fr base w.heap.size) v xs :=
 IntS.own h (fun b hb=>h.lt b hb) hx
theorem OwnI.lt{w:World} {base:Nat} {v:Value} {xs:List Int} (h:OwnI w base v xs):∀b,v.ownBlock=some b→base≤b∧b<w.heap.size:=World.ownsRow.lt h
theorem OwnI.form{w:World} {base:Nat} {v:Value} {xs:List Int} (h:OwnI w base v xs):∃A c,v=.slice A xs.length c:=own_form h
theorem info_int2:(Tryz.prog.info? 3).map (fun i=>(i.zero,i.size,i.bytes))=some (some (.int .i64 0),1,8):=by kernel_rfl
theorem app_i{ops:Array Oper} {rest:List Oper} {o:Oper} {a:Act} {Q:Exit→Act→World→Prop} {w:World} (x0:Int) (s x:Operand) (hgd:o.guard=none) (ho:o.op=.call { callee:=.builtin .append,args:=#[s,x],argTypes:=#[22,22] })
  (base:Nat) (v:Value) (n:Nat) (xs:List Int) (hl:xs.length=n) (hs:a.eval s=v) (hown:w.ownsRow base 3 1 v n (xs.map (Value.int .i64)))
  (hx:a.eval x=.slice (some ⟨w.heap.size,0,none⟩) 1 1) (hn:n+1≤16777216) (hbase:base≤w.heap.size)
  (h:∀v' w',OwnI w' base v' (xs++[x0])→w.grownBy w' v.ownBlock→(v'.ownBlock=v.ownBlock∨v'.ownBlock=some (w.heap.size+1))→wpList Tryz.prog ops Q rest (a.put o.dst v') w') :
  wpList Tryz.prog ops Q (o :: rest) a (w.alloc (.cells #[.int .i64 x0] 3)):=by
 obtain⟨i0,hi0,hz0,hz1,hz2⟩:=info_parts info_int2
 refine wpList_append1 hgd s x _ ho base i0 _ 1 8 Tryz.underlying22 hi0 hz0 hz1 hz2 rfl (by omega) (by omega) v n _ hs hown hx rfl (by simp;rfl) hn hbase (fun v' w' h1=>h v' w' ?_)
 unfold OwnI
 rw[List.length_append,hl,List.map_append]
 exact h1
def intTo(r:Re) (l:List Fd) (v s:Int) (on:Bool) (j:Nat):List Int:=(List.range j).filterMap fun i:Nat=>if 0≤srcI r l v (i:Int) s on then some (i:Int) else none
theorem intTo_succ(r:Re) (l:List Fd) (v s:Int) (on:Bool) (j:Nat):intTo r l v s on (j+1)=intTo r l v s on j++(if 0≤srcI r l v (j:Int) s on then [(j:Int)] else []):=by
 unfold intTo
 rw[List.range_succ,List.filterMap_append]
 congr 1
 by_cases h:0≤srcI r l v (j:Int) s on <;> simp[h]
theorem OwnFd.slBl{w:World} {base:Nat} {e:TypeId} {v:Value} {fs:List Fd} (h:OwnFd w base e v fs) (hd:∀f∈fs,f.drive≤1048576):SlS 7 FdK w (Bl w.heap.size) v fs:=SlS.mono fdK (h.slS hd) (fun _ hb=>hb.2)
def intI(r:Re) (v s:Int) (on:Bool):List Int:=intTo r (pieces r) v s on 8
theorem pieces_drive(r:Re) (hp:r.plat.length≤1048576):∀f∈pieces r,f.drive≤1048576:=fun f hf=>by have:=piecesTo_drive r _ f hf;omega
end Go.Proofs.YtcfkllnpkmebpaaGreatDoor

namespace Go.Proofs.YtcfkllnpkmebpaaGreatDoor
open Go.RowKit
set_option linter.unusedVariables false
set_option linter.unusedSimpArgs false
def gStep(v f s:Int) (acc:List Int) (x:Fd):List Int:=if isB x.p v f s=true∧acc.getLast?≠some (x.drive:Int) then acc++[(x.drive:Int)] else acc
def goodTo(v f s:Int) (l:List Fd):List Int:=l.foldl (gStep v f s) []
def goodI(r:Re) (v f s:Int):List Int:=goodTo v f s (pieces r)
theorem gStep_off{v f s:Int} {acc:List Int} {x:Fd} (h:isB x.p v f s=false):gStep v f s acc x=acc:=by unfold gStep;rw[if_neg (fun h2=>by rw[h] at h2;cases h2.1)]
theorem gStep_new{v f s:Int} {acc:List Int} {x:Fd} (h:isB x.p v f s=true) (h2:acc.getLast?≠some (x.drive:Int)):gStep v f s acc x=acc++[(x.drive:Int)]:=by unfold gStep;rw[if_pos ⟨h,h2⟩]
theorem gStep_length(v f s:Int) (acc:List Int) (x:Fd):(gStep v f s acc x).length≤acc.length+1:=by unfold gStep;split <;> simp
theorem goodTo_length(v f s:Int) (l:List Fd):(goodTo v f s l).length≤l.length:=by
 have:∀(l:List Fd) (acc:List Int),(l.foldl (gStep v f s) acc).length≤acc.length+l.length:=by
  intro l
  induction l with
  | nil=>intro acc;simp
  | cons x l ih =>
   intro acc
   have h1:=ih (gStep v f s acc x)
   have h2:=gStep_length v f s acc x
   simp only[List.foldl_cons,List.length_cons]
   omega
 simpa[goodTo] using this l []
theorem goodTo_mem(v f s:Int) (l:List Fd):∀y∈goodTo v f s l,∃x∈l,y=(x.drive:Int):=by
 have:∀(l:List Fd) (acc:List Int),∀y∈l.foldl (gStep v f s) acc,y∈acc∨∃x∈l,y=(x.drive:Int):=by
  intro l
  induction l with
  | nil=>intro acc y hy;exact .inl hy
  | cons x l ih =>
   intro acc y hy
   rcases ih _ y hy with h | ⟨z,hz,e⟩
   ·unfold gStep at h
    split at h
    ·rcases List.mem_append.1 h with h | h
     ·exact .inl h
     ·exact .inr ⟨x,by simp,by simpa using h⟩
    ·exact .inl h
   ·exact .inr ⟨z,List.mem_cons_of_mem _ hz,e⟩
 intro y hy
 rcases this l [] y hy with h | h
 ·cases h
 ·exact h
end Go.Proofs.YtcfkllnpkmebpaaGreatDoor

namespace Go.Proofs.YtcfkllnpkmebpaaGreatDoor
open Go.RowKit
open Go.ChangeMaps Go.MapKept Go.WideShapes
open Go.WideElems (Fit rd rg pl rd_key rd_val rg_of)
open Go.Maps (Keyed)
set_option linter.unusedVariables false
set_option linter.unusedSimpArgs false
def kv(a b:Int):Value:=.agg #[.int .i64 a,.int .i64 b]
theorem kv_inj{a b c d:Int} (h:kv a b=kv c d):a=c∧b=d:=by
 unfold kv at h
 simp at h
 exact h
def rawR(v:Value):Option (DataW Value×List MemPlace):=some (.held v,[])
structure TwoKey (kt:TypeId):Prop where
 law:Keyed Tryz.prog kt
 wide:WideMaps.KeyLaw Tryz.prog kt
 lit:∀a b,I64 a→I64 b→∃l,keyOf Tryz.prog kt (kv a b)=some l
 inv:∀v l,keyOf Tryz.prog kt v=some l→∃a b,v=kv a b∧I64 a∧I64 b
theorem i64_wf(a:Int):(Lit.int .i64 a).wf=true↔I64 a:=by
 unfold I64
 have h1:IntKind.i64.min = -9223372036854775808:=by decide
 have h2:IntKind.i64.max=9223372036854775807:=by decide
 simp[Lit.wf,h1,h2]
theorem laidOut17:laidOutB Tryz.prog=true:=by kernel_rfl
theorem key_row:(147:TypeId)<Tryz.prog.types.size:=of_decide_eq_true (by kernel_rfl)
theorem key_wide:(match Tryz.prog.underlying 147 with | some (.array _ _) | some (.struct _)=>true | _=>false)=true:=by rw[Tryz.underlying147]
theorem key_law:WideMaps.KeyLaw Tryz.prog 147:=deep_law_laid laidOut17 (m:=2) (by omega) key_row (by kernel_rfl) key_wide
theorem key_type:Tryz.prog.keyType 147=true:=by kernel_rfl
theorem key_cells:Tryz.prog.cellsOf 147=2:=by kernel_rfl
theorem int_cells:Tryz.prog.cellsOf 3=1:=by kernel_rfl
theorem key_lits(n:Nat) (a b:Int) (ha:I64 a) (hb:I64 b):Tryz.prog.keyLits (n+2) 147 [.int .i64 a,.int .i64 b]=some [.int .i64 a,.int .i64 b]:=by
 have h1:=(i64_wf a).2 ha
 have h2:=(i64_wf b).2 hb
 simp[Program.keyLits,Tryz.underlying147,Tryz.underlying3,key_cells,int_cells,h1,h2]
theorem key_lits_inv(n:Nat) (cs:List Value) (l:List Lit) (h:Tryz.prog.keyLits (n+2) 147 cs=some l):∃a b,cs=[.int .i64 a,.int .i64 b]∧I64 a∧I64 b:=by
 simp[Program.keyLits,Tryz.underlying147,Tryz.underlying3,key_cells,int_cells] at h
 obtain⟨hl,h⟩:=h
 match cs,hl with
 | [x,y],hxl =>
  simp at h
  clear hxl
  cases x
  case int q a =>
   by_cases hq:q=.i64∧(Lit.int .i64 a).wf=true
   ·obtain⟨rfl,hwa⟩:=hq
    cases y
    case int q2 b =>
     by_cases hq2:q2=.i64∧(Lit.int .i64 b).wf=true
     ·obtain⟨rfl,hwb⟩:=hq2
      exact⟨a,b,rfl,(i64_wf a).1 hwa,(i64_wf b).1 hwb⟩
     ·exfalso
      by_cases hq3:q2=.i64
      ·subst hq3
       have:(Lit.int .i64 b).wf=false:=by rw[Bool.eq_false_iff];exact fun e=>hq2 ⟨rfl,e⟩
       simp[hwa,this] at h
      ·simp[hwa,hq3] at h
    all_goals (exfalso;simp[hwa] at h)
   ·exfalso
    by_cases hq3:q=.i64
    ·subst hq3
     have:(Lit.int .i64 a).wf=false:=by rw[Bool.eq_false_iff];exact fun e=>hq ⟨rfl,e⟩
     simp[this] at h
    ·simp[hq3] at h
  all_goals (exfalso;simp at h)
theorem types_pos:∃n,Tryz.prog.types.size+1=n+2:=by
 have h:=key_row
 revert h
 generalize Tryz.prog.types.size=s
 intro h
 have h2:(147:Nat)<s:=h
 exact⟨s - 1,by omega⟩
theorem key_two:TwoKey 147 where
 law:=Keyed.of_law key_law
 wide:=key_law
 lit a b ha hb:=by
  obtain⟨n,hn⟩:=types_pos
  have h1:=key_lits n a b ha hb
  refine⟨.string (keyBytes [.int .i64 a,.int .i64 b]),?_⟩
  unfold keyOf
  rw[Tryz.underlying147,hn]
  simp[key_type,Value.formed,Tryz.underlying147,key_cells,kv,Value.cells,h1]
 inv v l h:=by
  obtain⟨n,hn⟩:=types_pos
  unfold keyOf at h
  rw[Tryz.underlying147,hn] at h
  simp[key_type] at h
  obtain⟨hf,ls,hk,-⟩:=h
  obtain⟨a,b,e,ha,hb⟩:=key_lits_inv n _ _ hk
  refine⟨a,b,?_,ha,hb⟩
  cases v <;> simp[Value.formed,Tryz.underlying147] at hf
  rename_i cs
  unfold kv
  simp[Value.cells] at e
  congr 1
  exact Array.ext' (by simpa using e)
def MapKV(w:World) (kt:TypeId) (b n:Nat) (f:Int→Int→Option Value):Prop :=
 ∃D,w.ownsMap Tryz.prog kt rawR b n D∧∀x y l,keyOf Tryz.prog kt (kv x y)=some l→Maps.has D l=(f x y).isSome∧∀z,D.atKey l (.held z)=.held ((f x y).getD z)
def upd(f:Int→Int→Option Value) (x y:Int) (v:Value):Int→Int→Option Value:=fun a b=>if a=x∧b=y then some v else f a b
theorem upd_same(f:Int→Int→Option Value) (x y:Int) (v:Value):upd f x y v x y=some v:=if_pos ⟨rfl,rfl⟩
theorem upd_other{f:Int→Int→Option Value} {x y:Int} {v:Value} {a b:Int} (h:¬(a=x∧b=y)):upd f x y v a b=f a b:=if_neg h
theorem MapKV.made(w:World) (kt:TypeId):MapKV (w.alloc (.map #[] 0)) kt w.heap.size 0 (fun _ _=>none) :=
 ⟨_,World.ownsMap_made w Tryz.prog kt rawR,fun x y l _=>⟨rfl,fun z=>rfl⟩⟩
theorem MapKV.lt{w:World} {kt:TypeId} {b n:Nat} {f:Int→Int→Option Value} (h:MapKV w kt b n f):b<w.heap.size:=by
 obtain⟨D,h1,-⟩:=h
 exact h1.lt
theorem MapKV.kept{w w':World} {kt:TypeId} {b n:Nat} {f:Int→Int→Option Value} {row:Option Nat} (h:MapKV w kt b n f) (hg:w.grownBy w' row) (hne:some b≠row):MapKV w' kt b n f:=by
 obtain⟨D,h1,h2⟩:=h
 exact⟨D,h1.kept hg hne,h2⟩
theorem MapKV.same{w w':World} {kt:TypeId} {b n:Nat} {f:Int→Int→Option Value} (h:MapKV w kt b n f) (e:w'.heap[b]?=w.heap[b]?):MapKV w' kt b n f:=by
 obtain⟨D,⟨es,clock,hb,r⟩,h2⟩:=h
 exact⟨D,⟨es,clock,e.trans hb,r⟩,h2⟩
theorem MapKV.below{w w':World} {kt:TypeId} {b n B:Nat} {f:Int→Int→Option Value} (h:MapKV w kt b n f) (hb:Below B w w') (hB:b<B):MapKV w' kt b n f:=h.same (hb.block b hB)
theorem rawR_inj{v:Value} {d:DataW Value} {ps:List MemPlace} (h:rawR v=some (d,ps)):d=.held v:=by
 unfold rawR at h
 injection h with h
 injection h with h1 h2
 exact h1.symm
theorem held_inj{a b:Value} (h:(DataW.held a:DataW Value)=.held b):a=b:=by injection h
section
variable {w : World} {kt t e : TypeId} {b n : Nat} {f : Int → Int → Option Value} {x y : Int} {z : Value}
theorem MapKV.look(T:TwoKey kt) (h:MapKV w kt b n f) (ht:Tryz.prog.underlying t=some (.map kt e)) (hz:(zeroValue e).run Tryz.prog w=.ok z w) (hx:I64 x) (hy:I64 y) :
  (Instr.lookup t (.map (some b)) (kv x y) false).run Tryz.prog w=.ok ((f x y).getD z) w:=by
 obtain⟨D,h1,h2⟩:=h
 obtain⟨l,hl⟩:=T.lit x y hx hy
 obtain⟨v,ps,hrun,hv⟩:=h1.lookup T.law ht hz (zd:=.held z) (zp:=[]) rfl hl
 rw[(h2 x y l hl).2 z] at hv
 rw[hrun,held_inj (rawR_inj hv)]
theorem MapKV.look_ok(T:TwoKey kt) (h:MapKV w kt b n f) (ht:Tryz.prog.underlying t=some (.map kt e)) (hz:(zeroValue e).run Tryz.prog w=.ok z w) (hx:I64 x) (hy:I64 y) :
  (Instr.lookup t (.map (some b)) (kv x y) true).run Tryz.prog w=.ok (.tuple #[(f x y).getD z,.bool (f x y).isSome]) w:=by
 obtain⟨D,h1,h2⟩:=h
 obtain⟨l,hl⟩:=T.lit x y hx hy
 obtain⟨v,ps,hrun,hv⟩:=h1.look_ok T.law ht hz (zd:=.held z) (zp:=[]) rfl hl
 rw[(h2 x y l hl).2 z] at hv
 rw[hrun,(h2 x y l hl).1,held_inj (rawR_inj hv)]
theorem put_upd{D:DataW Value} {l:Lit} {v:Value} (T:TwoKey kt) (hD:Maps.IsMap D) (h2:∀x y l,keyOf Tryz.prog kt (kv x y)=some l→Maps.has D l=(f x y).isSome∧∀z,D.atKey l (.held z)=.held ((f x y).getD z)) (hl:keyOf Tryz.prog kt (kv x y)=some l) :
  ∀a c l',keyOf Tryz.prog kt (kv a c)=some l'→Maps.has (D.put l (.held v)) l'=(upd f x y v a c).isSome∧∀z,(D.put l (.held v)).atKey l' (.held z)=.held ((upd f x y v a c).getD z):=by
 intro a c l' hl'
 by_cases hk:a=x∧c=y
 ·obtain⟨rfl,rfl⟩:=hk
  rw[hl'] at hl
  injection hl with hl
  subst hl
  rw[upd_same]
  exact⟨Maps.has_put_same hD (T.law.key hl') _,fun z=>Maps.atKey_put_same hD (T.law.key hl') _ _⟩
 ·rw[upd_other hk]
  have hne:l'≠l:=fun e=>hk (kv_inj (T.law.inj hl' (e▸hl)))
  exact⟨by rw[Maps.has_put_other hne];exact(h2 a c l' hl').1,fun z=>by rw[Maps.atKey_put_other hne];exact(h2 a c l' hl').2 z⟩
theorem MapKV.store(T:TwoKey kt) (h:MapKV w kt b n f) (ht:Tryz.prog.underlying t=some (.map kt e)) (hn:n<maxLen) (hx:I64 x) (hy:I64 y) (v:Value) :
  ∃w',(Instr.mapUpdate t (.map (some b)) (kv x y) v).run Tryz.prog w=.ok () w'∧MapKV w' kt b (n+1) (upd f x y v)∧w.grownBy w' (some b):=by
 obtain⟨D,h1,h2⟩:=h
 obtain⟨l,hl⟩:=T.lit x y hx hy
 obtain⟨w',hrun,r1,r2⟩:=h1.update T.law ht hn hl (d:=.held v) (ps:=[]) rfl
 exact⟨w',hrun,⟨_,r1,put_upd T h1.isMap h2 hl⟩,r2⟩
theorem setBlock_grown{w:World} {b:Nat} {es:Array MapEntry} {clock:Nat} {o':Obj} (hb:w.heap[b]?=some (.map es clock)):w.grownBy (setBlock w b o') (some b):=⟨rfl,rfl,rfl,by simp[setBlock],fun i _ hi=>heap_setBlock_other hb _ (fun e=>hi (by rw[e]))⟩
theorem MapKV.entry(T:TwoKey kt) (h:MapKV w kt b n f) (ht:Tryz.prog.underlying t=some (.map kt e)) (hz:∀u:World,(zeroValue e).run Tryz.prog u=.ok z u) (hn:n<maxLen) (hx:I64 x) (hy:I64 y) :
  ∃(st:Nat) (w1:World),(Instr.mapEntry t (.map (some b)) (kv x y)).run Tryz.prog w=.ok (.tuple #[(f x y).getD z,goInt st]) w1∧w.grownBy w1 (some b) ∧
   ∀(w2:World) (v:Value),w2.heap[b]?=w1.heap[b]?→∃w3,(Instr.entryStore t (.map (some b)) (goInt st) v).run Tryz.prog w2=.ok () w3∧MapKV w3 kt b (n+1) (upd f x y v)∧w2.grownBy w3 (some b):=by
 have h0:=h
 obtain⟨D,h1,h2⟩:=h
 obtain⟨l,hl⟩:=T.lit x y hx hy
 obtain⟨es,clock,hb,F,hs,rfl⟩:=h1
 obtain⟨v0,st,es1,clock1,hrun,hv0,hst⟩:=WideElems.entry_then_store T.wide ht hz hb F hl
 have hv:v0=(f x y).getD z:=by
  rcases Maps.fit_look false T.law ht (hz w) hb F hl with ⟨_,hno,hat⟩ | ⟨e0,u,he0,hk0,_,hRv,hat,_⟩
  ·rcases hv0 with ⟨e1,he1,hk1,-⟩ | ⟨-,e1⟩
   ·exact absurd hk1 (hno e1 he1)
   ·have:=(h2 x y l hl).2 z
    rw[hat] at this
    rw[e1];exact held_inj this
  ·rcases hv0 with ⟨e1,he1,hk1,e2⟩ | ⟨hno,-⟩
   ·have hst2:=(stamped_iff es clock).1 F.stamped
    have e3:=entry_eq_of_key hst2.2.2 he1 he0 (hk1.trans hk0.symm)
    have:=(h2 x y l hl).2 z
    rw[hat] at this
    have e4:u.1=.held e0.val:=rawR_inj (ps:=u.2) hRv
    rw[e4] at this
    rw[e2,e3];exact held_inj this
   ·exact absurd hk0 (hno e0 he0)
 refine⟨st,_,by rw[hrun,hv],setBlock_grown hb,fun w2 v hw2=>?_⟩
 have hw2':w2.heap[b]?=some (.map es1 clock1):=hw2.trans (heap_setBlock_same hb _)
 obtain⟨es',clock',r1,r2⟩:=hst w2 v hw2'
 obtain⟨w',hrun',r3,r4⟩:=MapKV.store T h0 ht hn hx hy v
 rw[hrun'] at r2
 injection r2 with _ r2
 refine⟨_,r1,MapKV.same r3 ?_,setBlock_grown hw2'⟩
 rw[r2,heap_setBlock_same hb,heap_setBlock_same hw2']
end
section
variable {w : World} {ops : Array Oper} {rest : List Oper} {o : Oper} {a : Act} {Q : Exit → Act → World → Prop}
theorem kv_look(hg:o.guard=none) (m xo:Operand) (t kt e:TypeId) (hop:o.op=Op.lookup t m xo false) (T:TwoKey kt) (ht:Tryz.prog.underlying t=some (.map kt e)) (b n:Nat) (f:Int→Int→Option Value) (x y:Int) (z:Value)
  (hm:a.eval m=.map (some b)) (hxo:a.eval xo=.agg #[.int .i64 x,.int .i64 y]) (h:MapKV w kt b n f) (hz:(zeroValue e).run Tryz.prog w=.ok z w) (hx:I64 x) (hy:I64 y) (u:Value) (hu:(f x y).getD z=u)
  (hK:wpList Tryz.prog ops Q rest (a.put o.dst u) w):wpList Tryz.prog ops Q (o :: rest) a w:=by
 refine wpList_plain hg fun K' hK'=>?_
 have hrun:=h.look T ht hz hx hy
 rw[hu] at hrun
 unfold Oper.wp
 unfold kv at hrun
 simp[execOp,hop,hm,hxo,hrun,Result.andThen]
 exact hK' _ _ hK
theorem kv_look_ok(hg:o.guard=none) (m xo:Operand) (t kt e:TypeId) (hop:o.op=Op.lookup t m xo true) (T:TwoKey kt) (ht:Tryz.prog.underlying t=some (.map kt e)) (b n:Nat) (f:Int→Int→Option Value) (x y:Int) (z:Value)
  (hm:a.eval m=.map (some b)) (hxo:a.eval xo=.agg #[.int .i64 x,.int .i64 y]) (h:MapKV w kt b n f) (hz:(zeroValue e).run Tryz.prog w=.ok z w) (hx:I64 x) (hy:I64 y) (u:Option Value) (hu:f x y=u)
  (hK:wpList Tryz.prog ops Q rest (a.put o.dst (.tuple #[u.getD z,.bool u.isSome])) w):wpList Tryz.prog ops Q (o :: rest) a w:=by
 refine wpList_plain hg fun K' hK'=>?_
 have hrun:=h.look_ok T ht hz hx hy
 rw[hu] at hrun
 unfold Oper.wp
 unfold kv at hrun
 simp[execOp,hop,hm,hxo,hrun,Result.andThen]
 exact hK' _ _ hK
theorem kv_store(hg:o.guard=none) (m xo vo:Operand) (t kt e:TypeId) (hop:o.op=Op.mapUpdate t m xo vo) (T:TwoKey kt) (ht:Tryz.prog.underlying t=some (.map kt e)) (b n:Nat) (f:Int→Int→Option Value) (x y:Int) (v:Value)
  (hm:a.eval m=.map (some b)) (hxo:a.eval xo=.agg #[.int .i64 x,.int .i64 y]) (hvo:a.eval vo=v) (h:MapKV w kt b n f) (hn:n<maxLen) (hx:I64 x) (hy:I64 y)
  (hK:∀w',MapKV w' kt b (n+1) (upd f x y v)→w.grownBy w' (some b)→wpList Tryz.prog ops Q rest (a.put o.dst undef) w'):wpList Tryz.prog ops Q (o :: rest) a w:=by
 refine wpList_plain hg fun K' hK'=>?_
 obtain⟨w',hrun,r1,r2⟩:=h.store T ht hn hx hy v
 unfold Oper.wp
 unfold kv at hrun
 simp[execOp,hop,hm,hxo,hvo,hrun,Result.andThen]
 exact hK' _ _ (hK w' r1 r2)
def Pend(w1:World) (t kt:TypeId) (b n:Nat) (f:Int→Int→Option Value) (x y:Int) (st:Nat):Prop :=
 ∀(w2:World) (v:Value),w2.heap[b]?=w1.heap[b]?→∃w3,(Instr.entryStore t (.map (some b)) (goInt st) v).run Tryz.prog w2=.ok () w3∧MapKV w3 kt b (n+1) (upd f x y v)∧w2.grownBy w3 (some b)
theorem kv_entry(hg:o.guard=none) (m xo:Operand) (t kt e:TypeId) (hop:o.op=Op.mapEntry t m xo) (T:TwoKey kt) (ht:Tryz.prog.underlying t=some (.map kt e)) (b n:Nat) (f:Int→Int→Option Value) (x y:Int) (z:Value)
  (hm:a.eval m=.map (some b)) (hxo:a.eval xo=.agg #[.int .i64 x,.int .i64 y]) (h:MapKV w kt b n f) (hz:∀u:World,(zeroValue e).run Tryz.prog u=.ok z u) (hn:n<maxLen) (hx:I64 x) (hy:I64 y) (u:Option Value) (hu:f x y=u)
  (hK:∀(st:Nat) (w1:World),w.grownBy w1 (some b)→Pend w1 t kt b n f x y st→wpList Tryz.prog ops Q rest (a.put o.dst (.tuple #[u.getD z,.int .i64 (st:Int)])) w1):wpList Tryz.prog ops Q (o :: rest) a w:=by
 refine wpList_plain hg fun K' hK'=>?_
 obtain⟨st,w1,hrun,r1,r2⟩:=h.entry T ht hz hn hx hy
 rw[hu] at hrun
 unfold Oper.wp
 unfold kv at hrun
 simp[execOp,hop,hm,hxo,hrun,Result.andThen]
 exact hK' _ _ (hK st w1 r1 r2)
theorem kv_entry_store(hg:o.guard=none) (m so vo:Operand) (t kt:TypeId) (hop:o.op=Op.entryStore t m so vo) (b n:Nat) (f:Int→Int→Option Value) (x y:Int) (st:Nat) (v:Value) (w1:World)
  (hm:a.eval m=.map (some b)) (hso:a.eval so=.int .i64 (st:Int)) (hvo:a.eval vo=v) (h:Pend w1 t kt b n f x y st) (hw:w.heap[b]?=w1.heap[b]?)
  (hK:∀w',MapKV w' kt b (n+1) (upd f x y v)→w.grownBy w' (some b)→wpList Tryz.prog ops Q rest (a.put o.dst undef) w'):wpList Tryz.prog ops Q (o :: rest) a w:=by
 refine wpList_plain hg fun K' hK'=>?_
 obtain⟨w',hrun,r1,r2⟩:=h w v hw
 unfold Oper.wp
 unfold goInt at hrun
 simp[execOp,hop,hm,hso,hvo,hrun,Result.andThen]
 exact hK' _ _ (hK w' r1 r2)
end
end Go.Proofs.YtcfkllnpkmebpaaGreatDoor

namespace Go.Proofs.YtcfkllnpkmebpaaGreatDoor
open Go.RowKit
open Go.ChangeMaps Go.MapKept Go.WideShapes
open Go.Maps (Keyed)
set_option linter.unusedVariables false
set_option linter.unusedSimpArgs false
section
variable {w : World} {ops : Array Oper} {rest : List Oper} {o : Oper} {a : Act} {Q : Exit → Act → World → Prop}
theorem kv_next(hg:o.guard=none) (it:Operand) (hop:o.op=Op.next it false) (kt:TypeId) (T:TwoKey kt) (b r n:Nat) (D:DataW Value) (left:Lit→Bool) (cnt:Nat)
  (hit:a.eval it=.pointer (some ⟨r,0,none⟩)) (h:w.ranges Tryz.prog kt rawR b r n D left cnt)
  (hDone:cnt=0→(∀kl,left kl=false)→wpList Tryz.prog ops Q rest (a.put o.dst (.tuple #[.bool false])) w)
  (hMore:∀(x y:Int) (v:Value) (kl:Lit) (w':World) (cnt':Nat),keyOf Tryz.prog kt (kv x y)=some kl→I64 x→I64 y→left kl=true→Maps.has D kl=true→w'.ranges Tryz.prog kt rawR b r n D (fun z=>left z&&!z.sameKey kl) cnt'→cnt'<cnt →
   w.grownBy w' (some r)→w'.heap.size=w.heap.size→(Instr.entry (.pointer (some ⟨r,0,none⟩))).run Tryz.prog w'=.ok (.tuple #[.agg #[.int .i64 x,.int .i64 y],v]) w'→wpList Tryz.prog ops Q rest (a.put o.dst (.tuple #[.bool true,.agg #[.int .i64 x,.int .i64 y],v])) w') :
  wpList Tryz.prog ops Q (o :: rest) a w :=
 wpList_next_ranges w hg it hop kt T.law rawR (fun p:Int×Int=>kv p.1 p.2) (fun v:Value=>v) (fun key kl hk=>by obtain⟨x,y,e,-,-⟩:=T.inv key kl hk;exact⟨(x,y),e⟩) (fun v y _=>⟨v,rfl⟩)
  b r n D left cnt hit h hDone (fun p v kl y w' cnt' hkey hlk hv hat hrg hlt hgr hsz hen=>by
   obtain⟨x,y2,e,hx,hy⟩:=T.inv _ kl hkey
   obtain⟨e1,e2⟩:=kv_inj e
   obtain⟨px,py⟩:=p
   simp only at e1 e2
   subst e1;subst e2
   exact hMore px py v kl w' cnt' hkey hx hy hlk (Maps.has_true_of_atKey hat) hrg hlt hgr hsz hen)
end
noncomputable def gotten (kt : TypeId) (D : DataW Value) (left : Lit → Bool) (z : Value) : Int → Int → Option Value := fun x y =>
  match keyOf Tryz.prog kt (kv x y) with
  | some l => if Maps.has D l = true ∧ left l = false then some z else none
  | none => none
theorem MapKV.congr{w:World} {kt:TypeId} {b n:Nat} {f g:Int→Int→Option Value} (T:TwoKey kt) (h:MapKV w kt b n f) (e:∀x y,I64 x→I64 y→f x y=g x y):MapKV w kt b n g:=by
 obtain⟨D,h1,h2⟩:=h
 refine⟨D,h1,fun x y l hl=>?_⟩
 obtain⟨x',y',e1,hx,hy⟩:=T.inv _ l hl
 obtain⟨rfl,rfl⟩:=kv_inj e1
 rw[←e x y hx hy]
 exact h2 x y l hl
theorem gotten_start{kt:TypeId} (T:TwoKey kt) (D:DataW Value) (z:Value) {x y:Int} (hx:I64 x) (hy:I64 y):gotten kt D (Maps.has D) z x y=none:=by
 obtain⟨l,hl⟩:=T.lit x y hx hy
 unfold gotten
 rw[hl]
 simp only
 rw[if_neg]
 intro h
 rw[h.1] at h
 cases h.2
theorem gotten_step{kt:TypeId} (T:TwoKey kt) {D:DataW Value} {left:Lit→Bool} {z:Value} {x y:Int} {kl:Lit} (hk:keyOf Tryz.prog kt (kv x y)=some kl) (hD:Maps.has D kl=true) {a b:Int} (ha:I64 a) (hb:I64 b) :
  upd (gotten kt D left z) x y z a b=gotten kt D (fun l=>left l&&!l.sameKey kl) z a b:=by
 obtain⟨l,hl⟩:=T.lit a b ha hb
 by_cases e:a=x∧b=y
 ·obtain⟨rfl,rfl⟩:=e
  rw[upd_same]
  unfold gotten
  rw[hk]
  simp only
  rw[if_pos ⟨hD,by rw[WideAt.sameKey_self (T.law.key hk)];simp⟩]
 ·rw[upd_other e]
  unfold gotten
  rw[hl]
  simp only
  have hne:l≠kl:=fun e2=>e (kv_inj (T.law.inj hl (e2▸hk)))
  simp only[Maps.sameKey_ne hne]
  simp
theorem gotten_end{kt:TypeId} (T:TwoKey kt) {D:DataW Value} {left:Lit→Bool} {z:Value} (hl:∀l,left l=false) {f:Int→Int→Option Value}
  (h2:∀x y l,keyOf Tryz.prog kt (kv x y)=some l→Maps.has D l=(f x y).isSome∧∀z,D.atKey l (.held z)=.held ((f x y).getD z)) {x y:Int} (hx:I64 x) (hy:I64 y):gotten kt D left z x y=if(f x y).isSome then some z else none:=by
 obtain⟨l,hk⟩:=T.lit x y hx hy
 unfold gotten
 rw[hk]
 simp only[hl l,(h2 x y l hk).1]
 simp
def stripeP(fs:List Fd) (x y:Int):List Fd:=fs.filter fun f=>f.p.vol==x&&f.p.stripe==y
theorem stripeP_snoc{fs:List Fd} {fd:Fd}:stripeP (fs++[fd]) fd.p.vol fd.p.stripe=stripeP fs fd.p.vol fd.p.stripe++[fd]:=by simp[stripeP]
theorem stripeP_other{fs:List Fd} {fd:Fd} {x y:Int} (h:¬(x=fd.p.vol∧y=fd.p.stripe)):stripeP (fs++[fd]) x y=stripeP fs x y:=by
 have:(fd.p.vol==x&&fd.p.stripe==y)=false:=by
  rw[Bool.and_eq_false_iff]
  by_cases e:fd.p.vol=x
  ·right;rw[beq_eq_false_iff_ne];exact fun e2=>h ⟨e.symm,e2.symm⟩
  ·left;rw[beq_eq_false_iff_ne];exact e
 simp[stripeP,List.filter_append,this]
theorem stripeP_length(fs:List Fd) (x y:Int):(stripeP fs x y).length≤fs.length:=List.length_filter_le _ _
def Groups(w:World) (base:Nat) (acks:List Ac) (f:Int→Int→Option Value) (fs:List Fd):Prop :=
 (∀x y,I64 x→I64 y→(verOf acks x y=none∧f x y=none)∨((verOf acks x y).isSome=true∧∃v,f x y=some v∧OwnFd w base 152 v (stripeP fs x y))) ∧
 (∀x y x' y' v v',I64 x→I64 y→I64 x'→I64 y'→f x y=some v→f x' y'=some v'→¬(x'=x∧y'=y)→v'.ownBlock=none∨v'.ownBlock≠v.ownBlock)
theorem Groups.start{w:World} {base:Nat} {acks:List Ac} {f:Int→Int→Option Value} (h:∀x y,I64 x→I64 y→f x y=if(verOf acks x y).isSome then some (.slice none 0 0) else none):Groups w base acks f []:=by
 refine⟨fun x y hx hy=>?_,fun x y x' y' v v' hx hy hx' hy' e e' _=>?_⟩
 ·rw[h x y hx hy]
  cases hv:verOf acks x y with
  | none=>left;exact⟨rfl,rfl⟩
  | some u=>right;exact⟨rfl,_,rfl,World.ownsRow_nil _ _ _ _⟩
 ·left
  rw[h x' y' hx' hy'] at e'
  split at e'
  ·injection e' with e';rw[←e'];rfl
  ·cases e'
theorem Groups.kept{w w':World} {base:Nat} {acks:List Ac} {f:Int→Int→Option Value} {fs:List Fd} {row:Option Nat} (h:Groups w base acks f fs) (hg:w.grownBy w' row) (hr:∀b,row=some b→b<base):Groups w' base acks f fs:=by
 refine⟨fun x y hx hy=>?_,h.2⟩
 rcases h.1 x y hx hy with h1 | ⟨h1,v,hv,ho⟩
 ·exact .inl h1
 ·refine .inr ⟨h1,v,hv,World.ownsRow.kept ho hg ?_⟩
  by_cases e:v.ownBlock=none
  ·exact .inl e
  ·right
   intro e2
   cases hvb:v.ownBlock with
   | none=>exact e hvb
   | some k =>
    have h3:=(World.ownsRow.lt ho k hvb).1
    have h4:=hr k (by rw[←e2,hvb])
    omega
theorem Groups.below{w w':World} {base:Nat} {acks:List Ac} {f:Int→Int→Option Value} {fs:List Fd} (h:Groups w base acks f fs) (hb:Below w.heap.size w w'):Groups w' base acks f fs :=
 h.kept (row:=none) ⟨hb.os,hb.tape,hb.output,hb.size,fun k hk _=>hb.block k hk⟩ (fun b e=>by cases e)
theorem Groups.push{w w':World} {base:Nat} {acks:List Ac} {f:Int→Int→Option Value} {fs:List Fd} {fd:Fd} {v v':Value} (h:Groups w base acks f fs) (hv:f fd.p.vol fd.p.stripe=some v) (hx:I64 fd.p.vol) (hy:I64 fd.p.stripe)
  (ho:OwnFd w' base 152 v' (stripeP fs fd.p.vol fd.p.stripe++[fd])) (hg:w.grownBy w' v.ownBlock) (hat:v'.ownBlock=v.ownBlock∨v'.ownBlock=some w.heap.size) (hs:(verOf acks fd.p.vol fd.p.stripe).isSome=true) :
  Groups w' base acks (upd f fd.p.vol fd.p.stripe v') (fs++[fd]):=by
 have old:∀x y u,I64 x→I64 y→f x y=some u→OwnFd w base 152 u (stripeP fs x y):=by
  intro x y u hx hy hu
  rcases h.1 x y hx hy with h1 | ⟨_,u',hu',ho'⟩
  ·rw[h1.2] at hu;cases hu
  ·rw[hu] at hu';injection hu' with e;rw[e];exact ho'
 refine⟨fun x y hx' hy'=>?_,fun x y x2 y2 u u2 h1 h2 h3 h4 e e2 hne=>?_⟩
 ·by_cases e:x=fd.p.vol∧y=fd.p.stripe
  ·obtain⟨rfl,rfl⟩:=e
   right
   rw[upd_same,stripeP_snoc]
   exact⟨hs,v',rfl,ho⟩
  ·rw[upd_other e,stripeP_other e]
   rcases h.1 x y hx' hy' with h1 | ⟨h1,u,hu,hou⟩
   ·exact .inl h1
   ·exact .inr ⟨h1,u,hu,World.ownsRow.kept hou hg (h.2 _ _ x y v u hx hy hx' hy' hv hu e)⟩
 ·have new:∀x y u,I64 x→I64 y→f x y=some u→¬(x=fd.p.vol∧y=fd.p.stripe)→u.ownBlock=none∨u.ownBlock≠v'.ownBlock:=by
   intro x y u hx' hy' hu hne2
   rcases hat with ha | ha
   ·rw[ha];exact h.2 _ _ x y v u hx hy hx' hy' hv hu hne2
   ·by_cases e0:u.ownBlock=none
    ·exact .inl e0
    ·right
     intro e3
     have:=(World.ownsRow.lt (old x y u hx' hy' hu) w.heap.size (e3.trans ha)).2
     omega
  by_cases c1:x=fd.p.vol∧y=fd.p.stripe
  ·obtain⟨rfl,rfl⟩:=c1
   rw[upd_same] at e
   injection e with e
   subst e
   rw[upd_other hne] at e2
   exact new x2 y2 u2 h3 h4 e2 hne
  ·rw[upd_other c1] at e
   by_cases c2:x2=fd.p.vol∧y2=fd.p.stripe
   ·obtain⟨rfl,rfl⟩:=c2
    rw[upd_same] at e2
    injection e2 with e2
    subst e2
    rcases new x y u h1 h2 e c1 with h5 | h5
    ·by_cases e5:v'.ownBlock=none
     ·exact .inl e5
     ·exact .inr (fun e6=>e5 (e6.trans h5))
    ·exact .inr (fun e6=>h5 e6.symm)
   ·rw[upd_other c2] at e2
    exact h.2 x y x2 y2 u u2 h1 h2 h3 h4 e e2 hne
theorem info_found:(Tryz.prog.info? 152).map (fun i=>(i.zero,i.size,i.bytes))=some (some (.agg #[.int .i64 0,.int .i64 0,.int .i64 0,.int .i64 0,.int .i64 0,.int .i64 0,.string ⟨#[]⟩]),7,64):=by kernel_rfl
theorem app_found{ops:Array Oper} {rest:List Oper} {o:Oper} {a:Act} {Q:Exit→Act→World→Prop} {w:World} (f:Fd) (s x:Operand) (hgd:o.guard=none) (ho:o.op=.call { callee:=.builtin .append,args:=#[s,x],argTypes:=#[143,143] })
  (base:Nat) (v:Value) (fs:List Fd) (hs:a.eval s=v) (hown:OwnFd w base 152 v fs) (g:Nat) (hx:a.eval x=.slice (some ⟨g,0,none⟩) 1 1) (v0 v1 v2 v3 v4 v5:Int) (t:ByteArray) (hf:FdC f=[.int .i64 v0,.int .i64 v1,.int .i64 v2,.int .i64 v3,.int .i64 v4,.int .i64 v5,.string t])
  (hc:w.heap[g]?=some (.cells #[.int .i64 v0,.int .i64 v1,.int .i64 v2,.int .i64 v3,.int .i64 v4,.int .i64 v5,.string t] 152 (0,0))) (hn:fs.length+1≤16777216) (hbase:base≤w.heap.size)
  (h:∀v' w',OwnFd w' base 152 v' (fs++[f])→w.grownBy w' v.ownBlock→(v'.ownBlock=v.ownBlock∨v'.ownBlock=some w.heap.size)→wpList Tryz.prog ops Q rest (a.put o.dst v') w') :
  wpList Tryz.prog ops Q (o :: rest) a w:=by
 obtain⟨i0,hi0,hz0,hz1,hz2⟩:=info_parts info_found
 refine wpList_append_own_at (P:=Tryz.prog) _ hgd s x _ ho base _ i0 _ 7 64 Tryz.underlying143 hi0 hz0 hz1 hz2 rfl (by decide) v fs.length _ hs hown ⟨g,0,none⟩ 1 1 (FdC f) hx rfl ?_ (fun u hu=>?_) (by unfold maxLen;omega) (by omega) hbase (fun v' w' h1 h2 _ h4=>h v' w' ?_ h2 h4)
 ·intro j u hj
  have e1:(⟨g,0,none⟩:Addr).add j=⟨g,j,none⟩:=by unfold Addr.add;split <;> simp_all
  rw[e1,cell_of_row _ _ _ _ _ _ hc]
  rw[hf] at hj
  simpa using hj
 ·simp[FdC] at hu
  rcases hu with rfl | rfl | rfl | rfl | rfl | rfl | rfl <;> rfl
 ·unfold OwnFd
  rw[flat_one,List.length_append]
  exact h1
end Go.Proofs.YtcfkllnpkmebpaaGreatDoor
