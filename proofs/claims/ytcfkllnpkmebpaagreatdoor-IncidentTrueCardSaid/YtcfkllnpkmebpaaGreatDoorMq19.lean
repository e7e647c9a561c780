/- The policy of a volume, and how many fragments of a stripe are intact: the reference, walked. -/
import Derived.BigQuiet
import Derived.Deep.QuietTactic
import Derived.Deep.MidRow
import Derived.Test.YtcfkllnpkmebpaaGreatDoorMq18
import Derived.Test.YtcfkllnpkmebpaaGreatDoorMq13
import Derived.Test.YtcfkllnpkmebpaaGreatDoorMq01
import Derived.Test.YtcfkllnpkmebpaaGreatDoorMq06
set_option maxRecDepth 100000
set_option maxHeartbeats 12800000
namespace Go.Proofs.YtcfkllnpkmebpaaGreatDoor
open Go.RowKit
set_option linter.unusedVariables false
set_option linter.unusedSimpArgs false
theorem results_cell{P:Program} (fn:Func) (t:TypeId) (a:Nat) (tmps:Array Value) (w:World) (v:Value) (ad:Addr) (hr:fn.results=#[.cell a t]) (hv:tmps.getD a undef=.pointer (some ad)) (hl:(loadVar t ad).run P w=.ok v w):(results fn tmps).run P w=.ok v w:=by
 unfold results;rw[hr,Array.mapM_eq_mapM_toList];simp only[List.mapM_cons,List.mapM_nil,hv,asAddr];simp[hl]
def volP(F:FltM) (v:Nat):Nat:=match F.vols[v]? with | some x=>x.pol.toNat | none=>0
def kOf(F:FltM) (v:Nat):Int:=match F.pols[volP F v]? with | some x=>x.k | none=>1
def mOf(F:FltM) (v:Nat):Int:=match F.pols[volP F v]? with | some x=>x.m | none=>0
def qOf(F:FltM) (v:Nat):Int:=match F.pols[volP F v]? with | some x=>x.q | none=>1
def PolAt(w:World) (F:FltM) (pb pof ob oof:Nat):Prop:=∀v,v<F.vols.length→volP F v<F.pols.length∧∃nm:ByteArray,w.rangeAt ob (oof+v * 2) [.string nm,.int .i64 (volP F v:Int)] ∧
 ∃a0 a4 a5 a6 a7 a8 a9 a10 a11 a12 a13 a14 a15 a16:Value,w.rangeAt pb (pof+volP F v * 17) [a0,.int .i64 (kOf F v),.int .i64 (mOf F v),.int .i64 (qOf F v),a4,a5,a6,a7,a8,a9,a10,a11,a12,a13,a14,a15,a16]∧(#[a0,.int .i64 (kOf F v),.int .i64 (mOf F v),.int .i64 (qOf F v),a4,a5,a6,a7,a8,a9,a10,a11,a12,a13,a14,a15,a16]:Array Value).all (·.oneCell')=true
theorem volP_lt{N:Nat} {F:FltM} (hok:FleetOk N F) {v:Nat} (hv:v<F.vols.length):volP F v<F.pols.length∧(F.vols[v]).pol=(volP F v:Int):=by
 obtain⟨-,-,p,h1,h2⟩:=hok.vols v F.vols[v] (List.getElem?_eq_getElem hv)
 have e:volP F v=p:=by unfold volP;rw[List.getElem?_eq_getElem hv];simp[h1]
 rw[e];exact⟨h2,h1⟩
theorem kmq_ok{N:Nat} {F:FltM} (hok:FleetOk N F) {v:Nat} (hv:v<F.vols.length):(kOf F v=1∨kOf F v=2)∧0≤mOf F v∧mOf F v≤2∧kOf F v≤qOf F v∧qOf F v≤kOf F v+mOf F v:=by
 have hp:=(volP_lt hok hv).1;obtain⟨-,-,h1,h2,h3,h4,h5,-⟩:=hok.pols (volP F v) F.pols[volP F v] (List.getElem?_eq_getElem hp);unfold kOf mOf qOf;rw[List.getElem?_eq_getElem hp];exact⟨h1,h2,h3,h4,h5⟩
theorem polAt{N:Nat} {F:FltM} {w:World} {R:Nat→Prop} {vl vm vd vv vp vo:Value} (hf:FleetS w R vl vm vd vv vp vo F) (hok:FleetOk N F) :
  ∃pb pof ob oof cp co,vp=.slice (some ⟨pb,pof,none⟩) F.pols.length cp∧vo=.slice (some ⟨ob,oof,none⟩) F.vols.length co∧R pb∧R ob∧PolAt w F pb pof ob oof:=by
 obtain⟨Ap,cp,rfl,-,-⟩:=hf.2.2.2.2.1.form;obtain⟨Ao,co,rfl,-,-⟩:=hf.2.2.2.2.2.form;obtain⟨pb,pof,cs0,rfl,hRp,-⟩:=hf.2.2.2.2.1.at_ (k:=0) (by have:=hok.pol1;omega);obtain⟨ob,oof,cs1,rfl,hRo,-⟩:=hf.2.2.2.2.2.at_ (k:=0) (by have:=hok.vol1;omega);refine⟨pb,pof,ob,oof,cp,co,rfl,rfl,hRp,hRo,fun v hv=>?_⟩;obtain⟨hp,hpe⟩:=volP_lt hok hv;refine⟨hp,F.vols[v].name,?_,?_⟩
 ·obtain⟨b,off,cs,e,-,-,hc,hcs⟩:=hf.2.2.2.2.2.at_ (k:=v) hv;injection e with e;injection e with e1 e2;subst e1 e2;unfold VolK at hcs;rw[hpe] at hcs;subst hcs;exact hc
 ·obtain⟨b,off,cs,e,-,-,hc,vm,vr,tn,td,hn,hd,hcs,k1,k2,k3,k4,k5,k6⟩:=hf.2.2.2.2.1.at_ (k:=volP F v) hp;injection e with e;injection e with e1 e2;subst e1 e2;obtain⟨A1,c1,rfl,-,-⟩:=k1.form7;obtain⟨A2,c2,rfl,-,-⟩:=k2.form;obtain⟨A3,N3,c3,rfl⟩:=k3.frm;obtain⟨A4,N4,c4,rfl⟩:=k4.frm;obtain⟨A5,N5,c5,rfl⟩:=k5.frm;obtain⟨A6,N6,c6,rfl⟩:=k6.frm;subst hcs
  have ek:kOf F v=F.pols[volP F v].k:=by unfold kOf;rw[List.getElem?_eq_getElem hp]
  have em:mOf F v=F.pols[volP F v].m:=by unfold mOf;rw[List.getElem?_eq_getElem hp]
  have eq:qOf F v=F.pols[volP F v].q:=by unfold qOf;rw[List.getElem?_eq_getElem hp]
  rw[ek,em,eq];exact⟨_,_,_,_,_,_,_,_,_,_,_,_,_,_,hc,by simp[Value.oneCell']⟩
def HeldC(W0:World) (y g:Nat) (a b c d e:Value) (w':World):Prop :=
 w'.cell? ⟨y,0,none⟩=some a∧w'.cell? ⟨y,1,none⟩=some b∧w'.cell? ⟨y,2,none⟩=some c∧w'.cell? ⟨g,1,none⟩=some d∧w'.cell? ⟨g,2,none⟩=some e∧Below W0.heap.size W0 w'
theorem HeldC.below{W0 wc w2:World} {y g:Nat} {a b c d e:Value} (h:HeldC W0 y g a b c d e wc) (hb:Below wc.heap.size wc w2) (h1:y<W0.heap.size) (h2:g<W0.heap.size):HeldC W0 y g a b c d e w2:=by
 obtain⟨c0,c1,c2,c3,c4,hB⟩:=h;have hs:=hB.size
 have k:∀i,w2.cell? ⟨y,i,none⟩=wc.cell? ⟨y,i,none⟩:=fun i=>hb.cell (p:=⟨y,i,none⟩) (Nat.lt_of_lt_of_le h1 hs)
 have k':∀i,w2.cell? ⟨g,i,none⟩=wc.cell? ⟨g,i,none⟩:=fun i=>hb.cell (p:=⟨g,i,none⟩) (Nat.lt_of_lt_of_le h2 hs)
 exact⟨(k _).trans c0,(k _).trans c1,(k _).trans c2,(k' _).trans c3,(k' _).trans c4,hB.trans (hb.mono hs)⟩
theorem HeldC.bl{W0 wc:World} {y g:Nat} {a b c d e:Value} (h:HeldC W0 y g a b c d e wc):Below W0.heap.size W0 wc:=h.2.2.2.2.2
def keyC(x:Nat×Nat):List Value:=[.int .i64 (x.1:Int),.int .i64 (x.2:Int)]
def OwnKy(w:World) (base:Nat) (v:Value) (ks:List (Nat×Nat)):Prop:=w.ownsRow base 67 2 v ks.length (ks.flatMap keyC)
theorem info_ky:(Tryz.prog.info? 67).map (fun i=>(i.zero,i.size,i.bytes))=some (some (.agg #[.int .i64 0,.int .i64 0]),2,16):=by kernel_rfl
theorem OwnKy.nil(w:World) (base:Nat):OwnKy w base (.slice none 0 0) []:=World.ownsRow_nil _ _ _ _
theorem OwnKy.below{w w2:World} {base:Nat} {v:Value} {ks:List (Nat×Nat)} (h:OwnKy w base v ks) (hb:Below w.heap.size w w2):OwnKy w2 base v ks:=own_below h hb
theorem OwnKy.base{w:World} {B B':Nat} {v:Value} {ks:List (Nat×Nat)} (h:OwnKy w B v ks) (hB:B'≤B):OwnKy w B' v ks:=own_base h hB
theorem OwnKy.form{w:World} {base:Nat} {v:Value} {ks:List (Nat×Nat)} (h:OwnKy w base v ks):∃A c,v=.slice A ks.length c:=own_form h
theorem OwnKy.lt{w:World} {base:Nat} {v:Value} {ks:List (Nat×Nat)} (h:OwnKy w base v ks):∀b,v.ownBlock=some b→base≤b∧b<w.heap.size:=World.ownsRow.lt h
theorem app_ky{ops:Array Oper} {rest:List Oper} {o:Oper} {a:Act} {Q:Exit→Act→World→Prop} {w:World} (x0 x1:Nat) (s x:Operand) (hgd:o.guard=none) (ho:o.op=.call { callee:=.builtin .append,args:=#[s,x],argTypes:=#[64,64] })
  (base:Nat) (v:Value) (n:Nat) (ks:List (Nat×Nat)) (hlen:ks.length=n) (hs:a.eval s=v) (hown:w.ownsRow base 67 2 v n (ks.flatMap keyC))
  (hx:a.eval x=.slice (some ⟨w.heap.size,0,none⟩) 1 1) (hn:n+1≤16777216) (hbase:base≤w.heap.size)
  (h:∀v' w',OwnKy w' base v' (ks++[(x0,x1)])→w.grownBy w' v.ownBlock→(v'.ownBlock=v.ownBlock∨v'.ownBlock=some (w.heap.size+1))→wpList Tryz.prog ops Q rest (a.put o.dst v') w') :
  wpList Tryz.prog ops Q (o :: rest) a (w.alloc (.cells #[.int .i64 (x0:Int),.int .i64 (x1:Int)] 67)):=by
 obtain⟨i0,hi0,hz0,hz1,hz2⟩:=info_parts info_ky;refine wpList_append1 hgd s x _ ho base i0 _ 2 16 Tryz.underlying64 hi0 hz0 hz1 hz2 rfl (by omega) (by omega) v n (ks.flatMap keyC) hs hown hx rfl (fun u hu=>?_) hn hbase (fun v' w' h1 h2 h3=>h v' w' ?_ h2 h3)
 ·simp at hu;rcases hu with rfl | rfl <;> rfl
 ·unfold OwnKy;rw[List.length_append,List.length_singleton,hlen,List.flatMap_append]
  simpa[keyC] using h1
def KyK(w:World) (R:Nat→Prop) (cs:List Value) (x:Nat×Nat):Prop:=cs=keyC x
theorem kyK:Steady KyK:=⟨fun _ h=>h,fun _ h=>h⟩
theorem flat_ky:∀(ks:List (Nat×Nat)) (k:Nat) (x:Nat×Nat),ks[k]?=some x→∀i c,(keyC x)[i]?=some c→(ks.flatMap keyC)[k * 2+i]?=some c
 | [],k,f,h=>by simp at h
 | x :: r,0,f,h=>by
  simp at h;subst h;intro i c hc;have hi:i<(keyC x).length:=(List.getElem?_eq_some_iff.1 hc).1;rw[List.flatMap_cons,Nat.zero_mul,Nat.zero_add,List.getElem?_append_left hi];exact hc
 | x :: r,k+1,f,h=>by
  intro i c hc;have hl:(keyC x).length=2:=rfl;rw[List.flatMap_cons,List.getElem?_append_right (by rw[hl];omega),hl];have:=flat_ky r k f (by simpa using h) i c hc;rw[←this]
  congr 1
  omega
theorem OwnKy.slS{w:World} {base:Nat} {v:Value} {ks:List (Nat×Nat)} (h:OwnKy w base v ks):SlS 2 KyK w (Fr base w.heap.size) v ks:=by
 have h1:w.ownsRow base 67 2 v ks.length (ks.flatMap keyC):=h
 have hc:=fun g=>h1.cells (g:=g)
 have hlt:=h1.lt;rcases h1.2 with ⟨rfl,h0⟩ | ⟨g,cap,cur,rfl,_,_,h2,h3,_⟩
 ·unfold SlS;rw[h0];exact Row.nil _ _ _
 ·refine⟨_,cap,rfl,h2,Nat.le_trans h2 h3,fun _=>⟨g,0,rfl,hlt g rfl,fun k f hf=>⟨keyC f,rfl,fun i c hi=>?_,rfl⟩⟩⟩
  have e1:∀j,(⟨g,0,none⟩:Addr).add j=⟨g,0+j,none⟩:=fun j=>by unfold Addr.add;split <;> simp_all
  rw[Nat.add_assoc,←e1];exact hc g rfl _ _ (flat_ky ks k f hf i c hi)
theorem two_ky{cs:List Value} {x:Nat×Nat} {w:World} {p o:Nat} (h:∀i c,cs[i]?=some c→w.cell? ⟨p,o+i,none⟩=some c) (e:cs=keyC x) :
  w.cell? ⟨p,o,none⟩=some (.int .i64 (x.1:Int))∧w.cell? ⟨p,o+1,none⟩=some (.int .i64 (x.2:Int)):=by
 subst e;exact⟨h 0 _ rfl,h 1 _ rfl⟩

end Go.Proofs.YtcfkllnpkmebpaaGreatDoor
