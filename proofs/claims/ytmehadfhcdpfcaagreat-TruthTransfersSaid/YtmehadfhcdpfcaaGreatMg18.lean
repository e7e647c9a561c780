/- The policy of a volume, and how many fragments of a stripe are intact: the reference, walked. -/
import Derived.BigQuiet
import Derived.Deep.QuietTactic
import Derived.Deep.MidRow
import Derived.Test.YtmehadfhcdpfcaaGreatMg17
import Derived.Test.YtmehadfhcdpfcaaGreatMg13
import Derived.Test.YtmehadfhcdpfcaaGreatMg01
import Derived.Test.YtmehadfhcdpfcaaGreatMg14
import Derived.Test.YtmehadfhcdpfcaaGreatMg02
import Derived.Test.YtmehadfhcdpfcaaGreatMg15
import Derived.Test.YtmehadfhcdpfcaaGreatMg16
import Derived.Test.YtmehadfhcdpfcaaGreatMg06
set_option maxRecDepth 100000
set_option maxHeartbeats 12800000
namespace Go.Proofs.YtmehadfhcdpfcaaGreat
open Go.RowKit
set_option linter.unusedVariables false
set_option linter.unusedSimpArgs false
def volP(F:FltM) (v:Nat):Nat:=match F.vols[v]? with | some x=>x.pol.toNat | none=>0
def kOf(F:FltM) (v:Nat):Int:=match F.pols[volP F v]? with | some x=>x.k | none=>1
def mOf(F:FltM) (v:Nat):Int:=match F.pols[volP F v]? with | some x=>x.m | none=>0
def qOf(F:FltM) (v:Nat):Int:=match F.pols[volP F v]? with | some x=>x.q | none=>1
def PolAt(w:World) (F:FltM) (pb pof ob oof:Nat):Prop:=∀v,v<F.vols.length→volP F v<F.pols.length∧∃nm:ByteArray,w.rangeAt ob (oof+v * 2) [.string nm,.int .i64 (volP F v:Int)] ∧
 ∃a0 a4 a5 a6 a7 a8 a9 a10 a11 a12 a13 a14 a15 a16:Value,w.rangeAt pb (pof+volP F v * 17) [a0,.int .i64 (kOf F v),.int .i64 (mOf F v),.int .i64 (qOf F v),a4,a5,a6,a7,a8,a9,a10,a11,a12,a13,a14,a15,a16]∧(#[a0,.int .i64 (kOf F v),.int .i64 (mOf F v),.int .i64 (qOf F v),a4,a5,a6,a7,a8,a9,a10,a11,a12,a13,a14,a15,a16]:Array Value).all (·.oneCell')=true
theorem PolAt.same{w w':World} {F:FltM} {pb pof ob oof:Nat} (h:PolAt w F pb pof ob oof) (e1:w'.heap[pb]?=w.heap[pb]?) (e2:w'.heap[ob]?=w.heap[ob]?):PolAt w' F pb pof ob oof:=fun v hv=>by
 obtain⟨h1,nm,h2,a0,a4,a5,a6,a7,a8,a9,a10,a11,a12,a13,a14,a15,a16,h3,h4⟩:=h v hv
 exact⟨h1,nm,range_same h2 e2,a0,a4,a5,a6,a7,a8,a9,a10,a11,a12,a13,a14,a15,a16,range_same h3 e1,h4⟩
theorem volP_lt{N:Nat} {F:FltM} (hok:FleetOk N F) {v:Nat} (hv:v<F.vols.length):volP F v<F.pols.length∧(F.vols[v]).pol=(volP F v:Int):=by
 obtain⟨-,-,p,h1,h2⟩:=hok.vols v F.vols[v] (List.getElem?_eq_getElem hv)
 have e:volP F v=p:=by unfold volP;rw[List.getElem?_eq_getElem hv];simp[h1]
 rw[e];exact⟨h2,h1⟩
theorem kmq_ok{N:Nat} {F:FltM} (hok:FleetOk N F) {v:Nat} (hv:v<F.vols.length):(kOf F v=1∨kOf F v=2)∧0≤mOf F v∧mOf F v≤2∧kOf F v≤qOf F v∧qOf F v≤kOf F v+mOf F v:=by
 have hp:=(volP_lt hok hv).1
 obtain⟨-,-,h1,h2,h3,h4,h5,-⟩:=hok.pols (volP F v) F.pols[volP F v] (List.getElem?_eq_getElem hp)
 unfold kOf mOf qOf
 rw[List.getElem?_eq_getElem hp]
 exact⟨h1,h2,h3,h4,h5⟩
theorem polAt{N:Nat} {F:FltM} {w:World} {R:Nat→Prop} {vl vm vd vv vp vo:Value} (hf:FleetS w R vl vm vd vv vp vo F) (hok:FleetOk N F) :
  ∃pb pof ob oof cp co,vp=.slice (some ⟨pb,pof,none⟩) F.pols.length cp∧vo=.slice (some ⟨ob,oof,none⟩) F.vols.length co∧R pb∧R ob∧PolAt w F pb pof ob oof:=by
 obtain⟨Ap,cp,rfl,-,-⟩:=hf.2.2.2.2.1.form
 obtain⟨Ao,co,rfl,-,-⟩:=hf.2.2.2.2.2.form
 obtain⟨pb,pof,cs0,rfl,hRp,-⟩:=hf.2.2.2.2.1.at_ (k:=0) (by have:=hok.pol1;omega)
 obtain⟨ob,oof,cs1,rfl,hRo,-⟩:=hf.2.2.2.2.2.at_ (k:=0) (by have:=hok.vol1;omega)
 refine⟨pb,pof,ob,oof,cp,co,rfl,rfl,hRp,hRo,fun v hv=>?_⟩
 obtain⟨hp,hpe⟩:=volP_lt hok hv
 refine⟨hp,F.vols[v].name,?_,?_⟩
 ·obtain⟨b,off,cs,e,-,-,hc,hcs⟩:=hf.2.2.2.2.2.at_ (k:=v) hv
  injection e with e
  injection e with e1 e2
  subst e1 e2
  unfold VolK at hcs
  rw[hpe] at hcs
  subst hcs
  exact hc
 ·obtain⟨b,off,cs,e,-,-,hc,vm,vr,tn,td,hn,hd,hcs,k1,k2,k3,k4,k5,k6⟩:=hf.2.2.2.2.1.at_ (k:=volP F v) hp
  injection e with e
  injection e with e1 e2
  subst e1 e2
  obtain⟨A1,c1,rfl,-,-⟩:=k1.form7
  obtain⟨A2,c2,rfl,-,-⟩:=k2.form
  obtain⟨A3,N3,c3,rfl⟩:=k3.frm
  obtain⟨A4,N4,c4,rfl⟩:=k4.frm
  obtain⟨A5,N5,c5,rfl⟩:=k5.frm
  obtain⟨A6,N6,c6,rfl⟩:=k6.frm
  subst hcs
  have ek:kOf F v=F.pols[volP F v].k:=by unfold kOf;rw[List.getElem?_eq_getElem hp]
  have em:mOf F v=F.pols[volP F v].m:=by unfold mOf;rw[List.getElem?_eq_getElem hp]
  have eq:qOf F v=F.pols[volP F v].q:=by unfold qOf;rw[List.getElem?_eq_getElem hp]
  rw[ek,em,eq]
  exact⟨_,_,_,_,_,_,_,_,_,_,_,_,_,_,hc,by simp[Value.oneCell']⟩
def HeldC(W0:World) (y g:Nat) (a b c d e:Value) (w':World):Prop :=
 w'.cell? ⟨y,0,none⟩=some a∧w'.cell? ⟨y,1,none⟩=some b∧w'.cell? ⟨y,2,none⟩=some c∧w'.cell? ⟨g,1,none⟩=some d∧w'.cell? ⟨g,2,none⟩=some e∧Below W0.heap.size W0 w'
theorem HeldC.below{W0 wc w2:World} {y g:Nat} {a b c d e:Value} (h:HeldC W0 y g a b c d e wc) (hb:Below wc.heap.size wc w2) (h1:y<W0.heap.size) (h2:g<W0.heap.size):HeldC W0 y g a b c d e w2:=by
 obtain⟨c0,c1,c2,c3,c4,hB⟩:=h
 have hs:=hB.size
 have k:∀i,w2.cell? ⟨y,i,none⟩=wc.cell? ⟨y,i,none⟩:=fun i=>hb.cell (p:=⟨y,i,none⟩) (Nat.lt_of_lt_of_le h1 hs)
 have k':∀i,w2.cell? ⟨g,i,none⟩=wc.cell? ⟨g,i,none⟩:=fun i=>hb.cell (p:=⟨g,i,none⟩) (Nat.lt_of_lt_of_le h2 hs)
 exact⟨(k _).trans c0,(k _).trans c1,(k _).trans c2,(k' _).trans c3,(k' _).trans c4,hB.trans (hb.mono hs)⟩
theorem HeldC.bl{W0 wc:World} {y g:Nat} {a b c d e:Value} (h:HeldC W0 y g a b c d e wc):Below W0.heap.size W0 wc:=h.2.2.2.2.2
def keyC(x:Nat×Nat):List Value:=[.int .i64 (x.1:Int),.int .i64 (x.2:Int)]
def OwnKy(w:World) (base:Nat) (v:Value) (ks:List (Nat×Nat)):Prop:=w.ownsRow base 74 2 v ks.length (ks.flatMap keyC)
theorem info_ky:(Tryz.prog.info? 74).map (fun i=>(i.zero,i.size,i.bytes))=some (some (.agg #[.int .i64 0,.int .i64 0]),2,16):=by kernel_rfl
theorem OwnKy.nil(w:World) (base:Nat):OwnKy w base (.slice none 0 0) []:=World.ownsRow_nil _ _ _ _
theorem OwnKy.below{w w2:World} {base:Nat} {v:Value} {ks:List (Nat×Nat)} (h:OwnKy w base v ks) (hb:Below w.heap.size w w2):OwnKy w2 base v ks:=own_below h hb
theorem OwnKy.base{w:World} {B B':Nat} {v:Value} {ks:List (Nat×Nat)} (h:OwnKy w B v ks) (hB:B'≤B):OwnKy w B' v ks:=own_base h hB
theorem OwnKy.form{w:World} {base:Nat} {v:Value} {ks:List (Nat×Nat)} (h:OwnKy w base v ks):∃A c,v=.slice A ks.length c:=own_form h
theorem OwnKy.lt{w:World} {base:Nat} {v:Value} {ks:List (Nat×Nat)} (h:OwnKy w base v ks):∀b,v.ownBlock=some b→base≤b∧b<w.heap.size:=World.ownsRow.lt h
theorem app_ky{ops:Array Oper} {rest:List Oper} {o:Oper} {a:Act} {Q:Exit→Act→World→Prop} {w:World} (x0 x1:Nat) (s x:Operand) (hgd:o.guard=none) (ho:o.op=.call { callee:=.builtin .append,args:=#[s,x],argTypes:=#[42,42] })
  (base:Nat) (v:Value) (n:Nat) (ks:List (Nat×Nat)) (hlen:ks.length=n) (hs:a.eval s=v) (hown:w.ownsRow base 74 2 v n (ks.flatMap keyC))
  (hx:a.eval x=.slice (some ⟨w.heap.size,0,none⟩) 1 1) (hn:n+1≤16777216) (hbase:base≤w.heap.size)
  (h:∀v' w',OwnKy w' base v' (ks++[(x0,x1)])→w.grownBy w' v.ownBlock→(v'.ownBlock=v.ownBlock∨v'.ownBlock=some (w.heap.size+1))→wpList Tryz.prog ops Q rest (a.put o.dst v') w') :
  wpList Tryz.prog ops Q (o :: rest) a (w.alloc (.cells #[.int .i64 (x0:Int),.int .i64 (x1:Int)] 74)):=by
 obtain⟨i0,hi0,hz0,hz1,hz2⟩:=info_parts info_ky
 refine wpList_append1 hgd s x _ ho base i0 _ 2 16 Tryz.underlying42 hi0 hz0 hz1 hz2 rfl (by omega) (by omega) v n (ks.flatMap keyC) hs hown hx rfl (fun u hu=>?_) hn hbase (fun v' w' h1 h2 h3=>h v' w' ?_ h2 h3)
 ·simp at hu
  rcases hu with rfl | rfl <;> rfl
 ·unfold OwnKy
  rw[List.length_append,List.length_singleton,hlen,List.flatMap_append]
  simpa[keyC] using h1
def KyK(w:World) (R:Nat→Prop) (cs:List Value) (x:Nat×Nat):Prop:=cs=keyC x
theorem flat_ky:∀(ks:List (Nat×Nat)) (k:Nat) (x:Nat×Nat),ks[k]?=some x→∀i c,(keyC x)[i]?=some c→(ks.flatMap keyC)[k * 2+i]?=some c
 | [],k,f,h=>by simp at h
 | x :: r,0,f,h=>by
  simp at h;subst h
  intro i c hc
  have hi:i<(keyC x).length:=(List.getElem?_eq_some_iff.1 hc).1
  rw[List.flatMap_cons,Nat.zero_mul,Nat.zero_add,List.getElem?_append_left hi];exact hc
 | x :: r,k+1,f,h=>by
  intro i c hc
  have hl:(keyC x).length=2:=rfl
  rw[List.flatMap_cons,List.getElem?_append_right (by rw[hl];omega),hl]
  have:=flat_ky r k f (by simpa using h) i c hc
  rw[←this]
  congr 1
  omega
theorem OwnKy.slS{w:World} {base:Nat} {v:Value} {ks:List (Nat×Nat)} (h:OwnKy w base v ks):SlS 2 KyK w (Fr base w.heap.size) v ks:=by
 have h1:w.ownsRow base 74 2 v ks.length (ks.flatMap keyC):=h
 have hc:=fun g=>h1.cells (g:=g)
 have hlt:=h1.lt
 rcases h1.2 with ⟨rfl,h0⟩ | ⟨g,cap,cur,rfl,_,_,h2,h3,_⟩
 ·unfold SlS;rw[h0];exact Row.nil _ _ _
 ·refine⟨_,cap,rfl,h2,Nat.le_trans h2 h3,fun _=>⟨g,0,rfl,hlt g rfl,fun k f hf=>⟨keyC f,rfl,fun i c hi=>?_,rfl⟩⟩⟩
  have e1:∀j,(⟨g,0,none⟩:Addr).add j=⟨g,0+j,none⟩:=fun j=>by unfold Addr.add;split <;> simp_all
  rw[Nat.add_assoc,←e1]
  exact hc g rfl _ _ (flat_ky ks k f hf i c hi)
def cntI(r:Re) (v s:Nat) (on:Bool) (n:Int):Int:=(((intI r (v:Int) (s:Int) on).filter (fun x=>decide (x<n))).length:Int)
def keyP(F:FltM) (r:Re) (cond:Int→Int→Int→Bool) (x:Nat×Nat):Bool :=
 (verOf r.acks (x.1:Int) (x.2:Int)).isSome&&cond (cntI r x.1 x.2 false (kOf F x.1+mOf F x.1)) (cntI r x.1 x.2 true (kOf F x.1+mOf F x.1)) (kOf F x.1)
def keyL(F:FltM) (r:Re) (cond:Int→Int→Int→Bool) (ext v s:Nat):List (Nat×Nat):=(keysTo ext v s).filter (keyP F r cond)
theorem keyL_succ(F:FltM) (r:Re) (cond:Int→Int→Int→Bool) (ext v s:Nat):keyL F r cond ext v (s+1)=keyL F r cond ext v s++(if keyP F r cond (v,s)=true then [(v,s)] else []):=by
 unfold keyL
 rw[keysTo_succ,List.filter_append]
 congr 1
 by_cases h:keyP F r cond (v,s)=true <;> simp[h]
theorem keysTo_len(ext v s:Nat):(keysTo ext v s).length=v * ext+s:=by
 have h:∀v,((List.range v).flatMap (fun v=>(List.range ext).map fun s=>(v,s))).length=v * ext:=by
  intro v
  induction v with
  | zero=>simp
  | succ v ih=>rw[List.range_succ,List.flatMap_append,List.length_append,ih];simp[Nat.succ_mul]
 unfold keysTo
 rw[List.length_append,h];simp
theorem keyL_len(F:FltM) (r:Re) (cond:Int→Int→Int→Bool) (ext v s:Nat):(keyL F r cond ext v s).length≤v * ext+s:=by
 rw[←keysTo_len];exact List.length_filter_le _ _
theorem out_filter(r:Re) (up:Bool) (l:List Fd) (n:Int):∀j,j≤8→outTo r up l n j=(outTo r up l 8 j).filter (fun x=>decide (x<n))
 | 0,_=>rfl
 | j+1,h=>by
  rw[outTo_succ,outTo_succ,List.filter_append,out_filter r up l n j (by omega)]
  congr 1
  by_cases h1:hasB r up l j=true
  ·by_cases h2:(j:Int)<n
   ·rw[if_pos ⟨h1,h2⟩,if_pos ⟨h1,by omega⟩];simp[h2]
   ·rw[if_neg (fun h=>h2 h.2),if_pos ⟨h1,by omega⟩];simp[h2]
  ·rw[if_neg (fun h=>h1 h.1),if_neg (fun h=>h1 h.1)];rfl
theorem out_cnt(r:Re) (v s:Nat) (on:Bool) (n:Int):((outTo r on (stripeP (pieces r) (v:Int) (s:Int)) n 8).length:Int)=cntI r v s on n:=by
 unfold cntI intI
 rw[out_filter _ _ _ _ 8 (by omega),intTo_out r (pieces r) _ _ on 8 8 (by omega)]
theorem missingL_any(cond:Int→Int→Int→Bool) (hC:∀(a u k:Int) (w:World),Calls Tryz.prog 34 #[.int .i64 a,.int .i64 u,.int .i64 k] w fun e w'=>e=.returned (.bool (cond a u k))∧w=w')
  (N:Nat) (hN:N≤12) (vl vm vd vv vp vo vp0 vo0 va0:Value) (F:FltM) (r:Re) (w:World) (hf:FleetS w (Bl w.heap.size) vl vm vd vv vp vo F) (hok:FleetOk N F) (h:ReS w (Bl w.heap.size) vp0 vo0 va0 r) (hp:r.plat.length≤1000) (hl:∀l∈r.plat,l.length≤1000) (hac:r.acks.length≤1000000) :
  Calls Tryz.prog 33 #[.agg #[.int .i64 F.ext,vl,vm,vd,vv,vp,vo],.agg #[vp0,vo0,va0],.func (.func 34) #[] #[]] w fun e w'=>∃u,e=.returned u∧OwnKy w' w.heap.size u (keyL F r cond F.ext.toNat F.vols.length 0)∧Below w.heap.size w w':=by
 obtain⟨pb,pof,ob,oof,cp,co,rfl,rfl,hRp,hRo,hPA⟩:=polAt hf hok
 have HVA:=zh (fun(w':World) (hb:Below w.heap.size w w')=>fvalidate_any N hN vl vm vd vv _ _ F w' (hf.below hb) hok)
 have HIX:=zh (fun w1 h1=>index_any vp0 vo0 va0 r w1 h1 hp hl hac)
 have HRE:=zh (fun(w':World) (hb:Below w.heap.size w w')=>h.below hb)
 have hpa:=piecesTo_all r r.plat.length
 have hpd:=pieces_drive r (by omega)
 obtain⟨EX,hEX,hEX1,hEX2⟩:∃n:Nat,F.ext=(n:Int)∧1≤n∧n≤2:=by rcases hok.ext with e | e <;> rw[e] <;> first | exact⟨1,rfl,by omega,by omega⟩ | exact⟨2,rfl,by omega,by omega⟩
 have hno:F.vols.length≤12:=by have:=hok.volN;omega
 obtain⟨KL,hKL⟩:∃f:Nat→Nat→List (Nat×Nat),f=keyL F r cond EX:=⟨_,rfl⟩
 have HKS:=zh (fun v s=>(show KL v (s+1)=KL v s++(if keyP F r cond (v,s)=true then [(v,s)] else []) from by rw[hKL];exact keyL_succ F r cond EX v s))
 have HKN:=zh (fun v=>(show KL v EX=KL (v+1) 0 from by rw[hKL];unfold keyL;rw[keysTo_next]))
 have HK0:=zh (show KL 0 0=[] from by rw[hKL];rfl)
 have HLE:=zh (fun v s (hv:v<13) (hs:s<13)=>(show(KL v s).length≤100 from by
  have h1:=keyL_len F r cond EX v s
  rw[hKL]
  have h2:v * EX≤12 * 2:=Nat.mul_le_mul (by omega) hEX2
  omega))
 rw[hEX] at HVA ⊢
 rw[show((EX:Int)).toNat=EX from by omega,show keyL F r cond EX F.vols.length 0=KL F.vols.length 0 from by rw[hKL]]
 obtain⟨NO,hNO⟩:=zx F.vols.length
 obtain⟨NP,hNP⟩:=zx F.pols.length
 have hnp:NP≤2:=by rw[hNP];exact hok.polN
 rw[←hNO] at hno HVA ⊢
 rw[←hNP] at HVA ⊢
 have HKQ:=zh (fun v (hv:v<NO)=>kmq_ok hok (show v<F.vols.length from by rw[←hNO];exact hv))
 have HPA:=zh hPA
 have HNN:=zh (show NO=F.vols.length∧NP=F.pols.length∧NO≤12∧NP≤2 from⟨hNO,hNP,hno,hnp⟩)
 have HPD:=zh hpd
 have HPL:=zh hpa
 have HBB:=zh (show pb<w.heap.size∧ob<w.heap.size from⟨hRp,hRo⟩)
 obtain⟨W0,hW0⟩:=zx ((w.alloc (.cells #[.int .i64 (EX:Int),vl,vm,vd,vv,.slice (some ⟨pb,pof,none⟩) NP cp,.slice (some ⟨ob,oof,none⟩) NO co] 37)).alloc (.cells #[vp0,vo0,va0] 27))
 obtain⟨z,hz⟩:=zx w.heap.size
 obtain⟨y,hy⟩:=zx (w.heap.size+1)
 have hb0:Below w.heap.size w W0:=by rw[hW0];exact((Below.refl _ _).alloc (Nat.le_refl _) _).alloc (by simp) _
 have hyk:W0.heap[y]?=some (.cells #[vp0,vo0,va0] 27 (0,0)):=by
  rw[hW0];exact heap_alloc_at _ _ _ (by rw[hy];simp)
 have hzk:W0.heap[z]?=some (.cells #[.int .i64 (EX:Int),vl,vm,vd,vv,.slice (some ⟨pb,pof,none⟩) NP cp,.slice (some ⟨ob,oof,none⟩) NO co] 37 (0,0)):=by
  rw[hW0,hz];exact(Below.heap_alloc _ _ _ (by simp)).trans (heap_alloc_new w _)
 have hyl:y<W0.heap.size:=(Array.getElem?_eq_some_iff.1 hyk).1
 have hzl:z<W0.heap.size:=(Array.getElem?_eq_some_iff.1 hzk).1
 have HC:=zh (fun(w':World) (hb:Below W0.heap.size W0 w')=>And.intro (cells7 ((hb.block z hzl).trans hzk)) (cells3 ((hb.block y hyl).trans hyk)))
 have HYL:=zh hyl
 have HW0:=zh hW0
 have HZ:=zh hz
 have HY:=zh hy
 have HB0:=zh hb0
 obtain⟨⟨c0,c1,c2,c3,c4,c5,c6⟩,-⟩:=HC.out W0 (Below.refl _ _)
 have HC0:=zh hC
 have HEXB:=zh (And.intro hEX1 hEX2)
 clear hf hok h hPA hRp hRo hpa hpd hW0 hz hy hb0 hyk hzk hyl hzl hKL hC hEX hNO hNP hnp hEX1
 go_enter Tryz.func33,Tryz.ntmps33
 go_wp2_with fail
 rw[←HW0.out,←HY.out,←HZ.out]
 refine(HVA.out _ HB0.out).mono ?_
 rintro e w1 ⟨rfl,hb1⟩
 have HB1:=zh hb1
 clear c0 c1 c2 c3 c4 c5 c6 hb1
 obtain⟨-,d0,d1,d2,-⟩:=HC.out w1 HB1.out
 go_wp2_with fail
 have hre:=HRE.out w1 (HB0.out.trans (HB1.out.mono HB0.out.size))
 refine(HIX.out _ hre).mono ?_
 rintro e w2 ⟨b,n,f,rfl,hbb,hM,hG,hb2⟩
 have HB2:=zh (HB1.out.trans (hb2.mono HB1.out.size))
 have HM:=zh hM
 have HGR:=zh hG
 have HBM:=zh hM.lt
 clear d0 d1 d2 hb2 hM hG hre hbb
 obtain⟨⟨c0,c1,c2,c3,c4,c5,c6⟩,-⟩:=HC.out w2 HB2.out
 go_wp2_with fail
 clear c0 c1 c2 c3 c4 c5 c6
 go_loopg [8,23] NO (fun z v8 v23 wr=>∃v:Nat,v≤NO∧z=NO - v∧v23=.int .i64 (v:Int)∧Hid (OwnKy wr w2.heap.size v8 (KL v 0))∧Hid (Below w2.heap.size w2 wr))
 case atStart=>exact⟨0,by omega,rfl,rfl,by rw[HK0.out];exact OwnKy.nil _ _,Below.refl _ _⟩
 case round =>
  obtain⟨v,hv,rfl,rfl,HO,HBR⟩:=hrel
  have h0R:=HB2.out.trans (HBR.out.mono HB2.out.size)
  by_cases hlt:v<NO
  ·-- L1{
   obtain⟨n7,hn7⟩:=zx ((KL v 0).length)
   obtain⟨A7,c7,hv7⟩:=HO.out.form
   rw[←hn7] at hv7
   subst hv7
   clear hn7
   obtain⟨hpl,nm,hvol,a0,a4,a5,a6,a7,a8,a9,a10,a11,a12,a13,a14,a15,a16,hpol,hone⟩:=HPA.out v (by rw[←HNN.out.1];exact hlt)
   obtain⟨kk,m1,m2,q1,q2⟩:=HKQ.out v hlt
   obtain⟨KK,hK⟩:=zx (kOf F v)
   obtain⟨MM,hMM⟩:=zx (mOf F v)
   obtain⟨QQ,hQ⟩:=zx (qOf F v)
   obtain⟨p,hpp⟩:=zx (volP F v)
   rw[←hK,←hMM,←hQ] at hpol hone
   rw[←hpp] at hvol hpl hpol
   rw[←hK] at kk
   rw[←hMM] at m1 m2
   have hb0R:=HB0.out.trans (h0R.mono HB0.out.size)
   have hvol':=range_same hvol (hb0R.block ob HBB.out.2)
   have l0:wr.cell? ⟨ob,oof+v * 2,none⟩=some (.string nm):=hvol' 0 _ rfl
   have l1:wr.cell? ⟨ob,oof+v * 2+1,none⟩=some (.int .i64 (p:Int)):=hvol' 1 _ rfl
   have HPOL:=zh (range_same hpol (hb0R.block pb HBB.out.1))
   have HONE:=zh hone
   have HKM:=zh (show(KK=1∨KK=2)∧0≤MM∧MM≤2∧KK=kOf F v∧MM=mOf F v from⟨kk,m1,m2,hK,hMM⟩)
   obtain⟨W3,hW3⟩:=zx (wr.alloc (.cells #[.string nm,.int .i64 (p:Int)] 65))
   obtain⟨gv,hgv⟩:=zx wr.heap.size
   have hb3:Below wr.heap.size wr W3:=by rw[hW3];exact(Below.refl _ _).alloc (Nat.le_refl _) _
   have hgk:W3.heap[gv]?=some (.cells #[.string nm,.int .i64 (p:Int)] 65 (0,0)):=by rw[hW3,hgv];exact heap_alloc_new _ _
   have e1:W3.cell? ⟨gv,1,none⟩=some (.int .i64 (p:Int)):=by rw[cell_of_row _ _ _ _ _ _ hgk];rfl
   have HPOL3:=zh (range_same HPOL.out (hb3.block pb (Nat.lt_of_lt_of_le HBB.out.1 hb0R.size)))
   obtain⟨W4,hW4⟩:=zx ((W3.alloc (.cells #[.string ⟨#[]⟩,.int .i64 0,.int .i64 0,.int .i64 0,.int .i64 0,.int .i64 0,.int .i64 0,.int .i64 0,.int .i64 0,.slice none 0 0,.slice none 0 0,.bool false,.slice none 0 0,.slice none 0 0,.bool false,.slice none 0 0,.slice none 0 0] 63)).setCells W3.heap.size 0 [a0,.int .i64 KK,.int .i64 MM,.int .i64 QQ,a4,a5,a6,a7,a8,a9,a10,a11,a12,a13,a14,a15,a16])
   obtain⟨g,hg⟩:=zx W3.heap.size
   have hth:(W3.alloc (.cells #[.string ⟨#[]⟩,.int .i64 0,.int .i64 0,.int .i64 0,.int .i64 0,.int .i64 0,.int .i64 0,.int .i64 0,.int .i64 0,.slice none 0 0,.slice none 0 0,.bool false,.slice none 0 0,.slice none 0 0,.bool false,.slice none 0 0,.slice none 0 0] 63)).there W3.heap.size 0 17:=there_new (cs:=#[.string ⟨#[]⟩,.int .i64 0,.int .i64 0,.int .i64 0,.int .i64 0,.int .i64 0,.int .i64 0,.int .i64 0,.int .i64 0,.slice none 0 0,.slice none 0 0,.bool false,.slice none 0 0,.slice none 0 0,.bool false,.slice none 0 0,.slice none 0 0]) (heap_alloc_new W3 _) (Nat.le_refl 17)
   have hb4:Below W3.heap.size W3 W4:=by rw[hW4];exact below_setCellsV (Nat.le_refl _) _ _ _ ((Below.refl _ _).alloc (Nat.le_refl _) _)
   have hgr:W4.rangeAt g 0 [a0,.int .i64 KK,.int .i64 MM,.int .i64 QQ,a4,a5,a6,a7,a8,a9,a10,a11,a12,a13,a14,a15,a16]:=by rw[hW4,hg];exact World.rangeAt_setCells_same _ _ _ _ hth
   have hgl:g<W4.heap.size:=World.block_lt_of_cell? W4 _ (hgr 0 _ rfl)
   have hbr4:Below wr.heap.size wr W4:=hb3.trans (hb4.mono hb3.size)
   have HGR4:=zh hgr
   have HGL:=zh hgl
   have HB4:=zh (HBR.out.trans (hbr4.mono HBR.out.size))
   have HO4:=zh (HO.out.below hbr4)
   have hng:∀b,(Value.slice A7 n7 c7).ownBlock=some b→b≠g:=fun b e=>by have h1:=(HO.out.lt b e).2;have h2:=hb3.size;omega
   have HNG:=zh (show(Value.slice A7 n7 c7).ownBlock≠some g from fun e=>hng g e rfl)
   have HTH:=zh hth
   have HW3:=zh hW3
   have HGV:=zh hgv
   have HW4:=zh hW4
   have HG:=zh hg
   have HLTV:=zh hlt
   have ip:(p:Int)<(NP:Int):=by have:=HNN.out.2.1;omega
   have HC3:=zh (h0R.trans ((hb3.mono h0R.size)))
   have HC4:=zh (h0R.trans ((hbr4.mono h0R.size)))
   clear hvol hvol' hpol hone hW3 hgv hb3 hgk hW4 hg hth hb4 hgr hgl hbr4 hng hb0R kk q1 q2 hK hMM hQ hpp hpl m1 m2
   go_upto_region 8 with fail
   rw[←HW3.out,←HGV.out]
   clear l0 l1
   obtain⟨⟨c0,c1,c2,c3,c4,c5,c6⟩,-⟩:=HC.out W3 HC3.out
   go_upto_region 9 with (first | (refine wpList_load_mid rfl 63 (.tmp 32) rfl pb (pof+p * 17) (by rfl) [a0,.int .i64 KK,.int .i64 MM,.int .i64 QQ,a4,a5,a6,a7,a8,a9,a10,a11,a12,a13,a14,a15,a16] _ HPOL3.out Tryz.underlying63 rfl size_pol ?_) | (refine wpList_store_mid rfl 63 (.tmp 11) (.tmp 33) rfl W3.heap.size 0 #[a0,.int .i64 KK,.int .i64 MM,.int .i64 QQ,a4,a5,a6,a7,a8,a9,a10,a11,a12,a13,a14,a15,a16] (by rfl) (by rfl) HTH.out size_pol HONE.out ?_;rw[←HW4.out,←HG.out]))
   clear c0 c1 c2 c3 c4 c5 c6 e1
   obtain⟨⟨c0,c1,c2,c3,c4,c5,c6⟩,-⟩:=HC.out W4 HC4.out
   go_wp2_with fail
   clear c0 c1 c2 c3 c4 c5 c6
   go_loopg [8,36] EX (fun z v8 v36 wx=>∃s:Nat,s≤EX∧z=EX - s∧v36=.int .i64 (s:Int)∧Hid (OwnKy wx w2.heap.size v8 (KL v s))∧Hid (Below w2.heap.size w2 wx)∧Hid (wx.heap[g]?=W4.heap[g]?)∧Hid (v8.ownBlock≠some g))
   case atStart=>exact⟨0,by omega,rfl,rfl,HO4.out,HB4.out,rfl,HNG.out⟩
   case round =>
    clear HO HBR HO4 HB4 HNG
    obtain⟨s,hs,rfl,rfl,HO,HBR,HGE,HNE⟩:=hrel
    have h0x:=HB2.out.trans (HBR.out.mono HB2.out.size)
    by_cases hls:s<EX
    ·-- L2{
     have HMx:=zh (HM.out.below HBR.out HBM.out)
     have i1:I64 (v:Int):=by have:=HNN.out;unfold I64;omega
     have i2:I64 (s:Int):=by have:=HEXB.out;unfold I64;omega
     have hlk:=HMx.out.look_ok key_two Tryz.underlying97 (zero_fds _) i1 i2
     have HLT:=zh hls
     have HLV:=zh (show v<NO∧v<13∧EX≤2 from⟨HLTV.out,by have:=HNN.out;have:=HLTV.out;omega,HEXB.out.2⟩)
     unfold kv at hlk
     rcases HGR.out.1 (v:Int) (s:Int) i1 i2 with ⟨hv1,hv2⟩ | ⟨hv1,u,hv2,hv3⟩
     ·rw[hv2] at hlk
      simp only[Option.getD_none,Option.isSome_none] at hlk
      have HKV:=zh (show keyP F r cond (v,s)=false from by unfold keyP;simp only;rw[hv1];rfl)
      clear hv1 hv2 i1 i2
      go_upto_region 13 with fail
      go_quiet (fail)
      have HBZ:=zh (Below.drewN' (Below.refl wr.heap.size wr) nq)
      clear hlk
      go_wp2_with fail
      go_roundg (EX - (s+1))
      case measure=>have:=HLT.out;omega
      case rel=>exact⟨s+1,by have:=HLT.out;omega,rfl,by go_num,by rw[HKS.out,HKV.out,if_neg (by decide),List.append_nil];exact HO.out.below HBZ.out,HBR.out.trans (HBZ.out.mono HBR.out.size),HGE.out,HNE.out⟩
     ·rw[hv2] at hlk
      simp only[Option.getD_some,Option.isSome_some] at hlk
      obtain⟨Au,cu,hu⟩:=own_form hv3
      subst hu
      have hsl:=OwnFd.slBl hv3 (fun x hx=>HPD.out x (List.mem_filter.1 hx).1)
      have hfr:∀x∈stripeP (pieces r) (v:Int) (s:Int),0≤x.p.frag∧x.p.frag<8:=fun x hx=>by
       have h1:=validP_iff.1 (HPL.out x (List.mem_filter.1 hx).1).1
       exact⟨h1.2.2.1,h1.2.2.2.1⟩
      have hsx:=SlS.below fdK hsl HBR.out
      obtain⟨CB,hCB⟩:=zx (keyP F r cond (v,s))
      obtain⟨NA,hNA⟩:=zx ((outTo r false (stripeP (pieces r) (v:Int) (s:Int)) (KK+MM) 8).length)
      obtain⟨NU,hNU⟩:=zx ((outTo r true (stripeP (pieces r) (v:Int) (s:Int)) (KK+MM) 8).length)
      have hcb:cond (NA:Int) (NU:Int) KK=CB:=by
       rw[hCB,hNA,hNU,out_cnt,out_cnt];unfold keyP;simp only;rw[hv1,HKM.out.2.2.2.1,HKM.out.2.2.2.2];rfl
      have hre:=HRE.out wr (HB0.out.trans (h0x.mono HB0.out.size))
      have hkm:I64 (KK+MM):=by have:=HKM.out;unfold I64;omega
      obtain⟨LU,hLU⟩:=zx ((stripeP (pieces r) (v:Int) (s:Int)).length)
      rw[←hLU] at hlk hsx
      have HI1:=zh (show ∀w' (hb:Below wr.heap.size wr w'),Calls Tryz.prog 42 #[.agg #[vp0,vo0,va0],.slice Au LU cu,.int .i64 (KK+MM),.bool false] w' (fun e w''=>∃A c,e=.returned (.slice A NA c)∧Below w'.heap.size w' w'') from fun w' hb=>(intact_any vp0 vo0 va0 (.slice Au LU cu) r _ (KK+MM) false w' (hre.below hb) (SlS.below fdK hsx hb) hfr hkm).mono (fun e w'' ⟨u,he,ho,hb2⟩=>by obtain⟨A,c,hu⟩:=ho.form;exact⟨A,c,by rw[he,hu,←hNA],hb2⟩))
      have HI2:=zh (show ∀w' (hb:Below wr.heap.size wr w'),Calls Tryz.prog 42 #[.agg #[vp0,vo0,va0],.slice Au LU cu,.int .i64 (KK+MM),.bool true] w' (fun e w''=>∃A c,e=.returned (.slice A NU c)∧Below w'.heap.size w' w'') from fun w' hb=>(intact_any vp0 vo0 va0 (.slice Au LU cu) r _ (KK+MM) true w' (hre.below hb) (SlS.below fdK hsx hb) hfr hkm).mono (fun e w'' ⟨u,he,ho,hb2⟩=>by obtain⟨A,c,hu⟩:=ho.form;exact⟨A,c,by rw[he,hu,←hNU],hb2⟩))
      have HCL:=zh (fun w=>HC0.out (NA:Int) (NU:Int) KK w)
      rw[hcb] at HCL
      have HKV:=zh hCB.symm
      have hgx:g<wr.heap.size:=by
       rcases Nat.lt_or_ge g wr.heap.size with hx | hx
       ·exact hx
       ·have h1:=HGE.out;rw[Array.getElem?_eq_none hx,Array.getElem?_eq_getElem HGL.out] at h1;cases h1
      have HGX:=zh hgx
      have HYG:=zh (Nat.lt_of_lt_of_le HYL.out h0x.size)
      obtain⟨-,y0,y1,y2,-⟩:=HC.out wr h0x
      have hgrx:=range_same HGR4.out HGE.out
      have HS13:=zh (show HeldC wr y g vp0 vo0 va0 (.int .i64 KK) (.int .i64 MM) wr.drew from⟨y0,y1,y2,hgrx 1 _ rfl,hgrx 2 _ rfl,(Below.refl _ _).drew⟩)
      obtain⟨n8,hn8⟩:=zx ((KL v s).length)
      obtain⟨A8,c8,hv8⟩:=HO.out.form
      rw[←hn8] at hv8
      have HN8:=zh hn8
      subst hv8
      have HOW2:=zh (fun(w':World) (hb:Below wr.heap.size wr w')=>(show w'.ownsRow w2.heap.size 74 2 (.slice A8 n8 c8) n8 ((KL v s).flatMap keyC) from by rw[hn8];exact(by have h1:=HO.out.below hb;unfold OwnKy at h1;rw[←hn8] at h1 ⊢;exact h1)))
      have k1:1≤KK:=by have:=HKM.out;omega
      have k2:KK≤2:=by have:=HKM.out;omega
      have m1:=HKM.out.2.1
      have m2:=HKM.out.2.2.1
      have hwr:IntKind.i64.wrap (KK+MM)=KK+MM:=IntWalk.i64_in _ (by omega)
      clear hv1 hv2 hv3 hsl hfr hsx hCB hNA hNU hcb hre hkm hLU hgx y0 y1 y2 hgrx hn8 i1 i2
      go_upto_region 13 with fail
      clear hlk
      refine region_tail (S:=(fun w'=>w'.cell? ⟨y,0,none⟩=some vp0∧w'.cell? ⟨y,1,none⟩=some vo0∧w'.cell? ⟨y,2,none⟩=some va0∧w'.cell? ⟨g,1,none⟩=some (.int .i64 KK)∧w'.cell? ⟨g,2,none⟩=some (.int .i64 MM)∧Below wr.heap.size wr w')) [] (by kernel_rfl) HS13.out (fun hHeld=>?_)
      refine tk 0 47 ?_
      refine tk 1 48 ?_
      refine tk 2 49 ?_
      refine tk 3 50 ?_
      refine tk 4 51 ?_
      refine tk 5 52 ?_
      refine tk 6 53 ?_
      refine tk 7 54 ?_
      refine tk 8 55 ?_
      refine tk 9 56 ?_
      refine tk 12 59 ?_
      refine tk 13 60 ?_
      refine tk 14 61 ?_
      refine tk 15 62 ?_
      refine tk 16 63 ?_
      refine tk 17 64 ?_
      refine tk 18 65 ?_
      refine tk 21 68 ?_
      refine tk 22 69 ?_
      refine readyT (rs:=[10]) (by kernel_rfl) (by simp) ?_
      refine AllReadyT.cons rfl (fun K hK=>?_) ?_
      ·go_simp
       (go_at_call 42;refine(HI1.out _ (HeldC.bl (by assumption))).mono ?_;rintro e w5 ⟨A5,d5,rfl,hb5⟩)
       go_wp2_with fail
       refine hK.out _ _ ?_ (fun hHeld=>?_)
       ·(first|assumption|exact HeldC.below (by assumption) hb5 HYG.out HGX.out|exact HeldC.below (by assumption) hb6 HYG.out HGX.out)
       clear hK K
       (try simp only[Act.put,z1,z2,z3])
       refine tk 11 58 ?_
       refine readyT (rs:=[19]) (by kernel_rfl) (by simp) ?_
       refine AllReadyT.cons rfl (fun K hK=>?_) ?_
       ·go_simp
        (go_at_call 42;refine(HI2.out _ (HeldC.bl (by assumption))).mono ?_;rintro e w6 ⟨A6,d6,rfl,hb6⟩)
        go_wp2_with fail
        refine hK.out _ _ ?_ (fun hHeld=>?_)
        ·(first|assumption|exact HeldC.below (by assumption) hb5 HYG.out HGX.out|exact HeldC.below (by assumption) hb6 HYG.out HGX.out)
        clear hK K
        (try simp only[Act.put,z1,z2,z3])
        refine tk 20 67 ?_
        refine readyT (rs:=[23]) (by kernel_rfl) (by simp) ?_
        refine AllReadyT.cons rfl (fun K hK=>?_) ?_
        ·go_simp
         (go_at_call 34;refine(HCL.out _).mono ?_;rintro e w7 ⟨rfl,rfl⟩)
         go_wp2_with fail
         refine hK.out _ _ ?_ (fun hHeld=>?_)
         ·(first|assumption|exact HeldC.below (by assumption) hb5 HYG.out HGX.out|exact HeldC.below (by assumption) hb6 HYG.out HGX.out)
         clear hK K
         (try simp only[Act.put,z1,z2,z3])
         refine tk 24 71 ?_
         refine doneT (by kernel_rfl) ?_ _
         have HBZ:=zh (HeldC.bl hHeld)
         clear hHeld hb5 hb6
         cases hcb:CB with
         | false =>
          have hk:=HKV.out
          rw[hcb] at hk
          go_wp2_with fail
          go_roundg (EX - (s+1))
          case measure=>have:=HLT.out;omega
          case rel=>exact⟨s+1,by have:=HLT.out;omega,rfl,by go_num,by rw[HKS.out,hk,if_neg (by decide),List.append_nil];exact HO.out.below HBZ.out,HBR.out.trans (HBZ.out.mono HBR.out.size),(HBZ.out.block g HGX.out).trans HGE.out,HNE.out⟩
         | true =>
          have hk:=HKV.out
          rw[hcb] at hk
          have HOW:=zh (HO.out.below HBZ.out)
          go_wp2_with (at_builtin;refine app_ky v s (.tmp 72) (.tmp 76) rfl rfl w2.heap.size (.slice A8 n8 c8) n8 (KL v s) HN8.out.symm (by rfl) (HOW2.out _ HBZ.out) (by rfl) (by have:=HLE.out v s HLV.out.2.1 (by have:=HLT.out;have:=HLV.out;omega);have:=HN8.out;omega) (Nat.le_trans HBR.out.size HBZ.out.size) ?_;intro v9 w9 hown9 hg9 hat9;have HO9:=zh hown9;have HG9:=zh hg9;have HA9:=zh hat9;clear hown9 hg9 hat9)
          go_roundg (EX - (s+1))
          case measure=>have:=HLT.out;omega
          case rel =>
           refine⟨s+1,by have:=HLT.out;omega,rfl,by go_num,by rw[HKS.out,hk,if_pos rfl];exact HO9.out,?_,?_,?_⟩
           ·exact(HBR.out.trans (HBZ.out.mono HBR.out.size)).grown HG9.out (Nat.le_trans HBR.out.size HBZ.out.size) (fun b e=>(HO.out.lt b e).1)
           ·exact(HG9.out.block g (by have:=HGX.out;have:=HBZ.out.size;omega) (fun e=>HNE.out e.symm)).trans ((HBZ.out.block g HGX.out).trans HGE.out)
           ·rcases HA9.out with e | e
            ·rw[e];exact HNE.out
            ·rw[e];intro e2;injection e2 with e2;have:=HGX.out;have:=HBZ.out.size;omega
        exact AllReadyT.nil
       exact AllReadyT.nil
      exact AllReadyT.nil
    ·-- R2{
     obtain rfl:EX=s:=by omega
     go_wp2_with fail
     go_roundg (NO - (v+1))
     case measure=>have:=HLTV.out;omega
     case rel=>exact⟨v+1,by have:=HLTV.out;omega,rfl,by go_num,by rw[←HKN.out];exact HO.out,HBR.out⟩
  ·-- R1{
   obtain rfl:NO=v:=by omega
   go_wp2_with fail
   go_ret
   exact⟨_,rfl,HO.out.base (Nat.le_trans HB0.out.size HB2.out.size),HB0.out.trans (h0R.mono HB0.out.size)⟩
def HeldX(gi lb o:Nat) (a b:Value) (w':World):Prop:=w'.cell? ⟨gi,0,none⟩=some a∧w'.cell? ⟨lb,o,none⟩=some b
theorem HeldX.same{wc w2:World} {gi lb o:Nat} {a b:Value} (h:HeldX gi lb o a b wc) (e1:w2.heap[gi]?=wc.heap[gi]?) (e2:w2.heap[lb]?=wc.heap[lb]?):HeldX gi lb o a b w2 :=
 ⟨(World.cell?_of_block (w:=wc) e1).trans h.1,(World.cell?_of_block (w:=wc) e2).trans h.2⟩
theorem isStripe_any(ext:Int) (vl vm vd vv vp:Value) (A:Option Addr) (NO co v s:Nat) (w:World) (hv:v<NO) (hs:(s:Int)<ext) :
  Calls Tryz.prog 39 #[.agg #[.int .i64 ext,vl,vm,vd,vv,vp,.slice A NO co],.int .i64 (v:Int),.int .i64 (s:Int)] w fun e w'=>e=.returned (.bool true)∧Below w.heap.size w w':=by
 have f1:decide ((0:Int)≤(v:Int))=true:=decide_eq_true (by omega)
 have f2:decide ((0:Int)≤(s:Int))=true:=decide_eq_true (by omega)
 have i1:(v:Int)<(NO:Int):=by omega
 go_enter Tryz.func39,Tryz.ntmps39
 go_wp2_with fail
 go_ret
 exact⟨rfl,(Below.refl _ _).alloc (Nat.le_refl _) _⟩







theorem run_app_old{w:World} (base:Nat) (x0:ByteArray) (v:Value) (n:Nat) (xs:List Value) (ty:TypeId) (hown:w.ownsRow base 9 1 v n xs) (hn:n+1≤16777216) (hbase:base≤w.heap.size) :
  ∃v' w',(Builtin.append_ #[50,50] ty #[v,.slice (some ⟨w.heap.size,0,none⟩) 1 1]).run Tryz.prog (w.alloc (.cells #[.string x0] 9))=.ok v' w'∧w'.ownsRow base 9 1 v' (n+1) (xs++[.string x0])∧(w.alloc (.cells #[.string x0] 9)).grownBy w' v.ownBlock∧w'.ownsRow base 9 1 v n xs:=by
 obtain⟨i0,hi0,hz0,hz1,hz2⟩:=info_parts info_strV
 have hown':=hown.alloc (.cells #[.string x0] 9)
 have hnews:∀j u,[Value.string x0][j]?=some u→(w.alloc (.cells #[.string x0] 9)).cell? ((⟨w.heap.size,0,none⟩:Addr).add j)=some u:=cell_one_new w _ _
 have h1c:∀u∈[Value.string x0],u.oneCell'=true:=by intro u hu;rw[List.mem_singleton.1 hu];rfl
 obtain⟨v',w',hr,h2,h3,h4,h5⟩:=run_append_own_at (P:=Tryz.prog) (w.alloc (.cells #[.string x0] 9)) base 50 ty 9 i0 _ 1 16 Tryz.underlying50 hi0 hz0 hz1 hz2 rfl (by omega) v n xs hown' ⟨w.heap.size,0,none⟩ 1 1 [.string x0] rfl hnews h1c (by unfold maxLen;omega) (by omega) (by simp;omega)
 refine⟨v',w',hr,h2,h3,?_⟩
 rcases hown'.2 with ⟨rfl,rfl⟩ | ⟨g,cap,cur,rfl,hbg,hgc,hnc,hcm,hcs,htk⟩
 ·exact⟨hown.1,.inl ⟨rfl,rfl⟩⟩
 ·by_cases hroom:n+1≤cap
  ·have hr2:=run_append_room (P:=Tryz.prog) (w.alloc (.cells #[.string x0] 9)) 50 ty 9 i0 Tryz.underlying50 hi0 g n cap cur hgc ⟨w.heap.size,0,none⟩ 1 1 [.string x0] (by rw[hz1];rfl) hnews h1c hroom (by rw[hz1];simp;omega)
   rw[hr] at hr2
   injection hr2 with e1 e2
   rcases h2.2 with ⟨e3,_⟩ | ⟨g',cap',cur',e3,hbg',hgc',hnc',hcm',hcs',htk'⟩
   ·rw[e1] at e3;cases e3
   ·rw[e1] at e3
    injection e3 with e4 e5 e6
    injection e4 with e4
    injection e4 with e4
    subst e4
    subst e6
    refine⟨hown.1,.inr ⟨g,cap,cur',rfl,hbg,hgc',by omega,hcm',hcs',?_⟩⟩
    have:=congrArg (List.take (n * 1)) htk'
    rw[List.take_take,Nat.min_eq_left (by omega),List.take_left' (by rw[hown.1])] at this
    exact this
  ·have hr2:=run_append_grow (P:=Tryz.prog) (w.alloc (.cells #[.string x0] 9)) 50 ty 9 i0 _ Tryz.underlying50 hi0 hz0 ⟨g,0,none⟩ n cap xs (by rw[hz1];exact hown.1) (hown'.cells (g:=g) rfl) ⟨w.heap.size,0,none⟩ 1 1 [.string x0] (by rw[hz1];rfl) hnews (by omega) (by omega) (growslice_fits (by omega) (by rw[hz2];omega))
   rw[hr] at hr2
   injection hr2 with e1 e2
   have hgl:=(Array.getElem?_eq_some_iff.1 hgc).1
   refine⟨hown.1,.inr ⟨g,cap,cur,rfl,hbg,?_,hnc,hcm,hcs,htk⟩⟩
   rw[e2]
   exact(Below.heap_alloc _ _ g hgl).trans hgc

def HeldO(W0:World) (p b o:Nat) (x0 x1 x2 y0 y1 y2:Value) (w':World):Prop :=
 w'.cell? ⟨p,0,none⟩=some x0∧w'.cell? ⟨p,1,none⟩=some x1∧w'.cell? ⟨p,2,none⟩=some x2∧w'.cell? ⟨b,o,none⟩=some y0∧w'.cell? ⟨b,o+1,none⟩=some y1∧w'.cell? ⟨b,o+2,none⟩=some y2∧Below W0.heap.size W0 w'
theorem HeldO.below{W0 wc w2:World} {p b o:Nat} {x0 x1 x2 y0 y1 y2:Value} (h:HeldO W0 p b o x0 x1 x2 y0 y1 y2 wc) (hb:Below wc.heap.size wc w2) (hp:p<W0.heap.size) (hbb:b<W0.heap.size):HeldO W0 p b o x0 x1 x2 y0 y1 y2 w2:=by
 obtain⟨d0,d1,d2,e0,e1,e2,hB⟩:=h
 have hs:=hB.size
 have m:∀i,w2.cell? ⟨p,i,none⟩=wc.cell? ⟨p,i,none⟩:=fun i=>hb.cell (p:=⟨p,i,none⟩) (Nat.lt_of_lt_of_le hp hs)
 have m':∀i,w2.cell? ⟨b,i,none⟩=wc.cell? ⟨b,i,none⟩:=fun i=>hb.cell (p:=⟨b,i,none⟩) (Nat.lt_of_lt_of_le hbb hs)
 exact⟨(m _).trans d0,(m _).trans d1,(m _).trans d2,(m' _).trans e0,(m' _).trans e1,(m' _).trans e2,hB.trans (hb.mono hs)⟩
theorem HeldO.bl{W0 wc:World} {p b o:Nat} {x0 x1 x2 y0 y1 y2:Value} (h:HeldO W0 p b o x0 x1 x2 y0 y1 y2 wc):Below W0.heap.size W0 wc:=h.2.2.2.2.2.2
theorem HeldO.ls{W0 wc:World} {p b o:Nat} {x0 x1 x2 y0 y1 y2 v:Value} {l:List Nat} (h:HeldO W0 p b o x0 x1 x2 y0 y1 y2 wc) (hl:LS W0 (Bl W0.heap.size) v l):LS wc (Bl wc.heap.size) v l:=hl.below h.bl
theorem HeldO.set3{W0 wc:World} {p b o y:Nat} {x0 x1 x2 y0 y1 y2 v0 v1 v2:Value} (h:HeldO W0 p b o x0 x1 x2 y0 y1 y2 wc) (hy:W0.heap.size≤y) (hp:p<W0.heap.size) (hbb:b<W0.heap.size):HeldO W0 p b o x0 x1 x2 y0 y1 y2 (((wc.setCell ⟨y,0,none⟩ v0).setCell ⟨y,1,none⟩ v1).setCell ⟨y,2,none⟩ v2):=by
 obtain⟨d0,d1,d2,e0,e1,e2,hB⟩:=h
 have m:∀i,(((wc.setCell ⟨y,0,none⟩ v0).setCell ⟨y,1,none⟩ v1).setCell ⟨y,2,none⟩ v2).cell? ⟨p,i,none⟩=wc.cell? ⟨p,i,none⟩:=fun i=>World.cell?_of_block (a:=⟨p,i,none⟩) (kept_set3 wc y v0 v1 v2 (fun q=>q=p) (fun q e=>by omega) p rfl)
 have m':∀i,(((wc.setCell ⟨y,0,none⟩ v0).setCell ⟨y,1,none⟩ v1).setCell ⟨y,2,none⟩ v2).cell? ⟨b,i,none⟩=wc.cell? ⟨b,i,none⟩:=fun i=>World.cell?_of_block (a:=⟨b,i,none⟩) (kept_set3 wc y v0 v1 v2 (fun q=>q=b) (fun q e=>by omega) b rfl)
 exact⟨(m _).trans d0,(m _).trans d1,(m _).trans d2,(m' _).trans e0,(m' _).trans e1,(m' _).trans e2,below_set3 hB hy v0 v1 v2⟩


def condR(lost:Bool) (a u k:Int):Bool:=if lost then decide (a<k) else !decide (a<k)&&decide (u<k)
def HeldY(W0:World) (z y:Nat) (a b c d e f g p q r:Value) (w':World):Prop :=
 w'.cell? ⟨z,0,none⟩=some a∧w'.cell? ⟨z,1,none⟩=some b∧w'.cell? ⟨z,2,none⟩=some c∧w'.cell? ⟨z,3,none⟩=some d∧w'.cell? ⟨z,4,none⟩=some e∧w'.cell? ⟨z,5,none⟩=some f∧w'.cell? ⟨z,6,none⟩=some g ∧
 w'.cell? ⟨y,0,none⟩=some p∧w'.cell? ⟨y,1,none⟩=some q∧w'.cell? ⟨y,2,none⟩=some r∧Below W0.heap.size W0 w'
theorem HeldY.bl{W0 wc:World} {z y:Nat} {a b c d e f g p q r:Value} (h:HeldY W0 z y a b c d e f g p q r wc):Below W0.heap.size W0 wc:=h.2.2.2.2.2.2.2.2.2.2
theorem HeldY.below{W0 wc w2:World} {z y:Nat} {a b c d e f g p q r:Value} (h:HeldY W0 z y a b c d e f g p q r wc) (hb:Below wc.heap.size wc w2) (h1:z<W0.heap.size) (h2:y<W0.heap.size):HeldY W0 z y a b c d e f g p q r w2:=by
 have hs:=h.bl.size
 have hB:=h.bl
 obtain⟨c0,c1,c2,c3,c4,c5,c6,d0,d1,d2,-⟩:=h
 have k:∀i,w2.cell? ⟨z,i,none⟩=wc.cell? ⟨z,i,none⟩:=fun i=>hb.cell (p:=⟨z,i,none⟩) (Nat.lt_of_lt_of_le h1 hs)
 have k':∀i,w2.cell? ⟨y,i,none⟩=wc.cell? ⟨y,i,none⟩:=fun i=>hb.cell (p:=⟨y,i,none⟩) (Nat.lt_of_lt_of_le h2 hs)
 exact⟨(k _).trans c0,(k _).trans c1,(k _).trans c2,(k _).trans c3,(k _).trans c4,(k _).trans c5,(k _).trans c6,(k' _).trans d0,(k' _).trans d1,(k' _).trans d2,hB.trans (hb.mono hs)⟩
theorem HeldY.start{W0 wz:World} {z y:Nat} {a b c d e f g p q r:Value} (h:HeldY W0 z y a b c d e f g p q r wz):HeldY wz z y a b c d e f g p q r wz.drew:=by
 obtain⟨c0,c1,c2,c3,c4,c5,c6,d0,d1,d2,-⟩:=h
 exact⟨c0,c1,c2,c3,c4,c5,c6,d0,d1,d2,(Below.refl _ _).drew⟩
theorem lost1_any(a u k:Int) (w:World):Calls Tryz.prog 34 #[.int .i64 a,.int .i64 u,.int .i64 k] w fun e w'=>e=.returned (.bool (condR true a u k))∧w=w':=by
 have hc:condR true a u k=decide (a<k):=rfl
 rw[hc]
 go_enter Tryz.func34,Tryz.ntmps34
 go_wp2_with fail
 go_ret
 exact⟨rfl,rfl⟩
theorem lost_any(N:Nat) (hN:N≤12) (vl vm vd vv vp vo vp0 vo0 va0:Value) (F:FltM) (r:Re) (w:World) (hf:FleetS w (Bl w.heap.size) vl vm vd vv vp vo F) (hok:FleetOk N F) (h:ReS w (Bl w.heap.size) vp0 vo0 va0 r) (hp:r.plat.length≤1000) (hl:∀l∈r.plat,l.length≤1000) (hac:r.acks.length≤1000000) :
  Calls Tryz.prog 13 #[.agg #[.int .i64 F.ext,vl,vm,vd,vv,vp,vo],.agg #[vp0,vo0,va0]] w fun e w'=>∃u,e=.returned u∧OwnKy w' w.heap.size u (keyL F r (condR true) F.ext.toNat F.vols.length 0)∧Below w.heap.size w w':=by
 obtain⟨W0,hW0⟩:=zx ((w.alloc (.cells #[.int .i64 F.ext,vl,vm,vd,vv,vp,vo] 37)).alloc (.cells #[vp0,vo0,va0] 27))
 obtain⟨z,hz⟩:=zx w.heap.size
 obtain⟨y,hy⟩:=zx (w.heap.size+1)
 have hb0:Below w.heap.size w W0:=by rw[hW0];exact((Below.refl _ _).alloc (Nat.le_refl _) _).alloc (by simp) _
 have hyk:W0.heap[y]?=some (.cells #[vp0,vo0,va0] 27 (0,0)):=by
  rw[hW0];exact heap_alloc_at _ _ _ (by rw[hy];simp)
 have hzk:W0.heap[z]?=some (.cells #[.int .i64 F.ext,vl,vm,vd,vv,vp,vo] 37 (0,0)):=by
  rw[hW0,hz];exact(Below.heap_alloc _ _ _ (by simp)).trans (heap_alloc_new w _)
 obtain⟨c0,c1,c2,c3,c4,c5,c6⟩:=cells7 hzk
 obtain⟨d0,d1,d2,-⟩:=cells3 hyk
 have HV:=zh (missingL_any (condR true) lost1_any N hN vl vm vd vv vp vo vp0 vo0 va0 F r W0 (hf.below hb0) hok (h.below hb0) hp hl hac)
 have HW0:=zh hW0
 have HZ:=zh hz
 have HY:=zh hy
 have HB0:=zh hb0
 obtain⟨EX,hEX⟩:=zx F.ext
 obtain⟨KL,hKL⟩:=zx (keyL F r (condR true) F.ext.toNat F.vols.length 0)
 rw[←hKL] at HV ⊢
 rw[←hEX] at HV HW0 c0 ⊢
 clear hf hok h hp hl hac hW0 hz hy hb0 hzk hyk hEX hKL
 go_enter Tryz.func13,Tryz.ntmps13
 go_upto_region 1 with fail
 rw[←HW0.out,←HY.out,←HZ.out]
 go_wp2_with fail
 refine HV.out.mono ?_
 rintro e w1 ⟨u,rfl,ho,hb1⟩
 have HB1:=zh hb1
 have HO:=zh ho
 clear c0 c1 c2 c3 c4 c5 c6 d0 d1 d2 hb1 ho
 go_wp2_with fail
 go_ret
 exact⟨_,rfl,HO.out.base HB0.out.size,HB0.out.trans (HB1.out.mono HB0.out.size)⟩
theorem isStripe_no(ext:Int) (vl vm vd vv vp:Value) (A:Option Addr) (NO co:Nat) (v s:Int) (w:World) (hn:¬(0≤v∧v<(NO:Int)∧0≤s∧s<ext)) :
  Calls Tryz.prog 39 #[.agg #[.int .i64 ext,vl,vm,vd,vv,vp,.slice A NO co],.int .i64 v,.int .i64 s] w fun e w'=>e=.returned (.bool false)∧Below w.heap.size w w':=by
 by_cases h1:0≤v
 ·have f1:decide (0≤v)=true:=decide_eq_true h1
  by_cases h2:v<(NO:Int)
  ·have f2:decide (v<(NO:Int))=true:=decide_eq_true h2
   by_cases h3:0≤s
   ·have f3:decide (0≤s)=true:=decide_eq_true h3
    have f4:decide (s<ext)=false:=decide_eq_false (fun h4=>hn ⟨h1,h2,h3,h4⟩)
    clear h1 h2 h3 hn
    go_enter Tryz.func39,Tryz.ntmps39
    go_wp2_with fail
    go_ret
    exact⟨rfl,(Below.refl _ _).alloc (Nat.le_refl _) _⟩
   ·have f3:decide (0≤s)=false:=decide_eq_false h3
    clear h1 h2 h3 hn
    go_enter Tryz.func39,Tryz.ntmps39
    go_wp2_with fail
    go_ret
    exact⟨rfl,(Below.refl _ _).alloc (Nat.le_refl _) _⟩
  ·have f2:decide (v<(NO:Int))=false:=decide_eq_false h2
   clear h1 h2 hn
   go_enter Tryz.func39,Tryz.ntmps39
   go_wp2_with fail
   go_ret
   exact⟨rfl,(Below.refl _ _).alloc (Nat.le_refl _) _⟩
 ·have f1:decide (0≤v)=false:=decide_eq_false h1
  clear h1 hn
  go_enter Tryz.func39,Tryz.ntmps39
  go_wp2_with fail
  go_ret
  exact⟨rfl,(Below.refl _ _).alloc (Nat.le_refl _) _⟩
def ackB(v s:Int) (a:Ac):Bool:=a.vol==v&&a.stripe==s
def idxA(l:List Ac) (v s:Int):Int:=match l.findIdx? (ackB v s) with | some j=>(j:Int) | none => -1
theorem idxA_hit{l:List Ac} {v s:Int} {j:Nat} (hn:∀t (h:t<l.length),t<j→ackB v s l[t]=false) (hj:j<l.length) (hb:ackB v s l[j]=true):idxA l v s=(j:Int):=by
 unfold idxA
 have:l.findIdx? (ackB v s)=some j:=by
  rw[List.findIdx?_eq_some_iff_getElem]
  exact⟨hj,hb,fun t ht=>by rw[hn t (by omega) ht];simp⟩
 rw[this]
theorem idxA_miss{l:List Ac} {v s:Int} (hn:∀t (h:t<l.length),ackB v s l[t]=false):idxA l v s = -1:=by
 unfold idxA
 have:l.findIdx? (ackB v s)=none:=by
  rw[List.findIdx?_eq_none_iff]
  intro x hx
  obtain⟨t,ht,rfl⟩:=List.getElem_of_mem hx
  exact hn t ht
 rw[this]
theorem idxA_cases(l:List Ac) (v s:Int):(idxA l v s = -1∧verOf l v s=none)∨∃(j:Nat) (hj:j<l.length),idxA l v s=(j:Int)∧verOf l v s=some l[j].ver:=by
 unfold idxA verOf
 cases h:l.findIdx? (ackB v s) with
 | none =>
  left
  refine⟨rfl,?_⟩
  rw[List.findIdx?_eq_none_iff] at h
  have:l.find? (fun a=>a.vol==v&&a.stripe==s)=none:=by
   rw[List.find?_eq_none]
   intro x hx
   have:=h x hx
   unfold ackB at this
   simpa using this
  rw[this];rfl
 | some j =>
  right
  rw[List.findIdx?_eq_some_iff_getElem] at h
  obtain⟨hj,hb,hn⟩:=h
  refine⟨j,hj,rfl,?_⟩
  have:l.find? (fun a=>a.vol==v&&a.stripe==s)=some l[j]:=by
   rw[List.find?_eq_some_iff_getElem]
   exact⟨hb,j,hj,rfl,fun t ht=>by
    have h3:(l[t].vol==v&&l[t].stripe==s)=false:=by have:=hn t ht;unfold ackB at this;simpa using this
    rw[h3];rfl⟩
  rw[this];rfl
theorem ack1_any(b0 b1 b2 b3 v s:Int) (g:Nat) (w:World) (h0:w.cell? ⟨g,0,none⟩=some (.int .i64 v)) (h1:w.cell? ⟨g,1,none⟩=some (.int .i64 s)) :
  Calls Tryz.prog 41 #[.agg #[.int .i64 b0,.int .i64 b1,.int .i64 b2,.int .i64 b3],.pointer (some ⟨g,0,none⟩)] w fun e w'=>e=.returned (.bool (b0==v&&b1==s))∧Below w.heap.size w w':=by
 obtain⟨W0,hW0⟩:=zx (w.alloc (.cells #[.int .i64 b0,.int .i64 b1,.int .i64 b2,.int .i64 b3] 53))
 obtain⟨q,hq⟩:=zx w.heap.size
 have hb0:Below w.heap.size w W0:=by rw[hW0];exact(Below.refl _ _).alloc (Nat.le_refl _) _
 have n0:W0.cell? ⟨q,0,none⟩=some (.int .i64 b0):=by rw[hW0,hq];simp
 have n1:W0.cell? ⟨q,1,none⟩=some (.int .i64 b1):=by rw[hW0,hq];simp
 have mv:∀b o x,w.cell? ⟨b,o,none⟩=some x→W0.cell? ⟨b,o,none⟩=some x:=fun b o x hx=>(hb0.cell (p:=⟨b,o,none⟩) (World.block_lt_of_cell? w _ hx)).trans hx
 have k0:=mv _ _ _ h0
 have k1:=mv _ _ _ h1
 have HW0:=zh hW0
 have HG:=zh hq
 have HB0:=zh hb0
 clear h0 h1 hW0 hq hb0 mv
 cases hc:(b0==v) with
 | false =>
  go_enter Tryz.func41,Tryz.ntmps41
  go_upto_region 1 with fail
  rw[←HW0.out,←HG.out]
  go_wp2_with fail
  go_ret
  exact⟨rfl,HB0.out⟩
 | true =>
  cases hd:(b1==s) with
  | false =>
   go_enter Tryz.func41,Tryz.ntmps41
   go_upto_region 1 with fail
   rw[←HW0.out,←HG.out]
   go_wp2_with fail
   go_ret
   exact⟨rfl,HB0.out⟩
  | true =>
   go_enter Tryz.func41,Tryz.ntmps41
   go_upto_region 1 with fail
   rw[←HW0.out,←HG.out]
   go_wp2_with fail
   go_ret
   exact⟨rfl,HB0.out⟩
theorem indexa_any(vl:Value) (l:List Ac) (v s:Int) (g:Nat) (w:World) (hl:SlS 4 AcK w (Bl w.heap.size) vl l) (h0:w.cell? ⟨g,0,none⟩=some (.int .i64 v)) (h1:w.cell? ⟨g,1,none⟩=some (.int .i64 s)) :
  Calls Tryz.prog 40 #[vl,.func (.func 41) #[] #[.pointer (some ⟨g,0,none⟩)]] w fun e w'=>e=.returned (.int .i64 (idxA l v s))∧Below w.heap.size w w':=by
 obtain⟨A,c,rfl,-,hm⟩:=hl.form
 unfold maxLen at hm
 have HL:=zh hl
 have mv:=fun(w':World) (hb:Below w.heap.size w w') b o x (hx:w.cell? ⟨b,o,none⟩=some x)=>(hb.cell (p:=⟨b,o,none⟩) (World.block_lt_of_cell? w _ hx)).trans hx
 have HCL:=zh (fun(w':World) (hb:Below w.heap.size w w') b0 b1 b2 b3=>ack1_any b0 b1 b2 b3 v s g w' (mv w' hb _ _ _ h0) (mv w' hb _ _ _ h1))
 obtain⟨L,hL⟩:=zx l.length
 rw[←hL] at HL hm ⊢
 have HLL:=zh hL
 clear hl h0 h1 mv hL
 go_enter Tryz.func40,Tryz.ntmps40
 go_wp2_with fail
 go_loopg [8] L (fun z v8 wr=>∃j:Nat,j≤L∧z=L - j∧v8=.int .i64 (j:Int)∧Hid (∀t (h:t<l.length),t<j→ackB v s l[t]=false)∧Hid (Below w.heap.size w wr))
 case atStart=>exact⟨0,by omega,rfl,rfl,fun t _ ht=>absurd ht (Nat.not_lt_zero t),Below.refl _ _⟩
 case round =>
  obtain⟨j,hj,rfl,rfl,HNO,HBR⟩:=hrel
  by_cases hlt:j<L
  ·have hjl:j<l.length:=by rw[←HLL.out];exact hlt
   obtain⟨b,off,cs,rfl,hRb,-,hcs,hfk,-⟩:=HL.out.at_ (k:=j) hjl
   have hsv:ackB v s l[j]=(l[j].vol==v&&l[j].stripe==s):=rfl
   obtain⟨x,hx⟩:=zx (l[j])
   rw[←hx] at hfk hsv
   have HX:=zh hx
   subst hfk
   have kk:∀i u,w.cell? ⟨b,i,none⟩=some u→wr.cell? ⟨b,i,none⟩=some u:=fun i u e=>(HBR.out.cell (p:=⟨b,i,none⟩) hRb).trans e
   obtain⟨b0,b1,b2,b3⟩:=x
   simp only at hcs hsv
   obtain⟨d0,d1,d2,d3⟩:=four hcs rfl
   have m0:=kk _ _ d0
   have m1:=kk _ _ d1
   have m2:=kk _ _ d2
   have m3:=kk _ _ d3
   have HC:=zh (HCL.out wr HBR.out b0 b1 b2 b3)
   obtain⟨sb,hsb⟩:=zx ((b0==v&&b1==s))
   rw[←hsb] at HC hsv
   have HSV:=zh hsv
   clear hcs hsv hx kk hsb hRb d0 d1 d2 d3
   go_wp2_with fail
   refine HC.out.mono ?_
   rintro e w1 ⟨rfl,hb1⟩
   have HB1:=zh (HBR.out.trans (hb1.mono HBR.out.size))
   clear hb1 m0 m1 m2 m3
   cases hs:sb with
   | true =>
    have HS:=zh hs
    go_wp2_with fail
    go_ret
    refine⟨?_,HB1.out⟩
    have hjl:j<l.length:=by rw[←HLL.out];exact hlt
    rw[idxA_hit HNO.out hjl (by rw[←HX.out,HSV.out];exact HS.out)]
    rfl
   | false =>
    have HS:=zh hs
    go_wp2_with fail
    go_roundg (L - (j+1))
    case measure=>omega
    case rel =>
     refine⟨j+1,by omega,rfl,by go_num,?_,HB1.out⟩
     intro t ht htj
     rcases Nat.lt_or_ge t j with h1 | h1
     ·exact HNO.out t ht h1
     ·obtain rfl:t=j:=by omega
      rw[←HX.out,HSV.out];exact HS.out
  ·obtain rfl:L=j:=by omega
   go_wp2_with fail
   go_ret
   refine⟨?_,HBR.out⟩
   rw[idxA_miss (fun t ht=>HNO.out t ht (by rw[HLL.out];exact ht))]
   rfl
def harmC(F:FltM) (b a:Re) (v s:Nat):Bool :=
 match verOf b.acks (v:Int) (s:Int) with
 | none=>true
 | some x=>if verOf a.acks (v:Int) (s:Int)=some x then(intI b (v:Int) (s:Int) false).all (fun i=>decide (i∈intI a (v:Int) (s:Int) false)) else decide (qOf F v≤cntI a v s false (kOf F v+mOf F v))
def harmP(F:FltM) (b a:Re) (x:Nat×Nat):Bool:=harmC F b a x.1 x.2
def harmB(F:FltM) (b a:Re) (ext NV:Nat):Bool:=(keysTo ext NV 0).all (harmP F b a)
theorem harm_none{F:FltM} {b a:Re} {v s:Nat} (h:verOf b.acks (v:Int) (s:Int)=none):harmC F b a v s=true:=by unfold harmC;rw[h]
theorem harm_new{F:FltM} {b a:Re} {v s:Nat} {x:Int} (h:verOf b.acks (v:Int) (s:Int)=some x) (h2:verOf a.acks (v:Int) (s:Int)≠some x):harmC F b a v s=decide (qOf F v≤cntI a v s false (kOf F v+mOf F v)):=by
 unfold harmC;rw[h];simp only;rw[if_neg h2]
theorem harm_old{F:FltM} {b a:Re} {v s:Nat} {x:Int} (h:verOf b.acks (v:Int) (s:Int)=some x) (h2:verOf a.acks (v:Int) (s:Int)=some x):harmC F b a v s=(intI b (v:Int) (s:Int) false).all (fun i=>decide (i∈intI a (v:Int) (s:Int) false)):=by
 unfold harmC;rw[h];simp only;rw[if_pos h2]
theorem in_keysTo{ext NV v s:Nat} (hv:v<NV) (hs:s<ext):(v,s)∈keysTo ext NV 0:=by
 unfold keysTo
 rw[List.mem_append]
 left
 rw[List.mem_flatMap]
 exact⟨v,by simpa using hv,by rw[List.mem_map];exact⟨s,by simpa using hs,rfl⟩⟩
theorem harm_false{F:FltM} {b a:Re} {ext NV v s:Nat} (hv:v<NV) (hs:s<ext) (h:harmC F b a v s=false):harmB F b a ext NV=false:=by
 unfold harmB
 rw[List.all_eq_false]
 exact⟨(v,s),in_keysTo hv hs,by unfold harmP;simp only;rw[h];decide⟩
theorem harm_true{F:FltM} {b a:Re} {ext NV:Nat} (h:∀v s,v<NV→s<ext→harmC F b a v s=true):harmB F b a ext NV=true:=by
 unfold harmB
 rw[List.all_eq_true]
 intro x hx
 obtain⟨v,s⟩:=x
 have:=keysTo_mem hx
 exact h v s this.1 this.2
def seenF(ext NV:Nat) (l:List Ac):Int→Int→Option Value:=fun x y=>if(verOf l x y).isSome=true∧(0≤x∧x<(NV:Int)∧0≤y∧y<(ext:Int)) then some (.bool true) else none
theorem verOf_snoc(l:List Ac) (j:Nat) (hj:j<l.length) (x y:Int):(verOf (l.take (j+1)) x y).isSome=true↔(verOf (l.take j) x y).isSome=true∨(l[j].vol=x∧l[j].stripe=y):=by
 by_cases h:(verOf (l.take j) x y).isSome=true
 ·rw[verOf_have hj h];simp[h]
 ·have hn:verOf (l.take j) x y=none:=by simpa using h
  by_cases h2:l[j].vol=x∧l[j].stripe=y
  ·obtain⟨rfl,rfl⟩:=h2
   rw[verOf_new hj hn];simp
  ·rw[verOf_take hn hj h2];simp[h2,hn]
theorem seen_skip{ext NV:Nat} {l:List Ac} {j:Nat} (hj:j<l.length) (h:(verOf (l.take j) l[j].vol l[j].stripe).isSome=true∨¬(0≤l[j].vol∧l[j].vol<(NV:Int)∧0≤l[j].stripe∧l[j].stripe<(ext:Int))):∀x y,seenF ext NV (l.take j) x y=seenF ext NV (l.take (j+1)) x y:=by
 intro x y
 unfold seenF
 congr 1
 rw[eq_iff_iff,verOf_snoc l j hj]
 constructor
 ·rintro ⟨h1,h2⟩;exact⟨.inl h1,h2⟩
 ·rintro ⟨h1 | ⟨rfl,rfl⟩,h2⟩
  ·exact⟨h1,h2⟩
  ·rcases h with h | h
   ·exact⟨h,h2⟩
   ·exact absurd h2 h
theorem seen_new{ext NV:Nat} {l:List Ac} {j:Nat} (hj:j<l.length) (h:0≤l[j].vol∧l[j].vol<(NV:Int)∧0≤l[j].stripe∧l[j].stripe<(ext:Int)):∀x y,upd (seenF ext NV (l.take j)) l[j].vol l[j].stripe (.bool true) x y=seenF ext NV (l.take (j+1)) x y:=by
 intro x y
 by_cases hxy:x=l[j].vol∧y=l[j].stripe
 ·obtain⟨rfl,rfl⟩:=hxy
  rw[upd_same]
  unfold seenF
  rw[if_pos ⟨(verOf_snoc l j hj _ _).2 (.inr ⟨rfl,rfl⟩),h⟩]
 ·rw[upd_other hxy]
  unfold seenF
  congr 1
  rw[eq_iff_iff,verOf_snoc l j hj]
  constructor
  ·rintro ⟨h1,h2⟩;exact⟨.inl h1,h2⟩
  ·rintro ⟨h1 | ⟨e1,e2⟩,h2⟩
   ·exact⟨h1,h2⟩
   ·exact absurd ⟨e1.symm,e2.symm⟩ hxy
theorem seen_at{ext NV:Nat} {l:List Ac} {x y:Int}:seenF ext NV l x y=none∨seenF ext NV l x y=some (.bool true):=by
 unfold seenF
 split
 ·exact .inr rfl
 ·exact .inl rfl
def HarmTo(F:FltM) (b a:Re) (ext NV j:Nat):Prop:=∀v s:Nat,v<NV→s<ext→(verOf (b.acks.take j) (v:Int) (s:Int)).isSome=true→harmC F b a v s=true
theorem HarmTo.skip{F:FltM} {b a:Re} {ext NV j:Nat} (h:HarmTo F b a ext NV j) (hj:j<b.acks.length) (h2:(verOf (b.acks.take j) b.acks[j].vol b.acks[j].stripe).isSome=true∨¬(0≤b.acks[j].vol∧b.acks[j].vol<(NV:Int)∧0≤b.acks[j].stripe∧b.acks[j].stripe<(ext:Int))):HarmTo F b a ext NV (j+1):=by
 intro v s hv hs hx
 rcases (verOf_snoc b.acks j hj _ _).1 hx with h1 | ⟨e1,e2⟩
 ·exact h v s hv hs h1
 ·rcases h2 with h2 | h2
  ·rw[e1,e2] at h2;exact h v s hv hs h2
  ·exact absurd (by rw[e1,e2];omega) h2
theorem HarmTo.step{F:FltM} {b a:Re} {ext NV j:Nat} (h:HarmTo F b a ext NV j) (hj:j<b.acks.length) {v s:Nat} (e1:b.acks[j].vol=(v:Int)) (e2:b.acks[j].stripe=(s:Int)) (h2:harmC F b a v s=true):HarmTo F b a ext NV (j+1):=by
 intro v' s' hv hs hx
 rcases (verOf_snoc b.acks j hj _ _).1 hx with h1 | ⟨d1,d2⟩
 ·exact h v' s' hv hs h1
 ·obtain rfl:v=v':=by rw[e1] at d1;omega
  obtain rfl:s=s':=by rw[e2] at d2;omega
  exact h2
theorem HarmTo.done{F:FltM} {b a:Re} {ext NV:Nat} (h:HarmTo F b a ext NV b.acks.length):harmB F b a ext NV=true:=harm_true fun v s hv hs=>by
 cases hx:verOf b.acks (v:Int) (s:Int) with
 | none=>exact harm_none hx
 | some x=>exact h v s hv hs (by rw[List.take_of_length_le (Nat.le_refl _),hx];rfl)
theorem int_none{r:Re} {v s:Int} (h:verOf r.acks v s=none):intI r v s false=[]:=by
 unfold intI
 rw[intTo_out r (pieces r) v s false 8 8 (by omega)]
 have:stripeP (pieces r) v s=[]:=by
  unfold stripeP
  rw[List.filter_eq_nil_iff]
  intro x hx hc
  have h1:=(piecesTo_all r r.plat.length x hx).2
  simp only[Bool.and_eq_true,beq_iff_eq] at hc
  rw[hc.1,hc.2,h] at h1
  cases h1
 rw[this]
 unfold outTo
 rw[List.filterMap_eq_nil_iff]
 intro i _
 unfold hasB
 simp
end Go.Proofs.YtmehadfhcdpfcaaGreat
