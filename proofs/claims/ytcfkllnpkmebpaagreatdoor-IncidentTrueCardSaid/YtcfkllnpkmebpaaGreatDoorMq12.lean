/- What a made reality holds: stripes, sectors, a sector with a burst flipped (the reference's Flip walked anew, with what it leaves alone). -/
import Derived.Test.YtcfkllnpkmebpaaGreatDoorMq10
import Derived.Test.YtcfkllnpkmebpaaGreatDoorMq01
import Derived.Deep.AppendLies
import Derived.Deep.CutBlock
import Derived.Deep.CutRange
import Derived.Deep.MidRow
set_option linter.unusedSectionVars false
set_option maxRecDepth 100000
set_option maxHeartbeats 12800000
namespace Go.Proofs.YtcfkllnpkmebpaaGreatDoor
open Go.RowKit
set_option linter.unusedVariables false
set_option linter.unusedSimpArgs false
def bitAt(l:List UInt8) (p:Nat):Bool:=(l.getD (p / 8) 0).toNat.testBit (7 - p % 8)
def Win(bit:Nat) (l x:List UInt8):Prop:=x.length=l.length∧∀p,p<bit∨bit+32≤p→bitAt x p=bitAt l p
theorem Win.refl(bit:Nat) (l:List UInt8):Win bit l l:=⟨rfl,fun _ _=>rfl⟩
theorem bitAt_set{x:List UInt8} {q k:Nat} {y:UInt8} (hq:q<x.length) (hk:k<8) (hy:y.toNat=x[q].toNat ^^^ 2 ^ (7 - k)) (p:Nat) (hp:p≠8 * q+k):bitAt (x.set q y) p=bitAt x p:=by
 unfold bitAt;by_cases h:p / 8=q
 ·rw[h]
  have h1:(x.set q y).getD q 0=y:=by rw[List.getD,List.getElem?_set_self hq];rfl
  have h2:x.getD q 0=x[q]:=by rw[List.getD,List.getElem?_eq_getElem hq];rfl
  rw[h1,h2,hy,Nat.testBit_xor]
  have h3:(2 ^ (7 - k)).testBit (7 - p % 8)=false:=by rw[Nat.testBit_two_pow_of_ne];omega
  rw[h3];simp
 ·have h1:(x.set q y).getD (p / 8) 0=x.getD (p / 8) 0:=by rw[List.getD,List.getD,List.getElem?_set_ne (by omega)]
  rw[h1]
theorem flip_win(l:List UInt8) (bit:Nat) (mask:Int) (w:World) (hl:l.length≤65536) (hb:bit≤8 * l.length) (hm:0≤mask∧mask≤4294967295) :
  Calls Tryz.prog 35 #[.string ⟨l.toArray⟩,.int .i64 (bit:Int),.int .u32 mask] w fun e w'=>∃x:List UInt8,e=.returned (.string ⟨x.toArray⟩)∧Win bit l x∧Below w.heap.size w w':=by
 obtain⟨W2,cap2,hrun,hbW2,hltW,hcap,hbuf⟩:=run_bytes_ex (P:=Tryz.prog) w 9 53 5 l Tryz.underlying9 Tryz.underlying53 Tryz.underlying5;obtain⟨hm0,hm1⟩:=hm;go_enter Tryz.func35,Tryz.ntmps35;go_wp2;obtain⟨g,hg⟩:=zx w.heap.size;rw[←hg] at hbuf hltW ⊢
 have hgw:w.heap.size≤g:=by omega
 clear hg;go_loopg [8] 32 (fun n v8 wr=>∃(i:Nat) (x:List UInt8),i≤32∧n=32 - i∧v8=.int .i64 (i:Nat)∧BufAt wr g x∧Hid (Win bit l x)∧Below w.heap.size w wr)
 case atStart=>exact⟨0,l,by omega,rfl,rfl,hbuf,Win.refl _ _,hbW2⟩
 case round =>
  clear hbuf hbW2;obtain⟨i,x,hi,rfl,rfl,hbuf,hx,hbr⟩:=hrel;have hxl:=zh hx.out.1;by_cases hlt:i<32
  ·have h31:(0:Int)≤31 - (i:Int):=by omega
   by_cases hat:(bit:Int)+(i:Int)<8 * (l.length:Int)
   ·have hq:(bit+i) / 8<x.length:=by have:=hxl.out;omega
    obtain⟨hcell,hfz⟩:=hbuf _ _ (List.getElem?_eq_getElem hq);obtain⟨y,hy1,hy2⟩:=flip_byte x[(bit+i) / 8] ((bit+i) % 8) (by omega);have HY:=zh hy1;have HX:=zh (show Win bit l (x.set ((bit+i) / 8) y) from⟨by rw[List.length_set];exact hx.out.1,fun p hp=>(bitAt_set hq (by omega) hy2 p (by omega)).trans (hx.out.2 p hp)⟩);clear hy1 hy2;go_wp2
    ·go_roundg (32 - (i+1))
     case measure=>omega
     case rel=>exact⟨i+1,_,by omega,rfl,by go_num,by rw[HY.out];exact hbuf.set_ hq y,HX,hbr.setCell hgw _⟩
    ·go_roundg (32 - (i+1))
     case measure=>omega
     case rel=>exact⟨i+1,x,by omega,rfl,by go_num,hbuf,hx,hbr⟩
   ·go_wp2
    all_goals
     go_roundg (32 - (i+1))
     case measure=>omega
     case rel=>exact⟨i+1,x,by omega,rfl,by go_num,hbuf,hx,hbr⟩
  ·obtain rfl:i=32:=by omega
   have hcv:(convert 53 9 (.slice (some ⟨g,0,none⟩) l.length cap2)).run Tryz.prog wr=.ok (.string ⟨x.toArray⟩) wr:=by
    have h:=conv_bytes (hbuf.byS (c:=cap2) (R:=fun _=>True) (by rw[hxl.out];exact hcap) (by rw[hxl.out];unfold maxLen;omega) trivial);rw[hxl.out] at h;exact h
   go_wp2;go_ret;exact⟨x,rfl,hx.out,hbr⟩
structure Stp where
 vol:Nat
 stripe:Nat
 ver:Nat
 side:Nat
 k:Nat
 m:Nat
 rows:Mat
def Stp.ack(x:Stp):Ac:=⟨(x.vol:Int),(x.stripe:Int),(x.ver:Int),(x.side:Int)⟩
def Stp.word(x:Stp):Mat:=wordT x.k (x.k+x.m) x.rows 16
def oldB:List UInt8:=[111,108,100,32,100,97,116,97,32,111,108,100,32,100,97,116]
def Stp.piece(x:Stp) (i g:Nat) (old:Bool):Pc :=
 if old then⟨(x.vol:Int),(i:Int),(x.stripe:Int),(g:Int),(x.ver:Int) - 1,oldB⟩ else⟨(x.vol:Int),(i:Int),(x.stripe:Int),(g:Int),(x.ver:Int),x.word.getD i []⟩
def blankB:List UInt8:=List.replicate 36 0
def SecOk(st:List Stp) (s:List UInt8):Prop:=s=blankB∨∃x∈st,∃i g old bit,i<x.k+x.m∧1≤g∧g≤3∧Win bit (encB (x.piece i g old)) s
theorem SecOk.more{st:List Stp} {s:List UInt8} (h:SecOk st s) (x:Stp):SecOk (st++[x]) s:=by
 rcases h with h | ⟨y,hy,h⟩
 ·exact .inl h
 ·exact .inr ⟨y,by simp[hy],h⟩
structure StpOk (F:FltM) (x:Stp):Prop where
 pol:∃v p,F.vols[x.vol]?=some v∧F.pols[v.pol.toNat]?=some p∧(x.k:Int)=p.k∧(x.m:Int)=p.m
 k1:1≤x.k
 k2:x.k≤2
 m2:x.m≤2
 ver1:2≤x.ver
 ver2:x.ver≤4
 side:x.side≤1
 vol:x.vol≤100
 stripe:x.stripe≤1
 len:x.rows.length=x.k
 wide:Wide x.rows 16
def keysTo(ext v s:Nat):List (Nat×Nat):=(List.range v).flatMap (fun v=>(List.range ext).map fun s=>(v,s))++(List.range s).map fun s=>(v,s)
theorem keysTo_succ(ext v s:Nat):keysTo ext v (s+1)=keysTo ext v s++[(v,s)]:=by
 unfold keysTo;rw[List.range_succ,List.map_append,←List.append_assoc];rfl
theorem keysTo_next(ext v:Nat):keysTo ext v ext=keysTo ext (v+1) 0:=by
 unfold keysTo;rw[List.range_succ,List.flatMap_append];simp
def DataOk(st:List Stp) (f:Int→Int→Option Value):Prop:=∀x∈st,f (x.vol:Int) (x.stripe:Int)=some (.string ⟨(x.rows.flatten).toArray⟩)
end Go.Proofs.YtcfkllnpkmebpaaGreatDoor

namespace Go.Proofs.YtcfkllnpkmebpaaGreatDoor
open Go.RowKit
open Go.ChangeMaps Go.MapKept Go.WideShapes
open Go.WideElems (Fit rd rg pl rd_key rd_val rg_of)
open Go.Maps (Keyed)
set_option linter.unusedVariables false
set_option linter.unusedSimpArgs false
theorem skey_row:(67:TypeId)<Tryz.prog.types.size:=of_decide_eq_true (by kernel_rfl)
theorem skey_wide:(match Tryz.prog.underlying 67 with | some (.array _ _) | some (.struct _)=>true | _=>false)=true:=by rw[Tryz.underlying67]
theorem skey_law:WideMaps.KeyLaw Tryz.prog 67:=deep_law_laid laidOut17 (m:=2) (by omega) skey_row (by kernel_rfl) skey_wide
theorem skey_type:Tryz.prog.keyType 67=true:=by kernel_rfl
theorem skey_cells:Tryz.prog.cellsOf 67=2:=by kernel_rfl
theorem sint_cells:Tryz.prog.cellsOf 3=1:=by kernel_rfl
theorem skey_lits(n:Nat) (a b:Int) (ha:I64 a) (hb:I64 b):Tryz.prog.keyLits (n+2) 67 [.int .i64 a,.int .i64 b]=some [.int .i64 a,.int .i64 b]:=by
 have h1:=(i64_wf a).2 ha;have h2:=(i64_wf b).2 hb;simp[Program.keyLits,Tryz.underlying67,Tryz.underlying3,skey_cells,sint_cells,h1,h2]
theorem skey_lits_inv(n:Nat) (cs:List Value) (l:List Lit) (h:Tryz.prog.keyLits (n+2) 67 cs=some l):∃a b,cs=[.int .i64 a,.int .i64 b]∧I64 a∧I64 b:=by
 simp[Program.keyLits,Tryz.underlying67,Tryz.underlying3,skey_cells,sint_cells] at h;obtain⟨hl,h⟩:=h
 match cs,hl with
 | [x,y],hxl =>
  simp at h;clear hxl
  cases x
  case int q a =>
   by_cases hq:q=.i64∧(Lit.int .i64 a).wf=true
   ·obtain⟨rfl,hwa⟩:=hq
    cases y
    case int q2 b =>
     by_cases hq2:q2=.i64∧(Lit.int .i64 b).wf=true
     ·obtain⟨rfl,hwb⟩:=hq2;exact⟨a,b,rfl,(i64_wf a).1 hwa,(i64_wf b).1 hwb⟩
     ·exfalso
      by_cases hq3:q2=.i64
      ·subst hq3
       have:(Lit.int .i64 b).wf=false:=by rw[Bool.eq_false_iff];exact fun e=>hq2 ⟨rfl,e⟩
       simp[hwa,this] at h
      ·simp[hwa,hq3] at h
    all_goals (exfalso;simp[hwa] at h)
   ·exfalso
    by_cases hq3:q=.i64
    ·subst hq3
     have:(Lit.int .i64 a).wf=false:=by rw[Bool.eq_false_iff];exact fun e=>hq ⟨rfl,e⟩
     simp[this] at h
    ·simp[hq3] at h
  all_goals (exfalso;simp at h)
theorem stypes_pos:∃n,Tryz.prog.types.size+1=n+2:=by
 have h:=skey_row
 revert h
 generalize Tryz.prog.types.size=s;intro h;have h2:(67:Nat)<s:=h;exact⟨s - 1,by omega⟩
theorem skey_two:TwoKey 67 where
 law:=Keyed.of_law skey_law
 wide:=skey_law
 lit a b ha hb:=by
  obtain⟨n,hn⟩:=stypes_pos;have h1:=skey_lits n a b ha hb;refine⟨.string (keyBytes [.int .i64 a,.int .i64 b]),?_⟩;unfold keyOf;rw[Tryz.underlying67,hn];simp[skey_type,Value.formed,Tryz.underlying67,skey_cells,kv,Value.cells,h1]
 inv v l h:=by
  obtain⟨n,hn⟩:=stypes_pos;unfold keyOf at h;rw[Tryz.underlying67,hn] at h;simp[skey_type] at h;obtain⟨hf,ls,hk,-⟩:=h;obtain⟨a,b,e,ha,hb⟩:=skey_lits_inv n _ _ hk;refine⟨a,b,?_,ha,hb⟩
  cases v <;> simp[Value.formed,Tryz.underlying67] at hf
  rename_i cs
  unfold kv;simp[Value.cells] at e
  congr 1
  exact Array.ext' (by simpa using e)
structure RowsP (w:World) (B:Nat) (vp:Value) (rs:List (Value×List ByteArray)):Prop where
 top:w.ownsRow B 54 1 vp rs.length (rs.map (·.1))
 row:∀(i:Nat) (x:Value×List ByteArray),rs[i]?=some x→w.ownsRow B 9 1 x.1 x.2.length (x.2.map Value.string)
 apart:∀(i j:Nat) (x y:Value×List ByteArray) (b:Nat),i≠j→rs[i]?=some x→rs[j]?=some y→x.1.ownBlock=some b→y.1.ownBlock≠some b
 size:∀(i:Nat) (x:Value×List ByteArray),rs[i]?=some x→∀s∈x.2,s.size=36
theorem RowsP.nil(w:World) (B:Nat):RowsP w B (.slice none 0 0) []:=⟨World.ownsRow_nil _ _ _ _,fun i x h=>by simp at h,fun i j x y b _ h=>by simp at h,fun i x h=>by simp at h⟩
def ownP(vp:Value) (rs:List (Value×List ByteArray)) (b:Nat):Prop:=vp.ownBlock=some b∨∃(i:Nat) (x:Value×List ByteArray),rs[i]?=some x∧x.1.ownBlock=some b
theorem RowsP.lt{w:World} {B:Nat} {vp:Value} {rs:List (Value×List ByteArray)} (h:RowsP w B vp rs) {b:Nat} (hb:ownP vp rs b):B≤b∧b<w.heap.size:=by
 rcases hb with hb | ⟨i,x,hx,hb⟩
 ·exact h.top.lt b hb
 ·exact(h.row i x hx).lt b hb
theorem own_type{w:World} {B:Nat} {e:TypeId} {s n:Nat} {v:Value} {xs:List Value} (h:w.ownsRow B e s v n xs) {b:Nat} (hb:v.ownBlock=some b):∃cs,w.heap[b]?=some (.cells cs e (0,0)):=by
 rcases h.2 with ⟨rfl,_⟩ | ⟨k,cap,cur,rfl,_,hh,_⟩
 ·simp[Value.ownBlock] at hb
 ·simp[Value.ownBlock] at hb;subst hb;exact⟨cur,hh⟩
theorem RowsP.top_row{w:World} {B:Nat} {vp:Value} {rs:List (Value×List ByteArray)} (h:RowsP w B vp rs) {i:Nat} {x:Value×List ByteArray} (hx:rs[i]?=some x) {b:Nat} (h1:vp.ownBlock=some b):x.1.ownBlock≠some b:=fun h2=>own_apart h.top (h.row i x hx) (by decide) h1 h2 rfl
theorem RowsP.stay{w w':World} {B:Nat} {vp:Value} {rs:List (Value×List ByteArray)} {hot:List (Option Nat)} (h:RowsP w B vp rs) (hh:HotBy hot w w') (hn:∀b,some b∈hot→¬ownP vp rs b):RowsP w' B vp rs :=
 ⟨own_hot h.top hh (fun g hg e=>hn g e (.inl hg)),fun i x hx=>own_hot (h.row i x hx) hh (fun g hg e=>hn g e (.inr ⟨i,x,hx,hg⟩)),h.apart,h.size⟩
theorem RowsP.push{w w4:World} {B:Nat} {vp vp' v:Value} {rs:List (Value×List ByteArray)} {l:List ByteArray} (h:RowsP w B vp rs) (hv:w.ownsRow B 9 1 v l.length (l.map Value.string)) (hf:∀b,v.ownBlock=some b→∀(i:Nat) (x:Value×List ByteArray),rs[i]?=some x→x.1.ownBlock≠some b) (hs:∀s∈l,s.size=36)
  (hg:w.grownBy w4 vp.ownBlock) (hown:w4.ownsRow B 54 1 vp' (rs.length+1) (rs.map (·.1)++[v])):RowsP w4 B vp' (rs++[(v,l)]):=by
 have hne:∀(i:Nat) (x:Value×List ByteArray),rs[i]?=some x→x.1.ownBlock=none∨x.1.ownBlock≠vp.ownBlock:=fun i x hx=>by
  cases hb:x.1.ownBlock with
  | none=>exact .inl rfl
  | some b=>exact .inr (fun e=>h.top_row hx e.symm hb)
 have hnv:v.ownBlock=none∨v.ownBlock≠vp.ownBlock:=by
  cases hb:v.ownBlock with
  | none=>exact .inl rfl
  | some b=>exact .inr (fun e=>own_apart h.top hv (by decide) e.symm hb rfl)
 have hat:∀(i:Nat) (x:Value×List ByteArray),(rs++[(v,l)])[i]?=some x→(i<rs.length∧rs[i]?=some x)∨(i=rs.length∧x=(v,l)):=fun i x hx=>by
  rcases Nat.lt_or_ge i rs.length with hlt | hge
  ·rw[List.getElem?_append_left hlt] at hx;exact .inl ⟨hlt,hx⟩
  ·have he:i=rs.length:=by
    have:=(List.getElem?_eq_some_iff.1 hx).1;rw[List.length_append] at this;simp at this;omega
   subst he;rw[List.getElem?_append_right (Nat.le_refl _),Nat.sub_self] at hx;simp at hx;exact .inr ⟨rfl,hx.symm⟩
 refine⟨by rw[List.length_append,List.map_append];exact hown,fun i x hx=>?_,fun i j x y b hij hx hy hb=>?_,fun i x hx=>?_⟩
 ·rcases hat i x hx with ⟨_,h1⟩ | ⟨_,rfl⟩
  ·exact(h.row i x h1).kept hg (hne i x h1)
  ·exact hv.kept hg hnv
 ·rcases hat i x hx with ⟨_,h1⟩ | ⟨h1,rfl⟩
  ·rcases hat j y hy with ⟨_,h2⟩ | ⟨_,rfl⟩
   ·exact h.apart i j x y b hij h1 h2 hb
   ·exact fun e=>hf b e i x h1 hb
  ·rcases hat j y hy with ⟨_,h2⟩ | ⟨h2,rfl⟩
   ·exact hf b hb j y h2
   ·omega
 ·rcases hat i x hx with ⟨_,h1⟩ | ⟨_,rfl⟩
  ·exact h.size i x h1
  ·exact hs
theorem getSome_set{α:Type} {l:List α} {i j:Nat} {a x:α} (h:(l.set i a)[j]?=some x):(i=j∧x=a)∨(i≠j∧l[j]?=some x):=by
 by_cases e:i=j
 ·subst e
  have hlt:i<l.length:=by have:=(List.getElem?_eq_some_iff.1 h).1;simpa using this
  rw[List.getElem?_set_self hlt] at h;injection h with h;exact .inl ⟨rfl,h.symm⟩
 ·rw[List.getElem?_set_ne e] at h;exact .inr ⟨e,h⟩
theorem RowsP.put{w w4:World} {B g cap d:Nat} {v:Value} {rs:List (Value×List ByteArray)} {l:List ByteArray} {x0:Value×List ByteArray} (h:RowsP w B (.slice (some ⟨g,0,none⟩) rs.length cap) rs) (hd:rs[d]?=some x0) {hot:List (Option Nat)} (hh:HotBy hot w w4) (hn:∀b,some b∈hot→b<w.heap.size→x0.1.ownBlock=some b∨¬ownP (.slice (some ⟨g,0,none⟩) rs.length cap) rs b)
  (hv:w4.ownsRow B 9 1 v l.length (l.map Value.string)) (hf:∀b,v.ownBlock=some b→x0.1.ownBlock=some b∨w.heap.size≤b) (hs:∀s∈l,s.size=36) :
  RowsP (w4.setCell ⟨g,d,none⟩ v) B (.slice (some ⟨g,0,none⟩) (rs.set d (v,l)).length cap) (rs.set d (v,l)):=by
 have hgt:∀(i:Nat) (x:Value×List ByteArray),rs[i]?=some x→x.1.ownBlock≠some g:=fun i x hx=>h.top_row hx rfl
 have htop4:w4.ownsRow B 54 1 (.slice (some ⟨g,0,none⟩) rs.length cap) rs.length (rs.map (·.1)):=own_hot h.top hh (fun b hb e=>by
  rcases hn b e (h.top.lt b hb).2 with h1 | h1
  ·simp[Value.ownBlock] at hb;subst hb;exact hgt d x0 hd h1
  ·exact h1 (.inl hb))
 have hgl:g<w.heap.size:=(h.top.lt g rfl).2
 have hvg:v.ownBlock≠some g:=fun e=>own_apart htop4 hv (by decide) rfl e rfl
 have hst:∀(v':Value) (l':List ByteArray),w4.ownsRow B 9 1 v' l'.length (l'.map Value.string)→v'.ownBlock≠some g→(w4.setCell ⟨g,d,none⟩ v).ownsRow B 9 1 v' l'.length (l'.map Value.string):=fun v' l' h1 h2=>h1.kept (only_set1 w4 g d v) (.inr h2)
 have hrow4:∀(i:Nat) (x:Value×List ByteArray),i≠d→rs[i]?=some x→w4.ownsRow B 9 1 x.1 x.2.length (x.2.map Value.string):=fun i x hi hx=>own_hot (h.row i x hx) hh (fun b hb e=>by
  rcases hn b e ((h.row i x hx).lt b hb).2 with h1 | h1
  ·exact h.apart i d x x0 b hi hx hd hb h1
  ·exact h1 (.inr ⟨i,x,hx,hb⟩))
 refine⟨?_,fun i x hx=>?_,fun i j x y b hij hx hy hb=>?_,fun i x hx=>?_⟩
 ·have h1:=(htop4.stored d v).1;rw[List.length_set,List.map_set];exact h1
 ·rcases getSome_set hx with ⟨rfl,rfl⟩ | ⟨h1,h2⟩
  ·exact hst _ _ hv hvg
  ·exact hst _ _ (hrow4 i x (fun e=>h1 e.symm) h2) (hgt i x h2)
 ·rcases getSome_set hx with ⟨rfl,rfl⟩ | ⟨h1,h2⟩
  ·rcases getSome_set hy with ⟨h3,_⟩ | ⟨_,h4⟩
   ·exact absurd h3 hij
   ·rcases hf b hb with h5 | h5
    ·exact h.apart d j x0 y b hij hd h4 h5
    ·exact fun e=>by have:=((h.row j y h4).lt b e).2;omega
  ·rcases getSome_set hy with ⟨h3,rfl⟩ | ⟨_,h4⟩
   ·intro e;rcases hf b e with h5 | h5
    ·exact h.apart i d x x0 b (fun e=>h1 e.symm) h2 hd hb h5
    ·have:=((h.row i x h2).lt b hb).2;omega
   ·exact h.apart i j x y b hij h2 h4 hb
 ·rcases getSome_set hx with ⟨rfl,rfl⟩ | ⟨h1,h2⟩
  ·exact hs
  ·exact h.size i x h2
theorem RowsP.slS{w:World} {B:Nat} {vp:Value} {rs:List (Value×List ByteArray)} (h:RowsP w B vp rs) {R:Nat→Prop} (hR:∀b,B≤b→b<w.heap.size→R b):SlS 1 DrvK w R vp (rs.map (·.2)):=by
 have h1:OwnK 1 DrvK w B 54 vp (rs.map (·.2)) R:=by
  refine⟨rs.map (·.1),by rw[List.length_map];exact h.top,fun k a ha=>?_⟩;rw[List.getElem?_map] at ha
  cases hx:rs[k]? with
  | none=>rw[hx] at ha;cases ha
  | some x =>
   rw[hx] at ha;simp at ha;subst ha;refine⟨[x.1],rfl,fun i u hu=>?_,x.1,rfl,?_⟩
   ·have hi:i=0:=by have:=(List.getElem?_eq_some_iff.1 hu).1;simp at this;exact this
    subst hi;simp at hu;rw[Nat.mul_one,Nat.add_zero,List.getElem?_map,hx,←hu];rfl
   ·refine OwnK.slS (R:=R) strK ⟨x.2.map Value.string,(h.row k x hx),fun j s hs=>⟨[.string s],rfl,fun i u hu=>?_,rfl,?_⟩⟩ (fun _ h=>h) (fun b hb=>hR b ((h.row k x hx).lt b hb).1 ((h.row k x hx).lt b hb).2)
    ·have hi:i=0:=by have:=(List.getElem?_eq_some_iff.1 hu).1;simp at this;exact this
     subst hi;simp at hu;rw[Nat.mul_one,Nat.add_zero,List.getElem?_map,hs,←hu];rfl
    ·have:=h.size k x hx s (List.mem_of_getElem? hs);unfold maxLen;omega
 exact h1.slS drvK (fun _ h=>h) (fun b hb=>hR b (h.top.lt b hb).1 (h.top.lt b hb).2)
def acC(a:Ac):List Value:=[.int .i64 a.vol,.int .i64 a.stripe,.int .i64 a.ver,.int .i64 a.side]
structure MadeT (gT:Nat) (vt:Value) (WM:World) (gR gM:Nat) (w:World) (I:Nat) (c0 c1 c2 vp vo va:Value) (rs:List (Value×List ByteArray)) (on:List Bool) (acks:List Ac) (n:Nat) (f:Int→Int→Option Value):Prop where
 tape:TapeB w gT vt I
 hot:HotBy [some gT] WM w
 rea:w.heap[gR]?=some (.cells #[c0,c1,c2] 40 (0,0))
 plat:RowsP w WM.heap.size vp rs
 ons:w.ownsRow WM.heap.size 4 1 vo on.length (on.map Value.bool)
 aks:w.ownsRow WM.heap.size 89 4 va acks.length (acks.flatMap acC)
 map:MapKV w 67 gM n f
 gT1:gT<WM.heap.size
 gR1:WM.heap.size≤gR
 gM1:WM.heap.size≤gM
section
variable {gT : Nat} {vt : Value} {WM : World} {gR gM : Nat} {w w' : World} {I J : Nat} {c0 c1 c2 vp vo va : Value} {rs : List (Value × List ByteArray)} {on : List Bool} {acks : List Ac} {n : Nat} {f : Int → Int → Option Value}
theorem MapKV.obj{kt:TypeId} {b n:Nat} {f:Int→Int→Option Value} (h:MapKV w kt b n f):∃es clock,w.heap[b]?=some (.map es clock):=by
 obtain⟨D,⟨es,clock,hb,r⟩,h2⟩:=h;exact⟨es,clock,hb⟩
theorem cells_ty{b:Nat} {cs cs':Array Value} {T T':TypeId} {fr fr':Nat×Nat} (h:w.heap[b]?=some (.cells cs T fr)) (h':w.heap[b]?=some (.cells cs' T' fr')):T=T':=by
 rw[h] at h';injection h' with h';injection h' with _ h' _
theorem MadeT.nR(h:MadeT gT vt WM gR gM w I c0 c1 c2 vp vo va rs on acks n f) {b:Nat} {cs:Array Value} {T:TypeId} {fr:Nat×Nat} (hb:w.heap[b]?=some (.cells cs T fr)) (hT:T≠40):b≠gR:=fun e=>by subst e;exact hT (cells_ty hb h.rea)
theorem MadeT.nM(h:MadeT gT vt WM gR gM w I c0 c1 c2 vp vo va rs on acks n f) {b:Nat} {cs:Array Value} {T:TypeId} {fr:Nat×Nat} (hb:w.heap[b]?=some (.cells cs T fr)):b≠gM:=fun e=>by
 subst e;obtain⟨es,clock,h1⟩:=h.map.obj;rw[hb] at h1;injection h1 with h1
 cases h1
theorem own_nty{B b:Nat} {e T:TypeId} {s m:Nat} {v:Value} {xs:List Value} {cs:Array Value} {fr:Nat×Nat} (h:w.ownsRow B e s v m xs) (hb:w.heap[b]?=some (.cells cs T fr)) (hT:T≠e):v.ownBlock≠some b:=fun hv=>by
 obtain⟨cs',h1⟩:=own_type h hv;exact hT (cells_ty hb h1)
theorem RowsP.nty{B b:Nat} {T:TypeId} {cs:Array Value} {fr:Nat×Nat} (h:RowsP w B vp rs) (hb:w.heap[b]?=some (.cells cs T fr)) (h1:T≠54) (h2:T≠9):¬ownP vp rs b:=fun ho=>by
 rcases ho with ho | ⟨i,x,hx,ho⟩
 ·exact own_nty h.top hb h1 ho
 ·exact own_nty (h.row i x hx) hb h2 ho
def ownM(gR gM:Nat) (vp vo va:Value) (rs:List (Value×List ByteArray)) (b:Nat):Prop:=b=gR∨b=gM∨ownP vp rs b∨vo.ownBlock=some b∨va.ownBlock=some b
theorem MadeT.lt(h:MadeT gT vt WM gR gM w I c0 c1 c2 vp vo va rs on acks n f) {b:Nat} (hb:ownM gR gM vp vo va rs b):WM.heap.size≤b∧b<w.heap.size:=by
 rcases hb with rfl | rfl | hb | hb | hb
 ·exact⟨h.gR1,(Array.getElem?_eq_some_iff.1 h.rea).1⟩
 ·exact⟨h.gM1,h.map.lt⟩
 ·exact h.plat.lt hb
 ·exact h.ons.lt b hb
 ·exact h.aks.lt b hb
theorem MadeT.stay(h:MadeT gT vt WM gR gM w I c0 c1 c2 vp vo va rs on acks n f) {hot:List (Option Nat)} (hh:HotBy hot w w') (hn:∀b,some b∈hot→b<w.heap.size→¬ownM gR gM vp vo va rs b) (hw:∀b,some b∈hot→b<WM.heap.size→b=gT) (ht:TapeB w' gT vt J):MadeT gT vt WM gR gM w' J c0 c1 c2 vp vo va rs on acks n f:=by
 have hn':∀b,some b∈hot→¬ownM gR gM vp vo va rs b:=fun b hb ho=>hn b hb (h.lt ho).2 ho
 refine⟨ht,h.hot.transNew hh (fun x hx hl=>by rw[hw x hx hl];simp),(hh.block gR (h.lt (.inl rfl)).2 (fun e=>hn' gR e (.inl rfl))).trans h.rea,h.plat.stay hh (fun b hb ho=>hn' b hb (.inr (.inr (.inl ho)))),own_hot h.ons hh (fun g hg e=>hn' g e (.inr (.inr (.inr (.inl hg))))),own_hot h.aks hh (fun g hg e=>hn' g e (.inr (.inr (.inr (.inr hg))))),h.map.same (hh.block gM h.map.lt (fun e=>hn' gM e (.inr (.inl rfl)))),h.gT1,h.gR1,h.gM1⟩
theorem MadeT.inP(h:MadeT gT vt WM gR gM w I c0 c1 c2 vp vo va rs on acks n f) (hi:InP gT vt w w' J):MadeT gT vt WM gR gM w' J c0 c1 c2 vp vo va rs on acks n f :=
 h.stay hi.hot (fun b hb _ ho=>by simp at hb;have:=h.gT1;have:=(h.lt ho).1;omega) (fun b hb _=>by simp at hb;exact hb) hi.tape
theorem MadeT.below(h:MadeT gT vt WM gR gM w I c0 c1 c2 vp vo va rs on acks n f) (hb:Below w.heap.size w w'):MadeT gT vt WM gR gM w' I c0 c1 c2 vp vo va rs on acks n f:=h.inP ((InP.start h.tape).below hb)
theorem MadeT.alloc(h:MadeT gT vt WM gR gM w I c0 c1 c2 vp vo va rs on acks n f) (o:Obj):MadeT gT vt WM gR gM (w.alloc o) I c0 c1 c2 vp vo va rs on acks n f:=h.below ((Below.refl _ _).alloc (Nat.le_refl _) _)
theorem MadeT.cells(h:MadeT gT vt WM gR gM w I c0 c1 c2 vp vo va rs on acks n f):w.cell? ⟨gR,0,none⟩=some c0∧w.cell? ⟨gR,1,none⟩=some c1∧w.cell? ⟨gR,2,none⟩=some c2∧(∀i,w.frozen? ⟨gR,i,none⟩=false)∧gR<w.heap.size :=
 ⟨by rw[cell_of_row _ _ _ _ _ _ h.rea];rfl,by rw[cell_of_row _ _ _ _ _ _ h.rea];rfl,by rw[cell_of_row _ _ _ _ _ _ h.rea];rfl,fun i=>frozen_of_row _ _ _ _ _ h.rea,(Array.getElem?_eq_some_iff.1 h.rea).1⟩
theorem MadeT.only(h:MadeT gT vt WM gR gM w I c0 c1 c2 vp vo va rs on acks n f) {o:Option Nat} (hh:HotBy [o] w w') (T:TypeId) (ho:∀b,o=some b→WM.heap.size≤b∧∃cs,w.heap[b]?=some (.cells cs T (0,0))) :
  TapeB w' gT vt I∧HotBy [some gT] WM w'∧(T≠40→w'.heap[gR]?=some (.cells #[c0,c1,c2] 40 (0,0)))∧(T≠54→T≠9→RowsP w' WM.heap.size vp rs)∧(T≠4→w'.ownsRow WM.heap.size 4 1 vo on.length (on.map Value.bool))∧(T≠89→w'.ownsRow WM.heap.size 89 4 va acks.length (acks.flatMap acC))∧MapKV w' 67 gM n f:=by
 have hm:∀b,some b∈[o]→o=some b:=fun b hb=>by simp at hb;exact hb.symm
 refine⟨(hh.block gT h.tape.lt (fun e=>by have:=(ho gT (hm gT e)).1;have:=h.gT1;omega)).trans h.tape,h.hot.transNew hh (fun x hx hl=>by have:=(ho x (hm x hx)).1;omega),fun hT=>?_,fun h1 h2=>?_,fun hT=>?_,fun hT=>?_,?_⟩
 ·exact(hh.block gR (h.lt (.inl rfl)).2 (fun e=>by obtain⟨-,cs,hb⟩:=ho gR (hm gR e);exact h.nR hb hT rfl)).trans h.rea
 ·exact h.plat.stay hh (fun b hb=>by obtain⟨-,cs,hb⟩:=ho b (hm b hb);exact h.plat.nty hb h1 h2)
 ·exact own_hot h.ons hh (fun b hg hb=>by obtain⟨-,cs,hb⟩:=ho b (hm b hb);exact own_nty h.ons hb hT hg)
 ·exact own_hot h.aks hh (fun b hg hb=>by obtain⟨-,cs,hb⟩:=ho b (hm b hb);exact own_nty h.aks hb hT hg)
 ·exact h.map.same (hh.block gM h.map.lt (fun e=>by obtain⟨-,cs,hb⟩:=ho gM (hm gM e);exact h.nM hb rfl))
theorem own_ho{B:Nat} {e:TypeId} {s m:Nat} {v:Value} {xs:List Value} (h:w.ownsRow B e s v m xs):∀b,v.ownBlock=some b→B≤b∧∃cs,w.heap[b]?=some (.cells cs e (0,0)):=fun b hb=>⟨(h.lt b hb).1,own_type h hb⟩
theorem MadeT.pushP(h:MadeT gT vt WM gR gM w I c0 c1 c2 vp vo va rs on acks n f) {vp' v:Value} {l:List ByteArray} (hv:w.ownsRow WM.heap.size 9 1 v l.length (l.map Value.string)) (hf:∀b,v.ownBlock=some b→∀(i:Nat) (x:Value×List ByteArray),rs[i]?=some x→x.1.ownBlock≠some b) (hs:∀s∈l,s.size=36)
  (hg:w.grownBy w' vp.ownBlock) (hown:w'.ownsRow WM.heap.size 54 1 vp' (rs.length+1) (rs.map (·.1)++[v])):MadeT gT vt WM gR gM w' I c0 c1 c2 vp' vo va (rs++[(v,l)]) on acks n f:=by
 obtain⟨h1,h2,h3,-,h5,h6,h7⟩:=h.only (HotBy.grown hg (.inl (by simp))) 54 (own_ho h.plat.top);exact⟨h1,h2,h3 (by decide),h.plat.push hv hf hs hg hown,h5 (by decide),h6 (by decide),h7,h.gT1,h.gR1,h.gM1⟩
theorem MadeT.pushO(h:MadeT gT vt WM gR gM w I c0 c1 c2 vp vo va rs on acks n f) {vo':Value} {x:Bool} (hg:w.grownBy w' vo.ownBlock) (hown:w'.ownsRow WM.heap.size 4 1 vo' (on.length+1) (on.map Value.bool++[.bool x])):MadeT gT vt WM gR gM w' I c0 c1 c2 vp vo' va rs (on++[x]) acks n f:=by
 obtain⟨h1,h2,h3,h4,-,h6,h7⟩:=h.only (HotBy.grown hg (.inl (by simp))) 4 (own_ho h.ons);exact⟨h1,h2,h3 (by decide),h4 (by decide) (by decide),by rw[List.length_append,List.map_append];exact hown,h6 (by decide),h7,h.gT1,h.gR1,h.gM1⟩
theorem MadeT.pushA(h:MadeT gT vt WM gR gM w I c0 c1 c2 vp vo va rs on acks n f) {va':Value} {x:Ac} (hg:w.grownBy w' va.ownBlock) (hown:w'.ownsRow WM.heap.size 89 4 va' (acks.length+1) (acks.flatMap acC++acC x)):MadeT gT vt WM gR gM w' I c0 c1 c2 vp vo va' rs on (acks++[x]) n f:=by
 obtain⟨h1,h2,h3,h4,h5,-,h7⟩:=h.only (HotBy.grown hg (.inl (by simp))) 89 (own_ho h.aks);exact⟨h1,h2,h3 (by decide),h4 (by decide) (by decide),h5 (by decide),by rw[List.length_append,flatMap_snoc];exact hown,h7,h.gT1,h.gR1,h.gM1⟩
theorem MadeT.setR(h:MadeT gT vt WM gR gM w I c0 c1 c2 vp vo va rs on acks n f) (i:Nat) (u d0 d1 d2:Value) (hr:(w.setCell ⟨gR,i,none⟩ u).heap[gR]?=some (.cells #[d0,d1,d2] 40 (0,0))):MadeT gT vt WM gR gM (w.setCell ⟨gR,i,none⟩ u) I d0 d1 d2 vp vo va rs on acks n f:=by
 obtain⟨h1,h2,-,h4,h5,h6,h7⟩:=h.only (HotBy.setCell [some gR] w ⟨gR,i,none⟩ u (by simp)) 40 (fun b e=>by injection e with e;subst e;exact⟨h.gR1,_,h.rea⟩);exact⟨h1,h2,hr,h4 (by decide) (by decide),h5 (by decide),h6 (by decide),h7,h.gT1,h.gR1,h.gM1⟩
theorem MadeT.set0(h:MadeT gT vt WM gR gM w I c0 c1 c2 vp vo va rs on acks n f) (u:Value):MadeT gT vt WM gR gM (w.setCell ⟨gR,0,none⟩ u) I u c1 c2 vp vo va rs on acks n f:=h.setR 0 u _ _ _ (heap_setCell_same w gR 0 _ _ u h.rea)
theorem MadeT.set1(h:MadeT gT vt WM gR gM w I c0 c1 c2 vp vo va rs on acks n f) (u:Value):MadeT gT vt WM gR gM (w.setCell ⟨gR,1,none⟩ u) I c0 u c2 vp vo va rs on acks n f:=h.setR 1 u _ _ _ (heap_setCell_same w gR 1 _ _ u h.rea)
theorem MadeT.set2(h:MadeT gT vt WM gR gM w I c0 c1 c2 vp vo va rs on acks n f) (u:Value):MadeT gT vt WM gR gM (w.setCell ⟨gR,2,none⟩ u) I c0 c1 u vp vo va rs on acks n f:=h.setR 2 u _ _ _ (heap_setCell_same w gR 2 _ _ u h.rea)
theorem MadeT.storeM(h:MadeT gT vt WM gR gM w I c0 c1 c2 vp vo va rs on acks n f) {n':Nat} {f':Int→Int→Option Value} (hg:w.grownBy w' (some gM)) (hm:MapKV w' 67 gM n' f'):MadeT gT vt WM gR gM w' I c0 c1 c2 vp vo va rs on acks n' f':=by
 have hh:HotBy [some gM] w w':=HotBy.grown hg (.inl (by simp));obtain⟨es,clock,ho⟩:=h.map.obj
 have hno:∀{B:Nat} {e:TypeId} {s m:Nat} {v:Value} {xs:List Value},w.ownsRow B e s v m xs→v.ownBlock≠some gM:=fun h1 e=>by
  obtain⟨cs,h2⟩:=own_type h1 e;rw[ho] at h2;injection h2 with h2
  cases h2
 have hgM:=h.gM1
 refine⟨(hh.block gT h.tape.lt (fun e=>by simp at e;have:=h.gT1;omega)).trans h.tape,h.hot.transNew hh (fun x hx hl=>by simp at hx;omega),(hh.block gR (h.lt (.inl rfl)).2 (fun e=>by
  simp at e;have h2:=h.rea;rw[e,ho] at h2;injection h2 with h2
  cases h2)).trans h.rea,h.plat.stay hh (fun b hb hp=>?_),own_hot h.ons hh (fun b hb e=>by simp at e;subst e;exact hno h.ons hb),own_hot h.aks hh (fun b hb e=>by simp at e;subst e;exact hno h.aks hb),hm,h.gT1,h.gR1,h.gM1⟩
 simp at hb;subst hb;rcases hp with hp | ⟨i,x,hx,hp⟩
 ·exact hno h.plat.top hp
 ·exact hno (h.plat.row i x hx) hp
theorem MadeT.putP{g cap d:Nat} {v:Value} {l:List ByteArray} {x0:Value×List ByteArray} (h:MadeT gT vt WM gR gM w I c0 c1 c2 (.slice (some ⟨g,0,none⟩) rs.length cap) vo va rs on acks n f) (hd:rs[d]?=some x0) (hg:w.grownBy w' x0.1.ownBlock)
  (hv:w'.ownsRow WM.heap.size 9 1 v l.length (l.map Value.string)) (hf:∀b,v.ownBlock=some b→x0.1.ownBlock=some b∨w.heap.size≤b) (hs:∀s∈l,s.size=36) :
  MadeT gT vt WM gR gM (w'.setCell ⟨g,d,none⟩ v) I c0 c1 c2 (.slice (some ⟨g,0,none⟩) (rs.set d (v,l)).length cap) vo va (rs.set d (v,l)) on acks n f:=by
 have hh:HotBy [x0.1.ownBlock] w w':=HotBy.grown hg (.inl (by simp));obtain⟨h1,h2,h3,-,h5,h6,h7⟩:=h.only hh 9 (own_ho (h.plat.row d x0 hd));have h4:=h.plat.put hd hh (fun b hb _=>.inl (by simp at hb;exact hb.symm)) hv hf hs;have h3':=h3 (by decide);have h5':=h5 (by decide);have h6':=h6 (by decide);obtain⟨cs,hgc⟩:=own_type h.plat.top rfl;have hgB:WM.heap.size≤g:=(h.plat.top.lt g rfl).1;have hgt4:w'.ownsRow WM.heap.size 54 1 (.slice (some ⟨g,0,none⟩) rs.length cap) rs.length (rs.map (·.1)):=own_hot h.plat.top hh (fun b hb e=>by simp at e;exact h.plat.top_row hd hb e.symm);obtain⟨cs4,hgc4⟩:=own_type hgt4 rfl;have hs4:HotBy [some g] w' (w'.setCell ⟨g,d,none⟩ v):=HotBy.setCell _ _ _ _ (by simp);have hM4:=h7.obj
 refine⟨(hs4.block gT h1.lt (fun e=>by simp at e;have:=h.gT1;omega)).trans h1,h2.transNew hs4 (fun x hx hl=>by simp at hx;omega),(hs4.block gR (Array.getElem?_eq_some_iff.1 h3').1 (fun e=>by simp at e;subst e;exact absurd (cells_ty h3' hgc4) (by decide))).trans h3',h4,own_hot h5' hs4 (fun b hb e=>by simp at e;subst e;exact own_nty h5' hgc4 (by decide) hb),own_hot h6' hs4 (fun b hb e=>by simp at e;subst e;exact own_nty h6' hgc4 (by decide) hb),h7.same (hs4.block gM h7.lt (fun e=>by
  simp at e;obtain⟨es,clock,ho⟩:=hM4;rw[e,hgc4] at ho;injection ho with ho
  cases ho)),h.gT1,h.gR1,h.gM1⟩
theorem MadeT.dead{g cap d:Nat} {x0:Value×List ByteArray} (h:MadeT gT vt WM gR gM w I c0 c1 c2 (.slice (some ⟨g,0,none⟩) rs.length cap) vo va rs on acks n f) (hd:rs[d]?=some x0) :
  MadeT gT vt WM gR gM (w.setCell ⟨g,d,none⟩ (.slice none 0 0)) I c0 c1 c2 (.slice (some ⟨g,0,none⟩) (rs.set d (.slice none 0 0,[])).length cap) vo va (rs.set d (.slice none 0 0,[])) on acks n f :=
 h.putP (l:=[]) hd ⟨rfl,rfl,rfl,Nat.le_refl _,fun _ _ _=>rfl⟩ (World.ownsRow_nil _ _ _ _) (fun b e=>by cases e) (fun s hs=>by cases hs)
theorem MadeT.setO{g cap d:Nat} {x:Bool} (h:MadeT gT vt WM gR gM w I c0 c1 c2 vp (.slice (some ⟨g,0,none⟩) on.length cap) va rs on acks n f) :
  MadeT gT vt WM gR gM (w.setCell ⟨g,d,none⟩ (.bool x)) I c0 c1 c2 vp (.slice (some ⟨g,0,none⟩) (on.set d x).length cap) va rs (on.set d x) acks n f:=by
 obtain⟨h1,h2,h3,h4,-,h6,h7⟩:=h.only (HotBy.setCell [some g] w ⟨g,d,none⟩ (.bool x) (by simp)) 4 (own_ho h.ons);exact⟨h1,h2,h3 (by decide),h4 (by decide) (by decide),by rw[List.length_set,List.map_set];exact(h.ons.stored d (.bool x)).1,h6 (by decide),h7,h.gT1,h.gR1,h.gM1⟩
theorem acK_own{B:Nat} {R:Nat→Prop} (h:w.ownsRow B 89 4 va acks.length (acks.flatMap acC)) (hI:∀a∈acks,I64 a.vol∧I64 a.stripe∧I64 a.ver∧I64 a.side) (hR:∀b,va.ownBlock=some b→R b):SlS 4 AcK w R va acks:=by
 refine OwnK.slS (R:=R) acK ⟨_,h,fun k a ha=>⟨acC a,rfl,fun i u hu=>?_,rfl,hI a (List.mem_of_getElem? ha)⟩⟩ (fun _ h=>h) hR;clear h hR hI
 induction acks generalizing k with
 | nil=>simp at ha
 | cons x xs ih =>
  rw[List.flatMap_cons]
  cases k with
  | zero =>
   simp at ha;subst ha;rw[Nat.zero_mul,Nat.zero_add,List.getElem?_append_left (List.getElem?_eq_some_iff.1 hu).1];exact hu
  | succ k =>
   rw[List.getElem?_append_right (by show 4≤_;omega)];have:=ih k (by simpa using ha);rw[show(k+1) * 4+i - (acC x).length=k * 4+i by show _ - 4=_;omega];exact this
theorem MadeT.reS(h:MadeT gT vt WM gR gM w I c0 c1 c2 vp vo va rs on acks n f) (hI:∀a∈acks,I64 a.vol∧I64 a.stripe∧I64 a.ver∧I64 a.side):ReS w (Fr WM.heap.size w.heap.size) vp vo va ⟨rs.map (·.2),on,acks⟩:=by
 refine⟨h.plat.slS (fun b h1 h2=>⟨h1,h2⟩),?_,acK_own h.aks hI (fun b hb=>h.aks.lt b hb)⟩;refine OwnK.slS (R:=Fr WM.heap.size w.heap.size) boolK ⟨on.map Value.bool,h.ons,fun j s hs=>⟨[.bool s],rfl,fun i u hu=>?_,rfl⟩⟩ (fun _ h=>h) (fun b hb=>h.ons.lt b hb)
 have hi:i=0:=by have:=(List.getElem?_eq_some_iff.1 hu).1;simp at this;exact this
 subst hi;simp at hu;rw[Nat.mul_one,Nat.add_zero,List.getElem?_map,hs,←hu];rfl
end
end Go.Proofs.YtcfkllnpkmebpaaGreatDoor

namespace Go.Proofs.YtcfkllnpkmebpaaGreatDoor
open Go.RowKit
set_option linter.unusedVariables false
set_option linter.unusedSimpArgs false
def ByK(w:World) (R:Nat→Prop) (cs:List Value) (l:List UInt8):Prop:=∃v,cs=[v]∧ByS w R v l
theorem byK:Steady ByK:=⟨fun hk ⟨v,e,h⟩=>⟨v,e,h.keep hk⟩,fun hr ⟨v,e,h⟩=>⟨v,e,h.mono hr⟩⟩
theorem SlS.matS{w:World} {R:Nat→Prop} {v:Value} {t:Mat} (h:SlS 1 ByK w R v t):MatS w R v t :=
 Row.imp h (fun _ hb=>hb) fun b off hb hc k r hr=>by
  obtain⟨cs,h1,h2,va,rfl,h3⟩:=hc k r hr;have:=h2 0 va rfl;exact⟨va,by rw[Nat.mul_one,Nat.add_zero] at this;exact this,h3⟩
theorem refencode_fr(k m n:Nat) (vd:Value) (d:Mat) (w:World) (hc:codeB k m=true) (hk:d.length=k) (hd:MatS w (Bl w.heap.size) vd d) (hw:Wide d n) (hn:n≤65536) :
  Calls Tryz.prog 33 #[.int .i64 (k:Int),.int .i64 (m:Int),vd] w fun e w'=>∃v,e=.returned (.tuple #[v,.int .i64 0])∧SlS 1 ByK w' (Fr w.heap.size w'.heap.size) v (wordT k (k+m) d n)∧Below w.heap.size w w':=by
 have hck:=(codeB_iff k m).1 hc;obtain⟨hK1,hK6,-,hM4,hn8⟩:=hck;have HC:=zh (r07code_any (k:Int) (m:Int) · (by unfold I64;omega) (by unfold I64;omega));rw[hc] at HC;obtain⟨Ad,cd,rfl,-,-⟩:=hd.form
 have hkk:((d.length:Int) != (k:Int))=false:=by rw[hk];simp
 have HK:=zh hk;clear hc;generalize hdl:d.length=dl at *;have HDL:=zh hdl;clear hk hdl;go_enter Tryz.func33,Tryz.ntmps33;go_wp2_with fail;refine(HC.out _).mono ?_;rintro e w' ⟨rfl,rfl⟩;go_wp2_with fail;clear HC hkk;go_loopg [8,9] (k+m) (fun z v8 v9 wr=>∃a:Nat,a≤k+m∧z=k+m - a∧v9=.int .i64 (a:Int)∧OwnK 1 ByK wr w.heap.size 53 v8 (wordT k a d n) (Fz w.heap.size wr.heap.size v8)∧Below w.heap.size w wr)
 case atStart=>exact⟨0,by omega,rfl,rfl,OwnK.nil _ _ _ _ _ _,Below.refl _ _⟩
 case round =>
  obtain⟨a,ha,rfl,rfl,hO,hb⟩:=hrel;have hsz:=hb.size;obtain⟨A7,c7,hv7⟩:=hO.form;rw[wordT_length] at hv7;subst hv7;by_cases hlt:a<k+m
  ·have hlt2:(a:Int)<(k:Int)+(m:Int):=by omega
   go_wp2_with fail;refine(factors_any k a wr (by omega) (by omega)).mono ?_;rintro e w2 ⟨vc,rfl,hvc,hb2⟩;have hd2:=(hd.below hb).below hb2;obtain⟨Ac,cc,hvc2,-,-⟩:=hvc.form;rw[coefR_length] at hvc2;subst hvc2;have hcb:=refcombine_any _ _ _ _ n w2 (hvc.mono Fr.bl) hd2 (by rw[coefR_length,HDL.out,HK.out]) (by rw[HDL.out,HK.out];omega) (by rw[HDL.out,HK.out];omega) hw hn;have HCB:=zh hcb;clear hcb hd2 hvc;go_wp2_with fail;refine HCB.out.mono ?_;rintro e w3 ⟨v3,rfl,hv3,hb3⟩;have hb13:=hb2.trans (hb3.mono hb2.size);have hO3:=hO.stayF byK (HotBy.below (hot:=[]) hb13) (fun b e=>by cases e);obtain⟨A3,c3,hv32,-,-⟩:=hv3.form;rw[combT_length] at hv32;subst hv32;obtain⟨xs,ho3,hc3⟩:=hO3;obtain⟨xs0,ho0,-⟩:=hO;have hown0:=ho0.lt;have hsz3:=Nat.le_trans hsz hb13.size;rw[wordT_length] at ho3;have hone:(Value.slice A3 n c3).oneCell'=true:=rfl;have hs2:=hb2.size;clear ho0 xs0;go_wp2_with (at_builtin;refine app_row (.tmp 40) (.tmp 42) rfl rfl _ _ _ _ (by rfl) ho3 (by rfl) hone (by omega) hsz3 ?_;intro v' w4 hown' hg hat);go_roundg (k+m - (a+1))
   case measure=>omega
   case rel =>
    refine⟨a+1,by omega,rfl,by go_num,?_,(hb.trans (hb13.mono hsz)).grown hg hsz3 (fun b h=>(ho3.lt b h).1)⟩;rw[wordT_succ];refine OwnK.pushF (v:=.slice A7 a c7) (hot:=[(Value.slice A7 a c7).ownBlock]) byK hc3 (by rw[wordT_length];exact ho3.1) (fun b e=>(ho3.lt b e).2) (by rw[wordT_length];exact hown') rfl ⟨_,rfl,hv3.mono (fun b hb=>⟨Nat.le_trans hsz (Nat.le_trans hs2 hb.1),hb.2,fun e=>by have:=(hown0 b e).2;have:=hb.1;omega⟩)⟩ (HotBy.grown hg (.inl (by simp))) (fun b e _ _=>by simp at e;exact e.symm) ?_;rcases hat with h1 | h1
    ·exact .inl h1
    ·exact .inr ⟨_,h1,by omega⟩
  ·have haI:Hid (a=k+m):=(by omega:a=k+m)
   have hlt2:¬(a:Int)<(k:Int)+(m:Int):=by omega
   go_wp2;go_ret2
   have h:=hO.slS byK (R':=Fr w.heap.size wr.heap.size) (fun b h=>⟨h.1,h.2.1⟩) (fun b e=>by
    obtain⟨xs0,ho0,-⟩:=hO
    exact ho0.lt b e)
   rw[haI.out] at h;exact⟨_,rfl,by rw[haI.out];exact h,hb⟩
end Go.Proofs.YtcfkllnpkmebpaaGreatDoor

namespace Go.Proofs.YtcfkllnpkmebpaaGreatDoor
open Go.RowKit
set_option linter.unusedVariables false
set_option linter.unusedSimpArgs false
theorem info_str:(Tryz.prog.info? 9).map (fun i=>(i.zero,i.size,i.bytes))=some (some (.string ⟨#[]⟩),1,16):=by kernel_rfl
theorem info_strs:(Tryz.prog.info? 54).map (fun i=>(i.zero,i.size,i.bytes))=some (some (.slice none 0 0),1,24):=by kernel_rfl
theorem info_ack:(Tryz.prog.info? 89).map (fun i=>(i.zero,i.size,i.bytes))=some (some (.agg #[.int .i64 0,.int .i64 0,.int .i64 0,.int .i64 0]),4,32):=by kernel_rfl
structure MadeOk (F:FltM) (r:Re) (st:List Stp):Prop where
 plat:r.plat.length=F.dves.length
 on:r.on.length=F.dves.length
 acks:r.acks=st.map Stp.ack
 keys:st.map (fun x=>(x.vol,x.stripe))=keysTo F.ext.toNat F.vols.length 0
 ok:∀x∈st,StpOk F x
 sec:∀l∈r.plat,∀s∈l,SecOk st s.data.toList
 len:∀l∈r.plat,l.length≤1000
 len5:∀l∈r.plat,l.length≤500
structure StI (F:FltM) (ND I1 I:Nat) (rs:List (Value×List ByteArray)) (st:List Stp) (n:Nat) (f:Int→Int→Option Value) (ext v s:Nat):Prop where
 len:rs.length=ND
 row:∀(i:Nat) (x:Value×List ByteArray),rs[i]?=some x→x.2.length+I1≤I+1∧∀s∈x.2,SecOk st s.data.toList
 keys:st.map (fun x=>(x.vol,x.stripe))=keysTo ext v s
 ok:∀x∈st,StpOk F x
 data:DataOk st f
 n:n≤st.length
theorem IntS.form3{w:World} {R:Nat→Prop} {v:Value} {xs:List Int} (h:IntS w R v xs):∃A n c,v=.slice A n c:=by
 obtain⟨A,c,e,-⟩:=h.1;exact⟨A,_,c,e⟩
theorem LS.form3{w:World} {R:Nat→Prop} {v:Value} {l:List Nat} (h:LS w R v l):∃A n c,v=.slice A n c:=by
 obtain⟨A,c,e,-⟩:=h.form;exact⟨A,_,c,e⟩
def PolQ(w:World) (g k m:Nat):Prop:=(∃cs,w.heap[g]?=some (.cells cs 85 (0,0)))∧w.cell? ⟨g,0+1,none⟩=some (.int .i64 (k:Int))∧w.cell? ⟨g,0+2,none⟩=some (.int .i64 (m:Int))
theorem PolQ.cells{w:World} {g k m:Nat} (h:PolQ w g k m):w.cell? ⟨g,1,none⟩=some (.int .i64 (k:Int))∧w.cell? ⟨g,2,none⟩=some (.int .i64 (m:Int))∧g<w.heap.size:=by
 obtain⟨⟨cs,h1⟩,h2,h3⟩:=h;exact⟨h2,h3,(Array.getElem?_eq_some_iff.1 h1).1⟩
theorem PolQ.hot{w w':World} {g k m:Nat} (h:PolQ w g k m) {hot:List (Option Nat)} (hh:HotBy hot w w') (hn:some g∉hot):PolQ w' g k m:=by
 have hb:=hh.block g h.cells.2.2 hn;obtain⟨⟨cs,h1⟩,h2,h3⟩:=h;exact⟨⟨cs,hb.trans h1⟩,(World.cell?_of_block (w:=w) hb).trans h2,(World.cell?_of_block (w:=w) hb).trans h3⟩
theorem PolQ.hotT{w w':World} {g k m:Nat} (h:PolQ w g k m) {o:Option Nat} (hh:HotBy [o] w w') (ho:∀b,o=some b→∃cs T,w.heap[b]?=some (.cells cs T (0,0))∧T≠85):PolQ w' g k m:=h.hot hh (fun e=>by
 simp at e;obtain⟨cs,T,h1,h2⟩:=ho g e.symm;obtain⟨⟨cs',h3⟩,-⟩:=h
 exact h2 (cells_ty h1 h3))
theorem setCells_type{b:Nat} {T:TypeId}:∀(vs:List Value) (o:Nat) (w:World),(∃cs,w.heap[b]?=some (.cells cs T (0,0)))→∃cs,(w.setCells b o vs).heap[b]?=some (.cells cs T (0,0))
 | [],o,w,h=>h
 | v :: vs,o,w,⟨cs,h⟩=>setCells_type vs (o+1) (w.setCell ⟨b,o,none⟩ v) ⟨_,heap_setCell_same w b o _ _ v h⟩
theorem there_of_block{w:World} {b:Nat} {cs:Array Value} {T:TypeId} {n:Nat} (h:w.heap[b]?=some (.cells cs T (0,0))) (hn:n≤cs.size):w.there b 0 n:=fun j hj=>by
 rw[Nat.zero_add];exact⟨by rw[cell_of_row _ _ _ _ _ _ h,Array.getElem?_eq_getElem (by omega)];rfl,frozen_of_row _ _ _ _ _ h⟩
theorem hot_setCells:∀(w:World) (b:Nat) (vs:List Value) (o:Nat),HotBy [some b] w (w.setCells b o vs)
 | w,b,[],o=>HotBy.refl _ _
 | w,b,v :: vs,o=>(HotBy.setCell [some b] w ⟨b,o,none⟩ v (by simp)).trans (hot_setCells (w.setCell ⟨b,o,none⟩ v) b vs (o+1))
theorem keysTo_not(ext v s:Nat):(v,s)∉keysTo ext v s:=by
 unfold keysTo;intro h;rcases List.mem_append.1 h with h | h
 ·obtain⟨a,ha,hb⟩:=List.mem_flatMap.1 h;obtain⟨b,hb1,hb2⟩:=List.mem_map.1 hb;have:=List.mem_range.1 ha;injection hb2 with e1 e2;omega
 ·obtain⟨b,hb1,hb2⟩:=List.mem_map.1 h;have:=List.mem_range.1 hb1;injection hb2 with e1 e2;omega
theorem DataOk.push{st:List Stp} {f:Int→Int→Option Value} {ext v s:Nat} (h:DataOk st f) (hk:st.map (fun x=>(x.vol,x.stripe))=keysTo ext v s) {x:Stp} (hv:x.vol=v) (hs:x.stripe=s):DataOk (st++[x]) (upd f (v:Int) (s:Int) (.string ⟨(x.rows.flatten).toArray⟩)):=fun y hy=>by
 rcases List.mem_append.1 hy with hy | hy
 ·have hne:¬(((y.vol:Nat):Int)=(v:Int)∧((y.stripe:Nat):Int)=(s:Int)):=fun e=>by
   have h1:y.vol=v:=by omega
   have h2:y.stripe=s:=by omega
   have h3:(y.vol,y.stripe)∈st.map (fun x=>(x.vol,x.stripe)):=List.mem_map.2 ⟨y,hy,rfl⟩;rw[hk,h1,h2] at h3;exact keysTo_not ext v s h3
  rw[upd_other hne];exact h y hy
 ·rw[List.mem_singleton.1 hy,hv,hs,upd_same]
structure RowJ (ND I1 J lo hi:Nat) (st:List Stp) (rs:List (Value×List ByteArray)):Prop where
 len:rs.length=ND
 row:∀(i:Nat) (x:Value×List ByteArray),rs[i]?=some x→x.2.length+I1≤J+1∧(∀s∈x.2,SecOk st s.data.toList)∧∀b,x.1.ownBlock=some b→b<lo∨hi≤b
def PieceB(w:World) (g:Nat) (p:Pc):Prop:=w.heap[g]?=some (.cells #[.int .i64 p.vol,.int .i64 p.frag,.int .i64 p.stripe,.int .i64 p.gen,.int .i64 p.ver,.string ⟨p.data.toArray⟩] 94 (0,0))
theorem PieceB.lt{w:World} {g:Nat} {p:Pc} (h:PieceB w g p):g<w.heap.size:=(Array.getElem?_eq_some_iff.1 h).1
theorem PieceB.cells{w:World} {g:Nat} {p:Pc} (h:PieceB w g p):w.cell? ⟨g,0,none⟩=some (.int .i64 p.vol)∧w.cell? ⟨g,1,none⟩=some (.int .i64 p.frag)∧w.cell? ⟨g,2,none⟩=some (.int .i64 p.stripe)∧w.cell? ⟨g,3,none⟩=some (.int .i64 p.gen)∧w.cell? ⟨g,4,none⟩=some (.int .i64 p.ver)∧w.cell? ⟨g,5,none⟩=some (.string ⟨p.data.toArray⟩)∧(∀i,w.frozen? ⟨g,i,none⟩=false):=by
 refine⟨?_,?_,?_,?_,?_,?_,fun i=>frozen_of_row _ _ _ _ _ h⟩ <;> (rw[cell_of_row _ _ _ _ _ _ h];rfl)
theorem six_cells{w:World} {g:Nat} {a b c d e f:Value} {T:TypeId} (h:w.heap[g]?=some (.cells #[a,b,c,d,e,f] T (0,0))):w.cell? ⟨g,0,none⟩=some a∧w.cell? ⟨g,1,none⟩=some b∧w.cell? ⟨g,2,none⟩=some c∧w.cell? ⟨g,3,none⟩=some d∧w.cell? ⟨g,4,none⟩=some e∧w.cell? ⟨g,5,none⟩=some f∧(∀i,w.frozen? ⟨g,i,none⟩=false):=by
 refine⟨?_,?_,?_,?_,?_,?_,fun i=>frozen_of_row _ _ _ _ _ h⟩ <;> (rw[cell_of_row _ _ _ _ _ _ h];rfl)
theorem PieceB.hot{w w':World} {g:Nat} {p:Pc} (h:PieceB w g p) {hot:List (Option Nat)} (hh:HotBy hot w w') (hn:some g∉hot):PieceB w' g p:=(hh.block g h.lt hn).trans h
theorem PieceB.six{w:World} {g:Nat} {a b c d e f:Value} (h:w.heap[g]?=some (.cells #[a,b,c,d,e,f] 94 (0,0))) (p:Pc):PieceB ((((((w.setCell ⟨g,0,none⟩ (.int .i64 p.vol)).setCell ⟨g,1,none⟩ (.int .i64 p.frag)).setCell ⟨g,2,none⟩ (.int .i64 p.stripe)).setCell ⟨g,3,none⟩ (.int .i64 p.gen)).setCell ⟨g,4,none⟩ (.int .i64 p.ver)).setCell ⟨g,5,none⟩ (.string ⟨p.data.toArray⟩)) g p :=
 heap_setCell_same _ g 5 _ _ _ (heap_setCell_same _ g 4 _ _ _ (heap_setCell_same _ g 3 _ _ _ (heap_setCell_same _ g 2 _ _ _ (heap_setCell_same _ g 1 _ _ _ (heap_setCell_same w g 0 _ _ _ h)))))
theorem InP.six{gT:Nat} {vt:Value} {wr0 w1:World} {I:Nat} (h:InP gT vt wr0 w1 I) (hT:gT<wr0.heap.size) {g:Nat} (hg:wr0.heap.size≤g) (a b c d e f:Value):InP gT vt wr0 ((((((w1.setCell ⟨g,0,none⟩ a).setCell ⟨g,1,none⟩ b).setCell ⟨g,2,none⟩ c).setCell ⟨g,3,none⟩ d).setCell ⟨g,4,none⟩ e).setCell ⟨g,5,none⟩ f) I :=
 (((((h.set hT g 0 a hg).set hT g 1 b hg).set hT g 2 c hg).set hT g 3 d hg).set hT g 4 e hg).set hT g 5 f hg
theorem encB_length{p:Pc} (h:p.data.length=16):(encB p).length=36:=by
 unfold encB sealB headB;simp[beTo_length,h]
theorem InP.next_big{w0 wr0 w1 WA:World} {R:Nat→Prop} {gT:Nat} {vt:Value} {xs:List Int} {gF:Nat} {I:Nat} (S:StatA w0 R gT vt xs WA gF) (h0:HotBy [some gT,some gF] WA wr0) (h:InP gT vt wr0 w1 I) (hI:I≤1000000000) (n:Nat) (h1:1≤n) (h2:n≤4294967296) (nv:Int) (hn:nv=(n:Int)) :
  Calls Tryz.prog 32 #[.pointer (some ⟨gT,0,none⟩),.int .i64 nv] w1 fun e w'=>∃r:Nat,e=.returned (.int .i64 (r:Int))∧r<n∧InP gT vt wr0 w' (I+1)∧HotBy [some gT] w1 w':=by
 subst hn;refine(next_hot w0 R gT vt xs S.hx S.hR w1 (S.w0 (h0.trans (h.hot.more (fun x hx _=>by simp at hx ⊢;exact .inl hx)))) I h.tape (by omega) n h1 (by omega)).mono ?_;rintro e w' ⟨r,rfl,hr,hT,hg⟩;have hh:HotBy [some gT] w1 w':=HotBy.grown hg (.inl (by simp));exact⟨r,rfl,hr,⟨hT,h.hot.trans hh⟩,hh⟩
theorem size_flt:(Tryz.prog.info? 35).map (·.size)=some 7:=by kernel_rfl
theorem size_rea:(Tryz.prog.info? 40).map (·.size)=some 3:=by kernel_rfl
theorem PieceB.elder{w:World} {g:Nat} {p:Pc} (h:PieceB w g p) (x:Int) (l:List UInt8):PieceB ((w.setCell ⟨g,4,none⟩ (.int .i64 x)).setCell ⟨g,5,none⟩ (.string ⟨l.toArray⟩)) g ⟨p.vol,p.frag,p.stripe,p.gen,x,l⟩:=heap_setCell_same _ g 5 _ _ _ (heap_setCell_same w g 4 _ _ _ h)
theorem cat_flat(t:Mat) (l:List UInt8):(⟨t.flatten.toArray⟩:ByteArray)++⟨l.toArray⟩=⟨(t++[l]).flatten.toArray⟩:=by
 rw[ByteArray.mk_append_mk]
 congr 1
 apply Array.ext';simp
theorem wide_sum:∀(t:Mat) (n:Nat),Wide t n→(List.map List.length t).sum=t.length * n
 | [],n,_=>by simp
 | r :: t,n,h=>by
  have h1:=wide_sum t n (fun x hx=>h x (List.mem_cons_of_mem _ hx));have h2:=h r (List.mem_cons_self ..);simp only[List.map_cons,List.sum_cons,List.length_cons,h1,h2,Nat.succ_mul];omega
theorem InP.drew{gT:Nat} {vt:Value} {wr0 w1:World} {I:Nat} (h:InP gT vt wr0 w1 I):InP gT vt wr0 w1.drew I:=⟨h.tape,h.hot.drew⟩
theorem MadeT.drew{gT:Nat} {vt:Value} {WM:World} {gR gM:Nat} {w:World} {I:Nat} {c0 c1 c2 vp vo va:Value} {rs:List (Value×List ByteArray)} {on:List Bool} {acks:List Ac} {n:Nat} {f:Int→Int→Option Value} (h:MadeT gT vt WM gR gM w I c0 c1 c2 vp vo va rs on acks n f):MadeT gT vt WM gR gM w.drew I c0 c1 c2 vp vo va rs on acks n f:=h.inP (InP.start h.tape).drew
theorem keysTo_le(ext v s:Nat) (he:ext≤2) (hv:v≤2) (hs:s≤2):(keysTo ext v s).length≤100:=by
 have h:∀v,((List.range v).flatMap (fun v=>(List.range ext).map fun s=>(v,s))).length=v * ext:=by
  intro v
  induction v with
  | zero=>simp
  | succ v ih=>rw[List.range_succ,List.flatMap_append,List.length_append,ih];simp[Nat.succ_mul]
 unfold keysTo;rw[List.length_append,h];have:v * ext≤2 * 2:=Nat.mul_le_mul hv he;simp;omega
theorem keysTo_mem{ext v a b:Nat} (h:(a,b)∈keysTo ext v 0):a<v∧b<ext:=by
 unfold keysTo at h;rcases List.mem_append.1 h with h | h
 ·obtain⟨c,hc,hd⟩:=List.mem_flatMap.1 h;obtain⟨d,hd1,hd2⟩:=List.mem_map.1 hd;have h1:=List.mem_range.1 hc;have h2:=List.mem_range.1 hd1;injection hd2 with e1 e2;omega
 ·simp at h
def w_cell_pol(w:World) (b o v p:Nat):Prop:=w.cell? ⟨b,o+v * 2+1,none⟩=some (.int .i64 (p:Int))
def MadePost(w:World) (e:Ending) (w':World):Prop :=
 ∃vl vm vd vv vp vo F r0 r1 r2 r gM n f st,e=.returned (.tuple #[.agg #[.int .i64 F.ext,vl,vm,vd,vv,vp,vo],.agg #[r0,r1,r2],.map (some gM)])∧FleetS w' (Fr w.heap.size w'.heap.size) vl vm vd vv vp vo F∧FleetOk 2 F ∧
  ReS w' (Fr w.heap.size w'.heap.size) r0 r1 r2 r∧MadeOk F r st∧MapKV w' 67 gM n f∧DataOk st f∧w.heap.size≤gM∧Below w.heap.size w w'
end Go.Proofs.YtcfkllnpkmebpaaGreatDoor
