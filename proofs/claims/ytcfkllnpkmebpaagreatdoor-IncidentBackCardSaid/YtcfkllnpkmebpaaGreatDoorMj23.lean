/- Builder.WriteString; words, the program's line; the reference's digits, walked. -/
import Derived.Lib.AppendStr
import Derived.BigQuiet
import Derived.Deep.QuietTactic
import Derived.Test.YtcfkllnpkmebpaaGreatDoorMj11
import Derived.Test.YtcfkllnpkmebpaaGreatDoorMj18
import Derived.Test.YtcfkllnpkmebpaaGreatDoorMj21
import Derived.Test.YtcfkllnpkmebpaaGreatDoorMj01
import Derived.Test.YtcfkllnpkmebpaaGreatDoorMj22
import Derived.Lib.BufferWrite
import Derived.Deep.Upon
import Derived.Laws.AppendOwnNone
import Derived.Test.YtcfkllnpkmebpaaGreatDoorMj19
import Derived.Lib.BufferMore
set_option maxRecDepth 100000
set_option maxHeartbeats 12800000
namespace Go.Proofs.YtcfkllnpkmebpaaGreatDoor
open Go.RowKit Go.Shelf
set_option linter.unusedVariables false
set_option linter.unusedSimpArgs false
theorem bws_any(B b:Nat) (bs:List Value) (s:ByteArray) (w:World) (h:Lib.IsBuilder 108 5 B b bs w) (hlen:bs.length+s.size≤140737488355328) (hBw:B≤w.heap.size) :
  Calls Tryz.prog 42 #[.pointer (some ⟨b,0,none⟩),.string s] w fun e w'=>e=.returned (.tuple #[.int .i64 s.size,.nilIface])∧(Lib.BuilderAt 108 5 B b (.pointer (some ⟨b,0,none⟩)) (bs++Lib.strCells s) w'∧Below B w w'):=by
 obtain⟨i0,hi,hz0,hz1,hz2⟩:=info_parts info_u8b
 go_enter Tryz.func42,Tryz.ntmps42
 go_wp2_with (go_at_call 94;refine(bcheck_any B b bs _ h).mono ?_)
 rintro e w1 ⟨rfl,h1',hb1⟩
 obtain⟨hB,v,hbk,hown,hne⟩:=h1'
 have c0:w1.cell? ⟨b,0,none⟩=some (.pointer (some ⟨b,0,none⟩)):=by rw[Lib.cell_of_heap hbk];rfl
 have c1:w1.cell? ⟨b,1,none⟩=some v:=by rw[Lib.cell_of_heap hbk];rfl
 go_wp2_with (at_builtin;refine Lib.wpList_append_own_string _ rfl _ _ 53 9 rfl B 5 i0 Tryz.underlying53 Tryz.underlying9 hi hz0 hz1 hz2 _ _ _ rfl hown s rfl ?c3 ?c4 ?c5 ?_)
 case c3=>unfold maxLen;omega
 case c4=>omega
 case c5=>have:=hb1.size;omega
 intro v' w2 hown' hgrow _
 have hlt:b<w1.heap.size:=by
  rcases Nat.lt_or_ge b w1.heap.size with h' | h'
  ·exact h'
  ·simp[Array.getElem?_eq_none h'] at hbk
 have hb2:w2.heap[b]?=some (.cells #[.pointer (some ⟨b,0,none⟩),v] 108 (0,0)):=by
  rw[hgrow.block b hlt (fun e=>hne e.symm)]
  exact hbk
 have d0:w2.cell? ⟨b,0,none⟩=some (.pointer (some ⟨b,0,none⟩)):=by rw[Lib.cell_of_heap hb2];rfl
 have d1:w2.cell? ⟨b,1,none⟩=some v:=by rw[Lib.cell_of_heap hb2];rfl
 have f1:w2.frozen? ⟨b,1,none⟩=false:=Lib.frozen_of_heap hb2 1
 obtain⟨ao,n',cap,rfl⟩:∃ao n' cap,v'=.slice ao n' cap:=by
  rcases hown'.2 with ⟨hv,_⟩ | ⟨g,cap,cur,hv,_⟩
  ·exact⟨_,_,_,hv⟩
  ·exact⟨_,_,_,hv⟩
 go_wp2
 go_ret2
 refine⟨rfl,?_,?_⟩
 ·exact Lib.BuilderAt.put (T:=108) (e:=5) hB hb2 (bs':=bs++Lib.strCells s) (by simpa[Lib.strCells_length] using hown') (by decide)
 ·exact(hb1.grown hgrow (by have:=hb1.size;omega) (fun k hk=>(hown.lt k hk).1)).setCell (p:=⟨b,1,none⟩) hB _
theorem baEq{x:ByteArray} {l:List UInt8} (h:x.data.toList=l):x=⟨l.toArray⟩:=by
 cases x
 congr 1
 rw[←h]
def wordL(st:Int):List UInt8:=if st=1 then [103,111,111,100] else if st=2 then [97,119,97,121] else if st=3 then [111,108,100] else [103,111,110,101]
def lineL(i:Nat) (st:Int) (nm:ByteArray):List UInt8:=32 :: 32 :: (Lib.decDigits i++(32 :: (wordL st++(if st=4 then [] else 32 :: nm.data.toList))))
def headL(lost:Bool) (nm:ByteArray) (s need:Nat):List UInt8:=(if lost then [108,111,115,116,32] else [97,119,97,121,32])++(nm.data.toList++(32 :: (Lib.decDigits s++([32,110,101,101,100,115,32]++Lib.decDigits need))))
theorem hdl_head(lost:Bool) (nm:ByteArray) (s need:Nat):hdlB lost nm s need=⟨(headL lost nm s need).toArray⟩:=by
 refine baEq ?_
 unfold hdlB headL
 cases lost <;> simp[ByteArray.data_append]
theorem words_any(st:Int) (w:World) (h:st=1∨st=2∨st=3∨st=4):Calls Tryz.prog 96 #[.int .i64 st] w fun e w'=>e=.returned (.string ⟨(wordL st).toArray⟩)∧w=w':=by
 have x1:∀w,(Instr.index 231 (.agg #[.string ⟨#[]⟩,.string ⟨#[103,111,111,100]⟩,.string ⟨#[97,119,97,121]⟩,.string ⟨#[111,108,100]⟩,.string ⟨#[103,111,110,101]⟩]) (.int .i64 1)).run Tryz.prog w=.ok (.string ⟨#[103,111,111,100]⟩) w:=fun _=>by kernel_rfl
 have x2:∀w,(Instr.index 231 (.agg #[.string ⟨#[]⟩,.string ⟨#[103,111,111,100]⟩,.string ⟨#[97,119,97,121]⟩,.string ⟨#[111,108,100]⟩,.string ⟨#[103,111,110,101]⟩]) (.int .i64 2)).run Tryz.prog w=.ok (.string ⟨#[97,119,97,121]⟩) w:=fun _=>by kernel_rfl
 have x3:∀w,(Instr.index 231 (.agg #[.string ⟨#[]⟩,.string ⟨#[103,111,111,100]⟩,.string ⟨#[97,119,97,121]⟩,.string ⟨#[111,108,100]⟩,.string ⟨#[103,111,110,101]⟩]) (.int .i64 3)).run Tryz.prog w=.ok (.string ⟨#[111,108,100]⟩) w:=fun _=>by kernel_rfl
 have x4:∀w,(Instr.index 231 (.agg #[.string ⟨#[]⟩,.string ⟨#[103,111,111,100]⟩,.string ⟨#[97,119,97,121]⟩,.string ⟨#[111,108,100]⟩,.string ⟨#[103,111,110,101]⟩]) (.int .i64 4)).run Tryz.prog w=.ok (.string ⟨#[103,111,110,101]⟩) w:=fun _=>by kernel_rfl
 rcases h with rfl | rfl | rfl | rfl
 all_goals
  go_enter Tryz.func96,Tryz.ntmps96
  go_wp2_with fail
  go_ret
  exact⟨rfl,rfl⟩
end Go.Proofs.YtcfkllnpkmebpaaGreatDoor

namespace Go.Proofs.YtcfkllnpkmebpaaGreatDoor
open Go.RowKit Go.Shelf
set_option linter.unusedVariables false
set_option linter.unusedSimpArgs false
theorem word_short(st:Int):(⟨(wordL st).toArray⟩:ByteArray).size≤4:=by
 unfold wordL
 split
 ·decide
 ·split
  ·decide
  ·split
   ·decide
   ·decide
theorem line_any(i:Nat) (st dr:Int) (nm:ByteArray) (x0 x1 x2 x3 x5 x6:Value) (Ad:Option Addr) (ND cd:Nat) (w:World) (hi:i<100) (hst:st=1∨st=2∨st=3∨st=4) (hnd:ND≤1000) (hnm:nm.size≤1000)
  (hn:st≠4→0≤dr∧dr<(ND:Int)∧∃b off,Ad=some ⟨b,off,none⟩∧b<w.heap.size∧w.cell? ⟨b,off+dr.toNat * 3,none⟩=some (.string nm)) :
  Calls Tryz.prog 44 #[.agg #[x0,x1,x2,x3,.slice Ad ND cd,x5,x6],.int .i64 (i:Int),.agg #[.int .i64 st,.int .i64 dr]] w fun e w'=>e=.returned (.string ⟨(lineL i st nm).toArray⟩)∧Below w.heap.size w w':=by
 obtain⟨D1,hD1⟩:∃b:ByteArray,b=⟨(Lib.decDigits i).toArray⟩:=⟨_,rfl⟩
 obtain⟨W,hW⟩:∃b:ByteArray,b=⟨(wordL st).toArray⟩:=⟨_,rfl⟩
 have l1:D1.size≤2:=by rw[hD1];exact dec_short i hi
 have l2:W.size≤4:=by rw[hW];exact word_short st
 have hit:=fun w=>itoa_any i hi w
 have hwd:=fun w=>words_any st w hst
 rw[←hD1] at hit
 rw[←hW] at hwd
 have HI:=zh hit
 have HWD:=zh hwd
 have HDW:=zh (And.intro hD1 hW)
 have f1:¬9223372036854775807<2+D1.size:=by omega
 have f2:¬9223372036854775807<2+D1.size+1:=by omega
 have f3:¬9223372036854775807<2+D1.size+1+W.size:=by omega
 have f4:¬9223372036854775807<1+nm.size:=by omega
 have f5:¬9223372036854775807<2+D1.size+1+W.size+(1+nm.size):=by omega
 obtain⟨W0,hW0⟩:=zx ((w.alloc (.cells #[x0,x1,x2,x3,.slice Ad ND cd,x5,x6] 35)).alloc (.cells #[.int .i64 st,.int .i64 dr] 102))
 obtain⟨z,hz⟩:=zx w.heap.size
 obtain⟨y,hy⟩:=zx (w.heap.size+1)
 have hb0:Below w.heap.size w W0:=by rw[hW0];exact((Below.refl _ _).alloc (Nat.le_refl _) _).alloc (by simp) _
 have hyk:W0.heap[y]?=some (.cells #[.int .i64 st,.int .i64 dr] 102 (0,0)):=by
  rw[hW0];exact heap_alloc_at _ _ _ (by rw[hy];simp)
 have hzk:W0.heap[z]?=some (.cells #[x0,x1,x2,x3,.slice Ad ND cd,x5,x6] 35 (0,0)):=by
  rw[hW0,hz];exact(Below.heap_alloc _ _ _ (by simp)).trans (heap_alloc_new w _)
 have hyl:y<W0.heap.size:=(Array.getElem?_eq_some_iff.1 hyk).1
 have hzl:z<W0.heap.size:=(Array.getElem?_eq_some_iff.1 hzk).1
 have HY0:=zh (fun(w':World) (hb:Below W0.heap.size W0 w')=>(show w'.cell? ⟨y,0,none⟩=some (.int .i64 st)∧w'.cell? ⟨y,1,none⟩=some (.int .i64 dr) from by
  have h1:=(hb.block y hyl).trans hyk
  exact⟨by rw[cell_of_row _ _ _ _ _ _ h1];rfl,by rw[cell_of_row _ _ _ _ _ _ h1];rfl⟩))
 have HZ4:=zh (fun(w':World) (hb:Below W0.heap.size W0 w')=>(show w'.cell? ⟨z,4,none⟩=some (.slice Ad ND cd) from by
  have h1:=(hb.block z hzl).trans hzk
  rw[cell_of_row _ _ _ _ _ _ h1];rfl))
 have HS1:=zh (show W0.drew.cell? ⟨y,0,none⟩=some (.int .i64 st) from(HY0.out W0.drew (Below.refl _ _).drew).1)
 have HNM:=zh hn
 have HW0:=zh hW0
 have HZ:=zh (And.intro hz hy)
 have HB0:=zh hb0
 clear hn hD1 hW hit hwd hW0 hz hy hb0 hyk hzk hyl hzl hst
 go_enter Tryz.func44,Tryz.ntmps44
 go_upto_region 1 with fail
 rw[←HW0.out,←HZ.out.2,←HZ.out.1]
 refine region_tail (S:=(fun w'=>w'.cell? ⟨y,0,none⟩=some (.int .i64 st))) [] (by kernel_rfl) HS1.out (fun hHeld=>?_)
 refine tk 0 8 ?_
 refine tk 4 12 ?_
 refine tk 5 13 ?_
 refine readyT (rs:=[1]) (by kernel_rfl) (by simp) ?_
 refine AllReadyT.cons rfl (fun K hK=>?_) ?_
 ·go_simp
  refine(HI.out _).mono ?_
  rintro e w' ⟨rfl,rfl⟩
  refine hK.out _ _ ?_ (fun hHeld=>?_)
  ·assumption
  clear hK K
  (try simp only[Act.put,z1,z2,z3])
  refine tk 2 10 ?_
  refine tk 3 11 ?_
  refine readyT (rs:=[6]) (by kernel_rfl) (by simp) ?_
  refine AllReadyT.cons rfl (fun K hK=>?_) ?_
  ·go_simp
   refine(HWD.out _).mono ?_
   rintro e w' ⟨rfl,rfl⟩
   refine hK.out _ _ ?_ (fun hHeld=>?_)
   ·assumption
   clear hK K
   (try simp only[Act.put,z1,z2,z3])
   refine tk 7 15 ?_
   refine tk 8 7 ?_
   refine doneT (by kernel_rfl) ?_ _
   clear hHeld
   obtain⟨W1,hW1⟩:=zx W0.drew
   have hd1:Below W0.heap.size W0 W1:=by rw[hW1];exact(Below.refl _ _).drew
   rw[←hW1]
   clear hW1
   have HD1:=zh hd1
   obtain⟨y0,y1⟩:=HY0.out W1 hd1
   have z4:=HZ4.out W1 hd1
   clear hd1
   by_cases h4:st=4
   ·have b1:(st != 4)=false:=by simpa using h4
    have HE:=zh (show((((⟨#[32,32]⟩:ByteArray)++D1)++(⟨#[32]⟩:ByteArray))++W)=⟨(lineL i st nm).toArray⟩ from by
     rw[HDW.out.1,HDW.out.2];refine baEq ?_;unfold lineL;rw[if_pos h4];simp[ByteArray.data_append])
    clear h4
    go_wp2_with fail
    go_ret
    exact⟨congrArg (fun b=>Ending.returned (.string b)) HE.out,HB0.out.trans (HD1.out.mono HB0.out.size)⟩
   ·have b1:(st != 4)=true:=by simpa using h4
    obtain⟨hd0,hdl,hcell⟩:=HNM.out h4
    obtain⟨d,rfl⟩:∃d:Nat,dr=(d:Int):=⟨dr.toNat,by omega⟩
    have i1:(d:Int)<(ND:Int):=by omega
    obtain⟨b,off,hA,hbl,hc⟩:=hcell
    subst hA
    rw[Int.toNat_natCast] at hc
    have n0:W1.cell? ⟨b,off+d * 3,none⟩=some (.string nm):=((HB0.out.trans (HD1.out.mono HB0.out.size)).cell (p:=⟨b,off+d * 3,none⟩) hbl).trans hc
    have HE:=zh (show(((((⟨#[32,32]⟩:ByteArray)++D1)++(⟨#[32]⟩:ByteArray))++W)++((⟨#[32]⟩:ByteArray)++nm))=⟨(lineL i st nm).toArray⟩ from by
     rw[HDW.out.1,HDW.out.2];refine baEq ?_;unfold lineL;rw[if_neg h4];simp[ByteArray.data_append])
    clear h4 hd0 hdl hbl hc
    go_wp2_with fail
    go_ret
    exact⟨congrArg (fun b=>Ending.returned (.string b)) HE.out,HB0.out.trans (HD1.out.mono HB0.out.size)⟩
  exact AllReadyT.nil
 exact AllReadyT.nil
end Go.Proofs.YtcfkllnpkmebpaaGreatDoor

namespace Go.Proofs.YtcfkllnpkmebpaaGreatDoor
open Go.RowKit Go.Shelf
set_option linter.unusedVariables false
set_option linter.unusedSimpArgs false
def dnOf(F:FltM) (d:Nat):ByteArray:=match F.dves[d]? with | some x=>x.name | none=>⟨#[]⟩
theorem drv_name{N:Nat} {F:FltM} {w:World} {R:Nat→Prop} {vl vm vd vp vo:Value} {Ad:Option Addr} {cd:Nat} (hf:FleetS w R vl vm vd (.slice Ad F.dves.length cd) vp vo F) (hok:FleetOk N F) {d:Nat} (hd:d<F.dves.length) :
  (∃b off,Ad=some ⟨b,off,none⟩∧R b∧w.cell? ⟨b,off+d * 3,none⟩=some (.string (dnOf F d)))∧(dnOf F d).size=3:=by
 have e:dnOf F d=F.dves[d].name:=by unfold dnOf;rw[List.getElem?_eq_getElem hd]
 obtain⟨b,off,cs,e2,hR,-,hc,hcs⟩:=hf.2.2.2.1.at_ (k:=d) hd
 unfold DveK at hcs
 subst hcs
 have h0:=hc 0 _ rfl
 rw[e]
 refine⟨⟨b,off,e2,hR,h0⟩,?_⟩
 obtain⟨h1,-⟩:=hok.dves d F.dves[d] (List.getElem?_eq_getElem hd)
 rw[h1];rfl
def linesT(F:FltM):Nat→List Cau→List UInt8
 | _,[]=>[]
 | i,c :: l=>lineL i c.state (dnOf F c.drive.toNat)++(10 :: linesT F (i+1) l)
def incT(F:FltM) (x:Inc):List UInt8:=headL x.lost (nmOf F x.vol.toNat) x.stripe.toNat x.need.toNat++(10 :: linesT F 0 x.causes)
def fmtT(F:FltM) (l:List Inc):List UInt8:=l.flatMap (incT F)
theorem linesT_snoc(F:FltM) (l:List Cau) (c:Cau):∀i,linesT F i (l++[c])=linesT F i l++(lineL (i+l.length) c.state (dnOf F c.drive.toNat)++[10]):=by
 induction l with
 | nil=>intro i;simp[linesT]
 | cons x l ih =>
  intro i
  rw[List.cons_append,linesT,linesT,ih (i+1),List.length_cons]
  have:i+1+l.length=i+(l.length+1):=by omega
  rw[this];simp
theorem lines_next(F:FltM) {cs:List Cau} {j:Nat} (h:j<cs.length):linesT F 0 (cs.take (j+1))=linesT F 0 (cs.take j)++(lineL j cs[j].state (dnOf F cs[j].drive.toNat)++[10]):=by
 rw[List.take_succ_eq_append_getElem h,linesT_snoc,Nat.zero_add,List.length_take,Nat.min_eq_left (by omega)]
theorem fmt_next(F:FltM) {l:List Inc} {i:Nat} (h:i<l.length):fmtT F (l.take (i+1))=fmtT F (l.take i)++incT F l[i]:=by
 unfold fmtT
 rw[List.take_succ_eq_append_getElem h,List.flatMap_append]
 simp
theorem lineL_len(i:Nat) (st:Int) (nm:ByteArray) (hi:i<100) (hn:nm.size≤3):(lineL i st nm).length≤20:=by
 have h1:(Lib.decDigits i).length≤2:=by have:=List.all_eq_true.1 dec_all i (by simpa using hi);rwa [decide_eq_true_eq] at this
 have h2:(wordL st).length≤4:=by unfold wordL;split <;> (try split) <;> (try split) <;> simp
 have h3:nm.data.toList.length≤3:=by have:nm.data.size≤3:=hn;simpa using this
 unfold lineL
 split <;> simp <;> omega
theorem headL_len(b:Bool) (nm:ByteArray) (s K:Nat) (hs:s<100) (hK:K<100) (hn:nm.size≤3):(headL b nm s K).length≤30:=by
 have h1:(Lib.decDigits s).length≤2:=by have:=List.all_eq_true.1 dec_all s (by simpa using hs);rwa [decide_eq_true_eq] at this
 have h2:(Lib.decDigits K).length≤2:=by have:=List.all_eq_true.1 dec_all K (by simpa using hK);rwa [decide_eq_true_eq] at this
 have h3:nm.data.toList.length≤3:=by have:nm.data.size≤3:=hn;simpa using this
 unfold headL
 cases b <;> simp <;> omega
theorem bld_below{T e:TypeId} {B b:Nat} {p:Value} {bs:List Value} {w w':World} (h:Lib.BuilderAt T e B b p bs w) (hb:Below w.heap.size w w'):Lib.BuilderAt T e B b p bs w':=by
 obtain⟨h1,v,h2,h3,h4⟩:=h
 exact⟨h1,v,(hb.block b (Array.getElem?_eq_some_iff.1 h2).1).trans h2,own_below h3 hb,h4⟩
theorem isb_below{T e:TypeId} {B b:Nat} {bs:List Value} {w w':World} (h:Lib.IsBuilder T e B b bs w) (hb:Below w.heap.size w w'):Lib.IsBuilder T e B b bs w':=by
 rcases h with h | h
 ·exact .inl (bld_below h hb)
 ·exact .inr (bld_below h hb)
theorem all_ok{F:FltM} {l:List Inc} (h:validB F l=true):∀x∈l,oneB F x=true:=fun x hx=>by
 unfold validB at h
 rw[List.all_eq_true] at h
 obtain⟨i,hi,rfl⟩:=List.getElem_of_mem hx
 have h1:=h i (List.mem_range.2 hi)
 unfold okAt at h1
 rw[Bool.and_eq_true,getBang hi] at h1
 exact h1.1
theorem one_parts{F:FltM} {x:Inc} (h:oneB F x=true):isStr F.vols.length F.ext x.vol x.stripe=true∧x.need=kOf F x.vol.toNat∧(∀c∈x.causes,cauOk F.dves.length c=true)∧finB (kOf F x.vol.toNat) (mOf F x.vol.toNat) x.need x.lost x.causes=true:=by
 unfold oneB at h
 rw[Bool.and_eq_true,Bool.and_eq_true,Bool.and_eq_true,decide_eq_true_eq,List.all_eq_true] at h
 exact⟨h.1,h.2.1,h.2.2.1,h.2.2.2⟩
theorem fin_len{K M need:Int} {lost:Bool} {cs:List Cau} (h:finB K M need lost cs=true):(cs.length:Int)=K+M:=by
 unfold finB at h
 rw[Bool.and_eq_true,decide_eq_true_eq] at h
 exact h.1
theorem cau_parts{ND:Nat} {c:Cau} (h:cauOk ND c=true):(c.state=1∨c.state=2∨c.state=3∨c.state=4)∧(c.state≠4→0≤c.drive∧c.drive<(ND:Int))∧(c.state=4→c.drive = -1):=by
 unfold cauOk at h
 split at h
 ·rename_i h1
  rw[Bool.and_eq_true,decide_eq_true_eq,decide_eq_true_eq] at h
  exact⟨by omega,fun _=>h,fun e=>by omega⟩
 ·rw[Bool.and_eq_true,decide_eq_true_eq,decide_eq_true_eq] at h
  exact⟨by omega,fun e=>absurd h.1 e,fun _=>h.2⟩
end Go.Proofs.YtcfkllnpkmebpaaGreatDoor

namespace Go.Proofs.YtcfkllnpkmebpaaGreatDoor
open Go.RowKit Go.Shelf
set_option linter.unusedVariables false
set_option linter.unusedSimpArgs false
theorem bcheck_kp(B b:Nat) (bs:List Value) (w:World) (h:Lib.IsBuilder 108 5 B b bs w) :
  Calls Tryz.prog 94 #[.pointer (some ⟨b,0,none⟩)] w fun e w'=>e=.returned (.tuple #[])∧(Lib.BuilderAt 108 5 B b (.pointer (some ⟨b,0,none⟩)) bs w'∧Below B w w'∧∀x,x<w.heap.size→x≠b→w'.heap[x]?=w.heap[x]?):=by
 rcases h with h | h
 ·refine(bcheck_fresh b w h.cell0 h.shape h.frozen0).mono ?_
  rintro e w' ⟨rfl,rfl⟩
  exact⟨rfl,h.used _,(Below.refl B w).setCell (p:=⟨b,0,none⟩) h.1 _,fun x hx hn=>(Lib.grownBy_setCell w b 0 _).block x hx (fun e=>hn (by simpa using e))⟩
 ·refine(bcheck_used b w h.cell0).mono ?_
  rintro e w' ⟨rfl,rfl⟩
  exact⟨rfl,h,Below.refl B _,fun _ _ _=>rfl⟩
theorem bws_kp(B b:Nat) (bs:List Value) (s:ByteArray) (w:World) (h:Lib.IsBuilder 108 5 B b bs w) (hlen:bs.length+s.size≤140737488355328) (hBw:B≤w.heap.size) :
  Calls Tryz.prog 42 #[.pointer (some ⟨b,0,none⟩),.string s] w fun e w'=>e=.returned (.tuple #[.int .i64 s.size,.nilIface])∧(Lib.BuilderAt 108 5 B b (.pointer (some ⟨b,0,none⟩)) (bs++Lib.strCells s) w'∧Below B w w'∧(∀x row t fz,w.heap[x]?=some (.cells row t fz)→t≠5→x≠b→w'.heap[x]?=some (.cells row t fz))):=by
 obtain⟨i0,hi,hz0,hz1,hz2⟩:=info_parts info_u8b
 go_enter Tryz.func42,Tryz.ntmps42
 go_wp2_with (go_at_call 94;refine(bcheck_kp B b bs _ h).mono ?_)
 rintro e w1 ⟨rfl,h1',hb1,hk1⟩
 obtain⟨hB,v,hbk,hown,hne⟩:=h1'
 have c0:w1.cell? ⟨b,0,none⟩=some (.pointer (some ⟨b,0,none⟩)):=by rw[Lib.cell_of_heap hbk];rfl
 have c1:w1.cell? ⟨b,1,none⟩=some v:=by rw[Lib.cell_of_heap hbk];rfl
 go_wp2_with (at_builtin;refine Lib.wpList_append_own_string _ rfl _ _ 53 9 rfl B 5 i0 Tryz.underlying53 Tryz.underlying9 hi hz0 hz1 hz2 _ _ _ rfl hown s rfl ?c3 ?c4 ?c5 ?_)
 case c3=>unfold maxLen;omega
 case c4=>omega
 case c5=>have:=hb1.size;omega
 intro v' w2 hown' hgrow _
 have hlt:b<w1.heap.size:=by
  rcases Nat.lt_or_ge b w1.heap.size with h' | h'
  ·exact h'
  ·simp[Array.getElem?_eq_none h'] at hbk
 have hb2:w2.heap[b]?=some (.cells #[.pointer (some ⟨b,0,none⟩),v] 108 (0,0)):=by
  rw[hgrow.block b hlt (fun e=>hne e.symm)]
  exact hbk
 have d0:w2.cell? ⟨b,0,none⟩=some (.pointer (some ⟨b,0,none⟩)):=by rw[Lib.cell_of_heap hb2];rfl
 have d1:w2.cell? ⟨b,1,none⟩=some v:=by rw[Lib.cell_of_heap hb2];rfl
 have f1:w2.frozen? ⟨b,1,none⟩=false:=Lib.frozen_of_heap hb2 1
 obtain⟨ao,n',cap,rfl⟩:∃ao n' cap,v'=.slice ao n' cap:=by
  rcases hown'.2 with ⟨hv,_⟩ | ⟨g,cap,cur,hv,_⟩
  ·exact⟨_,_,_,hv⟩
  ·exact⟨_,_,_,hv⟩
 go_wp2
 go_ret2
 refine⟨rfl,?_,?_,?_⟩
 ·exact Lib.BuilderAt.put (T:=108) (e:=5) hB hb2 (bs':=bs++Lib.strCells s) (by simpa[Lib.strCells_length] using hown') (by decide)
 ·exact(hb1.grown hgrow (by have:=hb1.size;omega) (fun k hk=>(hown.lt k hk).1)).setCell (p:=⟨b,1,none⟩) hB _
 ·intro x row t fz hx ht hxb
  have hxl:x<w.heap.size:=(Array.getElem?_eq_some_iff.1 hx).1
  have hx1:=(hk1 x hxl hxb).trans hx
  have hx1l:x<w1.heap.size:=(Array.getElem?_eq_some_iff.1 hx1).1
  have hx2:=(hgrow.block x hx1l (fun e=>by
   rcases hown.2 with ⟨hv,_⟩ | ⟨g,cap,cur,hv,_,hg,_⟩
   ·rw[hv] at e;simp[Value.ownBlock] at e
   ·rw[hv] at e
    simp only[Value.ownBlock,Option.some.injEq] at e
    subst e
    rw[hx1] at hg
    simp only[Option.some.injEq,Obj.cells.injEq] at hg
    exact ht hg.2.1)).trans hx1
  exact((Lib.grownBy_setCell w2 b 1 _).block x (Array.getElem?_eq_some_iff.1 hx2).1 (fun e=>hxb (by simpa using e))).trans hx2
theorem str_cells(l:List UInt8):Lib.strCells ⟨l.toArray⟩=Lib.byteCells l:=by
 unfold Lib.strCells Lib.byteCells
 simp
end Go.Proofs.YtcfkllnpkmebpaaGreatDoor

namespace Go.Proofs.YtcfkllnpkmebpaaGreatDoor
open Go.RowKit Go.Shelf
set_option linter.unusedVariables false
set_option linter.unusedSimpArgs false
def fmtR(F:FltM) (l:List Inc):List UInt8×Int:=if validB F l=true then(fmtT F l,0) else([],1)
theorem tup2{a b:List UInt8} {c d:Int} (h:a=b) (k:c=d):Ending.returned (.tuple #[.string ⟨a.toArray⟩,.int .i64 c])=Ending.returned (.tuple #[.string ⟨b.toArray⟩,.int .i64 d]):=by rw[h,k]
theorem size_l(l:List UInt8):(⟨l.toArray⟩:ByteArray).size=l.length:=by show l.toArray.size=l.length;simp
theorem dn_len{N:Nat} {F:FltM} (hok:FleetOk N F) (d:Nat):(dnOf F d).size≤3:=by
 unfold dnOf
 split
 ·rename_i x h
  obtain⟨h1,-⟩:=hok.dves d x h
  rw[h1];exact Nat.le_refl 3
 ·exact Nat.zero_le _
theorem cells5{W:World} {g:Nat} {a b c d e:Value} {t:TypeId} (k:W.heap[g]?=some (.cells #[a,b,c,d,e] t (0,0))):W.cell? ⟨g,0,none⟩=some a∧W.cell? ⟨g,1,none⟩=some b∧W.cell? ⟨g,2,none⟩=some c∧W.cell? ⟨g,3,none⟩=some d∧W.cell? ⟨g,4,none⟩=some e :=
 ⟨by rw[cell_of_row _ _ _ _ _ _ k];rfl,by rw[cell_of_row _ _ _ _ _ _ k];rfl,by rw[cell_of_row _ _ _ _ _ _ k];rfl,by rw[cell_of_row _ _ _ _ _ _ k];rfl,by rw[cell_of_row _ _ _ _ _ _ k];rfl⟩
theorem iformat_any(N:Nat) (hN:N≤12) (vl vm vd vv vp vo vL:Value) (F:FltM) (L:List Inc) (w:World) (hf:FleetS w (Bl w.heap.size) vl vm vd vv vp vo F) (hok:FleetOk N F) (hL:SlS 5 IncK w (Bl w.heap.size) vL L) (hlen:L.length≤1000) (hcl:∀x∈L,x.causes.length≤1000) :
  Calls Tryz.prog 14 #[.agg #[.int .i64 F.ext,vl,vm,vd,vv,vp,vo],vL] w fun e w'=>e=.returned (.tuple #[.string ⟨(fmtR F L).1.toArray⟩,.int .i64 (fmtR F L).2])∧Below w.heap.size w w':=by
 obtain⟨pb,pof,ob,oof,cp,co,rfl,rfl,hRp,hRo,-⟩:=polAt hf hok
 obtain⟨Ad,cd,rfl,-,-⟩:=SlS.form hf.2.2.2.1
 obtain⟨AL,cL,rfl,-,-⟩:=hL.form
 have HVI:=zh (fun(w':World) (hb:Below w.heap.size w w')=>ivalid_any N hN vl vm vd _ _ _ _ F L w' (hf.below hb) hok (SlS.mono incK (SlS.keep incK hL (fun b h=>hb.block b h)) (fun b h=>Nat.lt_of_lt_of_le h hb.size)) hlen hcl)
 have HLW:=zh (fun(w':World) (hb:Below w.heap.size w w')=>(show SlS 5 IncK w' (Bl w.heap.size) _ L from SlS.keep incK hL (fun b h=>hb.block b h)))
 have HVN:=zh (fun(v:Nat) (hv:v<F.vols.length) (w':World) (hb:Below w.heap.size w w')=>(show w'.cell? ⟨ob,oof+v * 2,none⟩=some (.string (nmOf F v))∧(nmOf F v).size=3 from⟨(hb.cell (p:=⟨ob,oof+v * 2,none⟩) hRo).trans (vol_name hf hok hv).1,(vol_name hf hok hv).2⟩))
 have HDN:=zh (fun(d:Nat) (hd:d<F.dves.length) (w':World) (hb:Below w.heap.size w w')=>(show(∃b off,Ad=some ⟨b,off,none⟩∧b<w.heap.size∧w'.cell? ⟨b,off+d * 3,none⟩=some (.string (dnOf F d)))∧(dnOf F d).size=3 from by
  obtain⟨⟨b,off,h1,h2,h3⟩,h4⟩:=drv_name hf hok hd
  exact⟨⟨b,off,h1,h2,(hb.cell (p:=⟨b,off+d * 3,none⟩) h2).trans h3⟩,h4⟩))
 have HKM:=zh (fun(a:Nat) (ha:a<F.vols.length)=>kmq_ok hok ha)
 have hno:F.vols.length≤12:=Nat.le_trans hok.volN hN
 have hext:F.ext=1∨F.ext=2:=hok.ext
 have hnd:F.dves.length≤9:=hok.dveN
 have HDL:=zh (fun d=>dn_len hok d)
 have HALL:=zh (fun h:validB F L=true=>all_ok h)
 obtain⟨R,hR⟩:=zx (fmtR F L)
 obtain⟨VB,hVB⟩:=zx (validB F L)
 rw[←hVB] at HVI HALL
 have HRR:=zh (show R=if VB=true then(fmtT F L,0) else([],1) by rw[hR,hVB];rfl)
 rw[←hR]
 obtain⟨EX,hEX⟩:=zx F.ext
 obtain⟨ND,hND⟩:=zx F.dves.length
 obtain⟨NO,hNO⟩:=zx F.vols.length
 obtain⟨NP,hNP⟩:=zx F.pols.length
 obtain⟨LN,hLN⟩:=zx L.length
 rw[←hEX,←hND,←hNO,←hNP] at HVI ⊢
 rw[←hLN] at HVI HLW hlen ⊢
 rw[←hEX] at hext
 rw[←hND] at hnd
 rw[←hNO] at hno
 have HE:=zh (And.intro hEX (And.intro hND hNO))
 have HLN:=zh hLN
 obtain⟨W0,hW0⟩:=zx (w.alloc (.cells #[.int .i64 EX,vl,vm,vd,.slice Ad ND cd,.slice (some ⟨pb,pof,none⟩) NP cp,.slice (some ⟨ob,oof,none⟩) NO co] 35))
 obtain⟨z,hz⟩:=zx w.heap.size
 have hb0:Below w.heap.size w W0:=by rw[hW0];exact(Below.refl _ _).alloc (Nat.le_refl _) _
 have hzk:W0.heap[z]?=some (.cells #[.int .i64 EX,vl,vm,vd,.slice Ad ND cd,.slice (some ⟨pb,pof,none⟩) NP cp,.slice (some ⟨ob,oof,none⟩) NO co] 35 (0,0)):=by rw[hW0,hz];exact heap_alloc_new w _
 have hzl:z<W0.heap.size:=(Array.getElem?_eq_some_iff.1 hzk).1
 have HC:=zh (fun(w':World) (hb:Below W0.heap.size W0 w')=>cells7 ((hb.block z hzl).trans hzk))
 have HRE:=zh (fun(w':World) (hb:Below W0.heap.size W0 w')=>hb0.trans (hb.mono hb0.size))
 have HW0:=zh hW0
 have HZ:=zh hz
 have HB0:=zh hb0
 obtain⟨c0,c1,c2,c3,c4,c5,c6⟩:=HC.out W0 (Below.refl _ _)
 clear hf hok hL hcl hRp hRo hR hVB hEX hND hNO hNP hLN hW0 hz hb0 hzk hzl hN
 go_enter Tryz.func14,Tryz.ntmps14
 go_upto_region 1 with fail
 rw[←HW0.out,←HZ.out]
 go_wp2_with fail
 refine(HVI.out _ HB0.out).mono ?_
 rintro e w1 ⟨rfl,hb1⟩
 have HB1:=zh hb1
 clear c0 c1 c2 c3 c4 c5 c6 hb1
 cases VB with
 | false =>
  have HR:=zh (show R=([],1) by rw[HRR.out];rfl)
  go_wp2_with fail
  go_ret2
  exact⟨tup2 (by rw[HR.out]) (by rw[HR.out]),HRE.out _ HB1.out⟩
 | true =>
  have HR:=zh (show R=(fmtT F L,0) by rw[HRR.out];rfl)
  obtain⟨W7,hW7⟩:=zx (w1.alloc (.cells #[.pointer none,.slice none 0 0] 108))
  obtain⟨gb,hgb⟩:=zx w1.heap.size
  have hb7:Below w1.heap.size w1 W7:=by rw[hW7];exact(Below.refl _ _).alloc (Nat.le_refl _) _
  have hgk:W7.heap[gb]?=some (.cells #[.pointer none,.slice none 0 0] 108 (0,0)):=by rw[hW7,hgb];exact heap_alloc_new _ _
  have HBL:=zh (show Lib.IsBuilder 108 5 gb gb (Lib.byteCells (fmtT F (L.take 0))) W7 from .inl ⟨Nat.le_refl _,_,hgk,World.ownsRow_nil _ _ _ _,by intro e;cases e⟩)
  have HGB:=zh hgb
  have HW7:=zh hW7
  have HB7:=zh hb7
  clear hW7 hgb hb7 hgk
  go_upto_region 4 with fail
  rw[←HW7.out,←HGB.out]
  go_wp2_with fail
  go_loopg [17] LN (fun z v17 wr=>∃i:Nat,v17=.int .i64 (i:Int)∧i≤LN∧z=LN - i∧Hid (Lib.IsBuilder 108 5 gb gb (Lib.byteCells (fmtT F (L.take i))) wr)∧Hid ((fmtT F (L.take i)).length≤i * 200)∧Hid (Below w1.heap.size w1 wr))
  case atStart=>exact⟨0,rfl,Nat.zero_le _,rfl,HBL,zh (by simp[fmtT]),HB7⟩
  case round =>
   clear HBL HB7
   obtain⟨i,rfl,hi,rfl,HBI,HLE,HBR⟩:=hrel
   by_cases hlt:i<LN
   ·have HLT:=zh hlt
    have hil:i<L.length:=by rw[←HLN.out];exact hlt
    have hb0r:=HB1.out.trans (HBR.out.mono HB1.out.size)
    have hbw:=HRE.out wr hb0r
    obtain⟨b,off,cs,hA,hRb,-,hc,hcs⟩:=(HLW.out wr hbw).at_ (k:=i) hil
    subst hA
    obtain⟨Ax,cx,x0,x1,x2,x3,x4,hsl,-⟩:=five_inc hc hcs
    have HOK:=zh (one_parts (HALL.out (by simp) _ (List.getElem_mem hil)))
    have HFN:=zh (fmt_next F hil)
    obtain⟨x,hx⟩:=zx (L[i])
    rw[←hx] at x0 x1 x2 x3 x4 hsl HOK HFN
    obtain⟨xv,xs,xl,xn,xc⟩:=x
    simp only at x0 x1 x2 x3 x4 hsl
    obtain⟨h1,h2,h3,h4⟩:=HOK.out
    simp only at h1 h2 h3 h4
    rw[←HE.out.1,←HE.out.2.2,isStr_iff] at h1
    obtain⟨⟨hv0,hv1⟩,⟨hs0,hs1⟩⟩:=h1
    obtain⟨v,rfl⟩:∃v:Nat,xv=(v:Int):=⟨xv.toNat,by omega⟩
    obtain⟨s,rfl⟩:∃s:Nat,xs=(s:Int):=⟨xs.toNat,by omega⟩
    rw[Int.toNat_natCast] at h2 h4
    have hvF:v<F.vols.length:=by rw[←HE.out.2.2];omega
    obtain⟨hk12,hm0,hm2,-,-⟩:=HKM.out v hvF
    obtain⟨KN,rfl⟩:∃k:Nat,xn=(k:Int):=⟨xn.toNat,by omega⟩
    have hkn:KN≤2:=by omega
    have hfl:=fin_len h4
    have hcn4:xc.length≤4:=by omega
    have HCA:=zh h3
    have HINC:=zh (show incT F ⟨(v:Int),(s:Int),xl,(KN:Int),xc⟩=headL xl (nmOf F v) s KN++(10 :: linesT F 0 xc) from by unfold incT;simp only[Int.toNat_natCast])
    obtain⟨CN,hCN⟩:=zx xc.length
    rw[←hCN] at x4 hsl hcn4
    have HCN:=zh hCN
    have HSL:=zh hsl
    obtain⟨W8,hW8⟩:=zx (wr.alloc (.cells #[.int .i64 (v:Int),.int .i64 (s:Int),.bool xl,.int .i64 (KN:Int),.slice Ax CN cx] 27))
    obtain⟨gx,hgx⟩:=zx wr.heap.size
    have hb8:Below wr.heap.size wr W8:=by rw[hW8];exact(Below.refl _ _).alloc (Nat.le_refl _) _
    have hxk:W8.heap[gx]?=some (.cells #[.int .i64 (v:Int),.int .i64 (s:Int),.bool xl,.int .i64 (KN:Int),.slice Ax CN cx] 27 (0,0)):=by rw[hW8,hgx];exact heap_alloc_new wr _
    have hxl:gx<W8.heap.size:=(Array.getElem?_eq_some_iff.1 hxk).1
    have HB8:=zh (HBR.out.trans (hb8.mono HBR.out.size))
    have HX:=zh (fun(w':World) (hh:HotBy [some gb] W8 w') (hne:gx≠gb)=>(show w'.heap[gx]?=some (.cells #[.int .i64 (v:Int),.int .i64 (s:Int),.bool xl,.int .i64 (KN:Int),.slice Ax CN cx] 27 (0,0)) from(hh.block gx hxl (by simp;exact fun e=>hne e)).trans hxk))
    have HI8:=zh (isb_below HBI.out hb8)
    have hw8:=HB1.out.trans (HB8.out.mono HB1.out.size)
    obtain⟨hnc,hns⟩:=HVN.out v hvF W8 (HRE.out _ hw8)
    have hhd:=head_any xl EX vl vm vd (.slice Ad ND cd) (.slice (some ⟨pb,pof,none⟩) NP cp) (.slice Ax CN cx) ob oof NO co v s KN (nmOf F v) W8 (by omega) (by omega) (by omega) (by omega) (by omega) hnc
    obtain⟨H,hH⟩:∃b:ByteArray,b=hdlB xl (nmOf F v) s KN:=⟨_,rfl⟩
    rw[←hH] at hhd
    have hHL:H=⟨(headL xl (nmOf F v) s KN).toArray⟩:=hH.trans (hdl_head _ _ _ _)
    have hhl:=headL_len xl (nmOf F v) s KN (by omega) (by omega) (by omega)
    have hHs:H.size≤30:=by rw[hHL,size_l];exact hhl
    have nH:¬9223372036854775807<H.size+1:=by omega
    have HHL:=zh hHL
    have HHS:=zh hHs
    have HHZ:=zh hhl
    have HHD:=zh hhd
    have HW8:=zh hW8
    have HGX:=zh hgx
    have hgbl:gb<wr.heap.size:=by
     rcases HBI.out with h | h
     ·obtain⟨_,_,h,_⟩:=h;exact(Array.getElem?_eq_some_iff.1 h).1
     ·obtain⟨_,_,h,_⟩:=h;exact(Array.getElem?_eq_some_iff.1 h).1
    have hne:gx≠gb:=by rw[hgx];omega
    have HNE:=zh hne
    have HXK:=zh hxk
    have HXL:=zh hxl
    have hs8:wr.heap.size≤W8.heap.size:=hb8.size
    have HGS:=zh (show gb≤W8.heap.size by omega)
    obtain⟨f0,f1,f2,f3,f4,f5,f6⟩:=HC.out W8 hw8
    obtain⟨g0,g1,g2,g3,g4⟩:=cells5 hxk
    have HKN:=zh hkn
    have HFL:=zh hfl
    have HW8B:=zh hw8
    have HLEN:(fmtT F (L.take i)).length≤200000:=by have:=HLE.out;omega
    have HLN2:=zh HLEN
    clear HLEN hCN hx hhd hH hHL hhl hHs hW8 hgx hb8 hxk hxl hgbl hne hs8 hw8 hnc hns hsl hb0r hbw hc hcs hkn hfl h2 h4 h3 hv0 hv1 hs0 hs1 hm0 hm2 hk12 hvF hRb
    go_upto_region 7 with fail
    rw[←HW8.out,←HGX.out]
    clear x0 x1 x2 x3 x4
    go_wp2_with fail
    refine HHD.out.mono ?_
    rintro e w2 ⟨rfl,hb2⟩
    have HB2:=zh (HB8.out.trans (hb2.mono (Nat.le_trans HB8.out.size (Nat.le_refl _))))
    have HW2:=zh (bws_kp gb gb _ (H++⟨#[10]⟩) w2 (isb_below HI8.out hb2) (by rw[Lib.byteCells_length,ByteArray.size_append];have:=HHS.out;have:=HLN2.out;show _+(H.size+1)≤_;omega) (by have:=HGS.out;have:=hb2.size;omega))
    have HXT:=zh (show w2.heap[gx]?=some (.cells #[.int .i64 (v:Int),.int .i64 (s:Int),.bool xl,.int .i64 (KN:Int),.slice Ax CN cx] 27 (0,0)) from(hb2.block gx HXL.out).trans HXK.out)
    clear hb2 f0 f1 f2 f3 f4 f5 f6 g0 g1 g2 g3 g4
    go_wp2_with fail
    refine HW2.out.mono ?_
    rintro e w3 ⟨rfl,hbl3,hb3,hk3⟩
    obtain⟨-,-,-,-,g4⟩:=cells5 (hk3 gx _ _ _ HXT.out (by decide) HNE.out)
    have HBL3:=zh (show Lib.IsBuilder 108 5 gb gb (Lib.byteCells (fmtT F (L.take i)++(headL xl (nmOf F v) s KN++(10 :: linesT F 0 (xc.take 0))))) w3 from .inr (by
     have e1:Lib.strCells (H++⟨#[10]⟩)=Lib.byteCells (headL xl (nmOf F v) s KN++[10]):=by rw[HHL.out,←str_cells];congr 1
     have h:=hbl3
     rw[e1,←Lib.byteCells_append] at h
     exact h))
    have HB3:=zh (show Below w1.heap.size w1 w3 from HB2.out.trans (by have h:=hb3;rw[HGB.out] at h;exact h))
    clear hbl3 hb3 hk3 nH
    go_wp2_with fail
    have HSLQ:=zh (fun(w':World) (hb:Below w.heap.size w w')=>(show SlS 2 CauK w' (Bl w.heap.size) (.slice Ax CN cx) xc from SlS.keep cauK HSL.out (fun bb hbb=>(hb.block bb hbb).trans ((HRE.out wr (HB1.out.trans (HBR.out.mono HB1.out.size))).block bb hbb).symm)))
    go_loopg [29] CN (fun z v29 wq=>∃j:Nat,v29=.int .i64 (j:Int)∧j≤CN∧z=CN - j∧Hid (Lib.IsBuilder 108 5 gb gb (Lib.byteCells (fmtT F (L.take i)++(headL xl (nmOf F v) s KN++(10 :: linesT F 0 (xc.take j))))) wq)∧Hid ((linesT F 0 (xc.take j)).length≤j * 21)∧Hid (Below w1.heap.size w1 wq))
    case atStart=>exact⟨0,rfl,Nat.zero_le _,rfl,HBL3,zh (by simp[linesT]),HB3⟩
    case round =>
     clear HBL3 HB3 HB2 HW2 HXT HHD g4
     obtain⟨j,rfl,hj,rfl,HBJ,HLJ,HBQ⟩:=hrel
     by_cases hlj:j<CN
     ·have HLTJ:=zh hlj
      have hjl:j<xc.length:=by rw[←HCN.out];exact hlj
      have hbq:=HRE.out wr (HB1.out.trans (HBQ.out.mono HB1.out.size))
      obtain⟨bq,oq,cq,hAq,hRq,-,hcq,hcsq⟩:=(HSLQ.out wr hbq).at_ (k:=j) hjl
      subst hAq
      obtain⟨e0,e1⟩:=two_cau hcq hcsq
      have HNX:=zh (lines_next F hjl)
      have hcp:=cau_parts (HCA.out _ (List.getElem_mem hjl))
      obtain⟨cc,hcc⟩:=zx (xc[j])
      rw[←hcc] at e0 e1 HNX hcp
      obtain⟨st,dr⟩:=cc
      simp only at e0 e1 hcp
      obtain⟨hst,hdr,-⟩:=hcp
      obtain⟨W9,hW9⟩:=zx (wr.alloc (.cells #[.int .i64 st,.int .i64 dr] 102))
      obtain⟨gy,hgy⟩:=zx wr.heap.size
      have hb9:Below wr.heap.size wr W9:=by rw[hW9];exact(Below.refl _ _).alloc (Nat.le_refl _) _
      have hyk:W9.heap[gy]?=some (.cells #[.int .i64 st,.int .i64 dr] 102 (0,0)):=by rw[hW9,hgy];exact heap_alloc_new wr _
      have hy0:W9.cell? ⟨gy,0,none⟩=some (.int .i64 st):=by rw[cell_of_row _ _ _ _ _ _ hyk];rfl
      have hy1:W9.cell? ⟨gy,1,none⟩=some (.int .i64 dr):=by rw[cell_of_row _ _ _ _ _ _ hyk];rfl
      have HB9:=zh (HBQ.out.trans (hb9.mono HBQ.out.size))
      have hw9:=HB1.out.trans (HB9.out.mono HB1.out.size)
      have hww:=HRE.out W9 hw9
      have HI9:=zh (isb_below HBJ.out hb9)
      have HLI:=zh (line_any j st dr (dnOf F dr.toNat) (.int .i64 EX) vl vm vd (.slice (some ⟨pb,pof,none⟩) NP cp) (.slice (some ⟨ob,oof,none⟩) NO co) Ad ND cd W9 (by omega) hst (by omega) (by have:=HDL.out dr.toNat;omega) (fun h4=>by
       have hd:=hdr h4
       rw[←HE.out.2.1] at hd
       refine⟨hd.1,hd.2,?_⟩
       obtain⟨⟨b',off',h1,h2,h3⟩,-⟩:=HDN.out dr.toNat (by rw[←HE.out.2.1];omega) W9 hww
       exact⟨b',off',h1,Nat.lt_of_lt_of_le h2 hww.size,h3⟩))
      obtain⟨D,hD⟩:∃b:ByteArray,b=⟨(lineL j st (dnOf F dr.toNat)).toArray⟩:=⟨_,rfl⟩
      have hDl:=lineL_len j st (dnOf F dr.toNat) (by omega) (HDL.out _)
      have hDs:D.size≤20:=by rw[hD,size_l];exact hDl
      have nD:¬9223372036854775807<D.size+1:=by omega
      rw[←hD] at HLI
      have HDD:=zh hD
      have HDDL:=zh hDl
      have HDS:=zh hDs
      have HW9:=zh hW9
      have HGY:=zh hgy
      have HGS9:=zh (show gb≤W9.heap.size by have:=HB9.out.size;rw[HGB.out];exact this)
      have HTL:=zh (show(fmtT F (L.take i)++(headL xl (nmOf F v) s KN++(10 :: linesT F 0 (xc.take j)))).length≤300000 by have h1:=HLN2.out;have h2:=HHZ.out;have h3:=HLJ.out;simp only[List.length_append,List.length_cons];omega)
      obtain⟨f0,f1,f2,f3,f4,f5,f6⟩:=HC.out W9 hw9
      clear hD hDl hDs hW9 hgy hb9 hyk hw9 hww hst hdr hbq hcq hcsq hcc hRq
      go_upto_region 11 with fail
      rw[←HW9.out,←HGY.out]
      clear e0 e1
      go_wp2_with fail
      refine HLI.out.mono ?_
      rintro e w5 ⟨rfl,hb5⟩
      have HB5:=zh (HB9.out.trans (hb5.mono HB9.out.size))
      have HW5:=zh (bws_any gb gb _ (D++⟨#[10]⟩) w5 (isb_below HI9.out hb5) (by rw[Lib.byteCells_length,ByteArray.size_append];have:=HDS.out;have:=HTL.out;show _+(D.size+1)≤_;omega) (by have:=HGS9.out;have:=hb5.size;omega))
      clear hb5 f0 f1 f2 f3 f4 f5 f6 hy0 hy1
      go_wp2_with fail
      refine HW5.out.mono ?_
      rintro e w6 ⟨rfl,hbl6,hb6⟩
      have HBL6:=zh (show Lib.IsBuilder 108 5 gb gb (Lib.byteCells (fmtT F (L.take i)++(headL xl (nmOf F v) s KN++(10 :: linesT F 0 (xc.take (j+1)))))) w6 from .inr (by
       have e1:Lib.strCells (D++⟨#[10]⟩)=Lib.byteCells (lineL j st (dnOf F dr.toNat)++[10]):=by rw[HDD.out,←str_cells];congr 1
       have e2:fmtT F (L.take i)++(headL xl (nmOf F v) s KN++(10 :: linesT F 0 (xc.take (j+1))))=(fmtT F (L.take i)++(headL xl (nmOf F v) s KN++(10 :: linesT F 0 (xc.take j))))++(lineL j st (dnOf F dr.toNat)++[10]):=by rw[HNX.out];simp[List.append_assoc]
       have h:=hbl6
       rw[e1,←Lib.byteCells_append,←e2] at h
       exact h))
      have HB6:=zh (show Below w1.heap.size w1 w6 from HB5.out.trans (by have h:=hb6;rw[HGB.out] at h;exact h))
      have HLL:=zh (show(linesT F 0 (xc.take (j+1))).length≤(j+1) * 21 from by rw[HNX.out];have h1:=HLJ.out;have h2:=HDDL.out;simp only[List.length_append,List.length_cons,List.length_nil];omega)
      clear hbl6 hb6 nD
      go_wp2_with fail
      go_roundg (CN - (j+1))
      case measure=>have:=HLTJ.out;omega
      case rel=>exact⟨j+1,by go_num,by have:=HLTJ.out;omega,rfl,HBL6,HLL,HB6⟩
     ·have ej:j=CN:=by omega
      have hib:=HBJ.out
      rw[List.take_of_length_le (l:=xc) (i:=j) (by rw[←HCN.out,ej];exact Nat.le_refl _)] at hib
      have HBN:=zh (show Lib.IsBuilder 108 5 gb gb (Lib.byteCells (fmtT F (L.take (i+1)))) wr from by rw[HFN.out,HINC.out];exact hib)
      have HLN3:=zh (show(fmtT F (L.take (i+1))).length≤(i+1) * 200 from by
       have h1:=HLJ.out
       rw[List.take_of_length_le (l:=xc) (i:=j) (by rw[←HCN.out,ej];exact Nat.le_refl _)] at h1
       have h2:=HLE.out
       have h3:=HHZ.out
       rw[HFN.out,HINC.out]
       simp only[List.length_append,List.length_cons]
       omega)
      clear hib ej
      go_wp2_with fail
      go_roundg (LN - (i+1))
      case measure=>have:=HLT.out;omega
      case rel=>exact⟨i+1,by go_num,by have:=HLT.out;omega,rfl,HBN,HLN3,HBQ⟩
   ·have hib:=HBI.out
    rw[List.take_of_length_le (by rw[←HLN.out];omega)] at hib
    have HST:=zh (bstring_any gb gb (fmtT F L) wr hib (by rw[HGB.out];exact HBR.out.size))
    clear hib
    go_wp2_with fail
    refine HST.out.mono ?_
    rintro e w9 ⟨rfl,hb9⟩
    have HB9:=zh (show Below w1.heap.size w1 w9 from HBR.out.trans (by have h:=hb9;rw[HGB.out] at h;exact h))
    clear hb9
    go_wp2_with fail
    go_ret2
    exact⟨tup2 (by rw[HR.out]) (by rw[HR.out]),HRE.out _ (HB1.out.trans (HB9.out.mono HB1.out.size))⟩
end Go.Proofs.YtcfkllnpkmebpaaGreatDoor

namespace Go.Proofs.YtcfkllnpkmebpaaGreatDoor
open Go.RowKit
set_option linter.unusedVariables false
set_option linter.unusedSimpArgs false
end Go.Proofs.YtcfkllnpkmebpaaGreatDoor

namespace Go.Proofs.YtcfkllnpkmebpaaGreatDoor
open Go.RowKit
set_option linter.unusedVariables false
set_option linter.unusedSimpArgs false
theorem own_keepB{w w':World} {B:Nat} {e:TypeId} {size n:Nat} {v:Value} {xs:List Value} (h:w.ownsRow B e size v n xs) (hk:∀b,v.ownBlock=some b→w'.heap[b]?=w.heap[b]?):w'.ownsRow B e size v n xs:=by
 refine⟨h.1,?_⟩
 rcases h.2 with h | ⟨g,cap,cur,rfl,h1,h2,h3⟩
 ·exact .inl h
 ·exact .inr ⟨g,cap,cur,rfl,h1,(hk g rfl).trans h2,h3⟩
theorem OwnCau.slB{w:World} {base:Nat} {v:Value} {l:List Cau} (h:OwnCau w base v l):SlS 2 CauK w (fun b=>(base≤b∧b<w.heap.size)∧v.ownBlock=some b) v l:=by
 have h1:w.ownsRow base 102 2 v l.length (l.flatMap cauC):=h
 have hc:=fun g=>h1.cells (g:=g)
 have hlt:=h1.lt
 rcases h1.2 with ⟨rfl,h0⟩ | ⟨g,cap,cur,rfl,_,_,h2,h3,_⟩
 ·unfold SlS;rw[h0];exact Row.nil _ _ _
 ·refine⟨_,cap,rfl,h2,Nat.le_trans h2 h3,fun _=>⟨g,0,rfl,⟨hlt g rfl,rfl⟩,fun k f hf=>⟨cauC f,rfl,fun i c hi=>?_,rfl⟩⟩⟩
  have e1:∀j,(⟨g,0,none⟩:Addr).add j=⟨g,0+j,none⟩:=fun j=>by unfold Addr.add;split <;> simp_all
  rw[Nat.add_assoc,←e1]
  exact hc g rfl _ _ (flat_cau l k f hf i c hi)
structure BentS (w:World) (B:Nat) (v:Value) (L:List IncW):Prop where
 row:w.ownsRow B 27 5 v L.length (L.flatMap incC)
 own:∀s∈L,OwnCau w B s.cv s.x.causes
 off:∀s∈L,∀b,s.cv.ownBlock=some b→v.ownBlock≠some b
 apart:L.Pairwise (fun s t=>∀b,s.cv.ownBlock=some b→t.cv.ownBlock≠some b)
theorem BentS.nil(w:World) (B:Nat):BentS w B (.slice none 0 0) []:=⟨World.ownsRow_nil _ _ _ _,fun s h=>(by cases h),fun s h=>(by cases h),List.Pairwise.nil⟩
theorem BentS.below{w w':World} {B:Nat} {v:Value} {L:List IncW} (h:BentS w B v L) (hb:Below w.heap.size w w'):BentS w' B v L :=
 ⟨own_below h.row hb,fun s hs=>(h.own s hs).below hb,h.off,h.apart⟩
theorem BentS.incs{w:World} {B:Nat} {v:Value} {L:List IncW} (h:BentS w B v L):IncsS w B v L :=
 ⟨h.row,fun s hs=>SlS.mono cauK (h.own s hs).slB (fun b hb=>⟨hb.1.1,hb.1.2,h.off s hs b hb.2⟩)⟩
theorem BentS.push{w w':World} {B:Nat} {v v':Value} {L:List IncW} {s:IncW} (h:BentS w B v L) (hs:OwnCau w B s.cv s.x.causes) (hoff:∀b,s.cv.ownBlock=some b→v.ownBlock≠some b)
  (hap:∀t∈L,∀b,t.cv.ownBlock=some b→s.cv.ownBlock≠some b)
  (ho:w'.ownsRow B 27 5 v' (L.length+1) (L.flatMap incC++incC s)) (hg:w.grownBy w' v.ownBlock) (hat:v'.ownBlock=v.ownBlock∨∃g,v'.ownBlock=some g∧w.heap.size≤g):BentS w' B v' (L++[s]):=by
 have hk:∀u:IncW,OwnCau w B u.cv u.x.causes→(∀b,u.cv.ownBlock=some b→v.ownBlock≠some b)→OwnCau w' B u.cv u.x.causes:=fun u hu hv =>
  own_keepB hu (fun b hb=>hg.block b (hu.lt b hb).2 (fun e=>hv b hb e.symm))
 have hv:∀u:IncW,OwnCau w B u.cv u.x.causes→(∀b,u.cv.ownBlock=some b→v.ownBlock≠some b)→(∀b,u.cv.ownBlock=some b→v'.ownBlock≠some b):=fun u hu hv b hb e=>by
  rcases hat with h2 | ⟨g,h2,h3⟩
  ·rw[h2] at e;exact hv b hb e
  ·rw[h2] at e;injection e with e;have:=(hu.lt b hb).2;omega
 refine⟨by rw[List.length_append,List.flatMap_append];simpa using ho,fun u hu=>?_,fun u hu=>?_,?_⟩
 ·rcases List.mem_append.1 hu with h2 | h2
  ·exact hk u (h.own u h2) (h.off u h2)
  ·rw[List.mem_singleton.1 h2];exact hk s hs hoff
 ·rcases List.mem_append.1 hu with h2 | h2
  ·exact hv u (h.own u h2) (h.off u h2)
  ·rw[List.mem_singleton.1 h2];exact hv s hs hoff
 ·refine List.pairwise_append.2 ⟨h.apart,List.pairwise_singleton _ _,fun t ht u hu=>?_⟩
  rw[List.mem_singleton.1 hu]
  exact hap t ht
theorem app_bent{ops:Array Oper} {rest:List Oper} {o:Oper} {a:Act} {Q:Exit→Act→World→Prop} {w:World} (u:Inc) (cv:Value) (s x:Operand) (hgd:o.guard=none) (ho:o.op=.call { callee:=.builtin .append,args:=#[s,x],argTypes:=#[23,23] })
  (base:Nat) (v:Value) (L:List IncW) (hs:a.eval s=v) (hown:BentS w base v L) (hnew:OwnCau w base cv u.causes) (hoff:∀b,cv.ownBlock=some b→v.ownBlock≠some b)
  (hap:∀t∈L,∀b,t.cv.ownBlock=some b→cv.ownBlock≠some b)
  (hx:a.eval x=.slice (some ⟨w.heap.size,0,none⟩) 1 1) (hn:L.length+1≤16777216) (hbase:base≤w.heap.size)
  (h:∀v' w',BentS w' base v' (L++[⟨u,cv⟩])→w.grownBy w' v.ownBlock→wpList Tryz.prog ops Q rest (a.put o.dst v') w') :
  wpList Tryz.prog ops Q (o :: rest) a (w.alloc (.cells #[.int .i64 u.vol,.int .i64 u.stripe,.bool u.lost,.int .i64 u.need,cv] 27)):=by
 obtain⟨i0,hi0,hz0,hz1,hz2⟩:=info_parts info_inc
 have h1c:=one_sls hnew.slB
 refine wpList_append1 hgd s x _ ho base i0 _ 5 56 Tryz.underlying23 hi0 hz0 hz1 hz2 rfl (by omega) (by omega) v L.length (L.flatMap incC) hs hown.row hx rfl (fun y hy=>?_) hn hbase (fun v' w' h1 h2 h3=>h v' w' (hown.push (s:=⟨u,cv⟩) hnew hoff hap h1 h2 ?_) h2)
 ·simp at hy
  rcases hy with rfl | rfl | rfl | rfl | rfl
  ·rfl
  ·rfl
  ·rfl
  ·rfl
  ·exact h1c
 ·rcases h3 with h3 | h3
  ·exact .inl h3
  ·exact .inr ⟨_,h3,by omega⟩
end Go.Proofs.YtcfkllnpkmebpaaGreatDoor

namespace Go.Proofs.YtcfkllnpkmebpaaGreatDoor
open Go.RowKit
set_option linter.unusedVariables false
set_option linter.unusedSimpArgs false
theorem own_set{w:World} {B:Nat} {e:TypeId} {size n g cap:Nat} {xs:List Value} (h:w.ownsRow B e size (.slice (some ⟨g,0,none⟩) n cap) n xs) (p:Nat) (u:Value) :
  (w.setCell ⟨g,p,none⟩ u).ownsRow B e size (.slice (some ⟨g,0,none⟩) n cap) n (xs.set p u):=by
 refine⟨by rw[List.length_set];exact h.1,?_⟩
 rcases h.2 with ⟨hv,-⟩ | ⟨g',cap',cur,hv,h1,h2,h3,h4,h5,h6⟩
 ·cases hv
 ·injection hv with a1 a2 a3
  injection a1 with a1
  injection a1 with a1 a4
  subst a1;subst a3
  refine .inr ⟨g,cap,cur.setIfInBounds p u,rfl,h1,Lib.heap_setCell_same h2 u,h3,h4,by rw[Array.size_setIfInBounds];exact h5,?_⟩
  rw[Array.toList_setIfInBounds,List.take_set,h6]
theorem addr0(g j:Nat):(⟨g,0,none⟩:Addr).add j=⟨g,j,none⟩:=by unfold Addr.add;split <;> simp_all
theorem own_fz{w:World} {B:Nat} {e:TypeId} {size n g cap:Nat} {xs:List Value} (h:w.ownsRow B e size (.slice (some ⟨g,0,none⟩) n cap) n xs) (p:Nat):w.frozen? ⟨g,p,none⟩=false:=by
 rcases h.2 with ⟨hv,-⟩ | ⟨g',cap',cur,hv,h1,h2,-⟩
 ·cases hv
 ·injection hv with a1 a2 a3
  injection a1 with a1
  injection a1 with a1 a4
  subst a1
  exact Lib.frozen_of_heap h2 _
theorem flat_set:∀(M:List IncW) (k:Nat) (s t:IncW) (o:Nat) (u:Value),M[k]?=some s→o<5→incC t=(incC s).set o u→(M.set k t).flatMap incC=(M.flatMap incC).set (k * 5+o) u
 | [],k,s,t,o,u,h,_,_=>by simp at h
 | x :: r,0,s,t,o,u,h,ho,e=>by
  simp at h;subst h
  rw[List.set_cons_zero,List.flatMap_cons,List.flatMap_cons,e,Nat.zero_mul,Nat.zero_add]
  have:o<(incC x).length:=by show o<5;exact ho
  rw[List.set_append_left _ _ this]
 | x :: r,k+1,s,t,o,u,h,ho,e=>by
  rw[List.set_cons_succ,List.flatMap_cons,List.flatMap_cons,flat_set r k s t o u (by simpa using h) ho e]
  have hl:(incC x).length=5:=rfl
  rw[List.set_append_right _ _ (by rw[hl];omega),hl]
  congr 1
  congr 1
  omega
end Go.Proofs.YtcfkllnpkmebpaaGreatDoor

namespace Go.Proofs.YtcfkllnpkmebpaaGreatDoor
open Go.RowKit
set_option linter.unusedVariables false
set_option linter.unusedSimpArgs false
theorem BentS.change{w w1:World} {B:Nat} {v:Value} {M:List IncW} {k:Nat} {s t:IncW} (h:BentS w B v M) (hk:M[k]?=some s)
  (hg:∀b,b<w.heap.size→s.cv.ownBlock≠some b→v.ownBlock≠some b→w1.heap[b]?=w.heap[b]?)
  (hrow:w1.ownsRow B 27 5 v M.length ((M.set k t).flatMap incC)) (hnew:OwnCau w1 B t.cv t.x.causes)
  (hat:t.cv.ownBlock=s.cv.ownBlock∨∃q,t.cv.ownBlock=some q∧w.heap.size≤q):BentS w1 B v (M.set k t):=by
 have hkl:k<M.length:=(List.getElem?_eq_some_iff.1 hk).1
 have hks:M[k]=s:=(List.getElem?_eq_some_iff.1 hk).2
 have hsM:s∈M:=List.mem_of_getElem? hk
 have hcase:∀y∈M.set k t,y=t∨∃j,∃hj:j<M.length,j≠k∧y=M[j]:=fun y hy=>by
  obtain⟨j,hj,e⟩:=List.getElem_of_mem hy
  rw[List.getElem_set] at e
  split at e
  ·exact .inl e.symm
  ·rename_i hne
   exact .inr ⟨j,by simpa using hj,fun e2=>hne e2.symm,e.symm⟩
 have hpw:=List.pairwise_iff_getElem.1 h.apart
 have hap:∀(j:Nat) (hj:j<M.length),j≠k→∀b,M[j].cv.ownBlock=some b→s.cv.ownBlock≠some b:=fun j hj hne b hb e=>by
  rcases Nat.lt_or_gt_of_ne hne with h1 | h1
  ·exact hpw j k hj hkl h1 b hb (by rw[hks];exact e)
  ·exact hpw k j hkl hj h1 b (by rw[hks];exact e) hb
 have htn:∀(j:Nat) (hj:j<M.length),j≠k→∀b,M[j].cv.ownBlock=some b→t.cv.ownBlock≠some b:=fun j hj hne b hb e=>by
  rcases hat with h1 | ⟨q,h1,h2⟩
  ·rw[h1] at e;exact hap j hj hne b hb e
  ·rw[h1] at e;injection e with e
   have:=((h.own _ (List.getElem_mem hj)).lt b hb).2
   omega
 refine⟨by rw[List.length_set];exact hrow,fun y hy=>?_,fun y hy=>?_,?_⟩
 ·rcases hcase y hy with rfl | ⟨j,hj,hne,rfl⟩
  ·exact hnew
  ·exact own_keepB (h.own _ (List.getElem_mem hj)) (fun b hb=>hg b ((h.own _ (List.getElem_mem hj)).lt b hb).2 (hap j hj hne b hb) (h.off _ (List.getElem_mem hj) b hb))
 ·rcases hcase y hy with rfl | ⟨j,hj,hne,rfl⟩
  ·intro b hb
   rcases hat with h1 | ⟨q,h1,h2⟩
   ·rw[h1] at hb;exact h.off s hsM b hb
   ·rw[h1] at hb;injection hb with hb
    intro e
    have:=(h.row.lt b e).2
    omega
  ·exact h.off _ (List.getElem_mem hj)
 ·rw[List.pairwise_iff_getElem]
  intro i j hi hj hij
  have hi':i<M.length:=by simpa using hi
  have hj':j<M.length:=by simpa using hj
  rw[List.getElem_set,List.getElem_set]
  split
  ·rename_i e1
   split
   ·omega
   ·intro b hb e
    exact htn j hj' (by omega) b e hb
  ·split
   ·intro b hb e
    exact htn i hi' (by omega) b hb e
   ·exact hpw i j hi' hj' hij
theorem BentS.setc{w w1:World} {B g n cap:Nat} {M:List IncW} {k:Nat} {s:IncW} {cs:List Cau} {cv:Value} (h:BentS w B (.slice (some ⟨g,0,none⟩) n cap) M) (hn:n=M.length) (hk:M[k]?=some s) (hg:w.grownBy w1 s.cv.ownBlock) (hnew:OwnCau w1 B cv cs)
  (hat:cv.ownBlock=s.cv.ownBlock∨∃q,cv.ownBlock=some q∧w.heap.size≤q) :
  BentS (w1.setCell ⟨g,k * 5+4,none⟩ cv) B (.slice (some ⟨g,0,none⟩) n cap) (M.set k ⟨⟨s.x.vol,s.x.stripe,s.x.lost,s.x.need,cs⟩,cv⟩):=by
 have hsM:s∈M:=List.mem_of_getElem? hk
 have hgl:=(h.row.lt g rfl).2
 have hsg:s.cv.ownBlock≠some g:=fun e=>h.off s hsM g e rfl
 have hcg:cv.ownBlock≠some g:=fun e=>by
  rcases hat with h1 | ⟨q,h1,h2⟩
  ·rw[h1] at e;exact hsg e
  ·rw[h1] at e;injection e with e;omega
 have hg1:=Lib.grownBy_setCell w1 g (k * 5+4) cv
 subst hn
 refine h.change hk (fun b hb h1 h2=>?_) ?_ (own_keepB hnew (fun b hb=>hg1.block b (hnew.lt b hb).2 (fun e=>hcg (by rw[hb];exact e)))) hat
 ·rw[hg1.block b (Nat.lt_of_lt_of_le hb hg.size) (fun e=>h2 (by rw[e];rfl))]
  exact hg.block b hb (fun e=>h1 e.symm)
 ·rw[flat_set M k s ⟨⟨s.x.vol,s.x.stripe,s.x.lost,s.x.need,cs⟩,cv⟩ 4 cv hk (by omega) rfl]
  exact own_set (own_keepB h.row (fun b hb=>by
   have e:g=b:=by injection hb
   subst e
   exact hg.block g hgl (fun e=>hsg e.symm))) (k * 5+4) cv
end Go.Proofs.YtcfkllnpkmebpaaGreatDoor
