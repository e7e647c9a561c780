/- Builder.WriteString; words, the program's line; the reference's digits, walked. -/
import Derived.Lib.AppendStr
import Derived.BigQuiet
import Derived.Deep.QuietTactic
import Derived.Test.YtcfkllnpkmebpaaGreatDoorMp10
import Derived.Test.YtcfkllnpkmebpaaGreatDoorMp19
import Derived.Test.YtcfkllnpkmebpaaGreatDoorMp20
import Derived.Test.YtcfkllnpkmebpaaGreatDoorMp01
import Derived.Test.YtcfkllnpkmebpaaGreatDoorMp21
import Derived.Lib.BufferWrite
import Derived.Test.YtcfkllnpkmebpaaGreatDoorMp22
import Derived.Test.YtcfkllnpkmebpaaGreatDoorMp04
import Derived.Deep.LoopGhost
import Derived.Test.YtcfkllnpkmebpaaGreatDoorRows
import Derived.Test.YtcfkllnpkmebpaaGreatDoorMp02
import Derived.Laws.AppendOwnNone
import Derived.Deep.Upon
set_option linter.unusedSectionVars false
set_option maxRecDepth 100000
set_option maxHeartbeats 12800000
namespace Go.Proofs.YtcfkllnpkmebpaaGreatDoor
open Go.RowKit Go.Shelf
set_option linter.unusedVariables false
set_option linter.unusedSimpArgs false
theorem baEq{x:ByteArray} {l:List UInt8} (h:x.data.toList=l):x=⟨l.toArray⟩:=by
 cases x
 congr 1
 rw[←h]
def wordL(st:Int):List UInt8:=if st=1 then [103,111,111,100] else if st=2 then [97,119,97,121] else if st=3 then [111,108,100] else [103,111,110,101]
def lineL(i:Nat) (st:Int) (nm:ByteArray):List UInt8:=32 :: 32 :: (Lib.decDigits i++(32 :: (wordL st++(if st=4 then [] else 32 :: nm.data.toList))))
def headL(lost:Bool) (nm:ByteArray) (s need:Nat):List UInt8:=(if lost then [108,111,115,116,32] else [97,119,97,121,32])++(nm.data.toList++(32 :: (Lib.decDigits s++([32,110,101,101,100,115,32]++Lib.decDigits need))))
theorem hdl_head(lost:Bool) (nm:ByteArray) (s need:Nat):hdlB lost nm s need=⟨(headL lost nm s need).toArray⟩:=by
 refine baEq ?_;unfold hdlB headL
 cases lost <;> simp[ByteArray.data_append]
theorem words_any(st:Int) (w:World) (h:st=1∨st=2∨st=3∨st=4):Calls Tryz.prog 96 #[.int .i64 st] w fun e w'=>e=.returned (.string ⟨(wordL st).toArray⟩)∧w=w':=by
 have x1:∀w,(Instr.index 231 (.agg #[.string ⟨#[]⟩,.string ⟨#[103,111,111,100]⟩,.string ⟨#[97,119,97,121]⟩,.string ⟨#[111,108,100]⟩,.string ⟨#[103,111,110,101]⟩]) (.int .i64 1)).run Tryz.prog w=.ok (.string ⟨#[103,111,111,100]⟩) w:=fun _=>by kernel_rfl
 have x2:∀w,(Instr.index 231 (.agg #[.string ⟨#[]⟩,.string ⟨#[103,111,111,100]⟩,.string ⟨#[97,119,97,121]⟩,.string ⟨#[111,108,100]⟩,.string ⟨#[103,111,110,101]⟩]) (.int .i64 2)).run Tryz.prog w=.ok (.string ⟨#[97,119,97,121]⟩) w:=fun _=>by kernel_rfl
 have x3:∀w,(Instr.index 231 (.agg #[.string ⟨#[]⟩,.string ⟨#[103,111,111,100]⟩,.string ⟨#[97,119,97,121]⟩,.string ⟨#[111,108,100]⟩,.string ⟨#[103,111,110,101]⟩]) (.int .i64 3)).run Tryz.prog w=.ok (.string ⟨#[111,108,100]⟩) w:=fun _=>by kernel_rfl
 have x4:∀w,(Instr.index 231 (.agg #[.string ⟨#[]⟩,.string ⟨#[103,111,111,100]⟩,.string ⟨#[97,119,97,121]⟩,.string ⟨#[111,108,100]⟩,.string ⟨#[103,111,110,101]⟩]) (.int .i64 4)).run Tryz.prog w=.ok (.string ⟨#[103,111,110,101]⟩) w:=fun _=>by kernel_rfl
 rcases h with rfl | rfl | rfl | rfl
 all_goals
  go_enter Tryz.func96,Tryz.ntmps96;go_wp2_with fail;go_ret;exact⟨rfl,rfl⟩
end Go.Proofs.YtcfkllnpkmebpaaGreatDoor

namespace Go.Proofs.YtcfkllnpkmebpaaGreatDoor
open Go.RowKit Go.Shelf
set_option linter.unusedVariables false
set_option linter.unusedSimpArgs false
theorem word_short(st:Int):(⟨(wordL st).toArray⟩:ByteArray).size≤4:=by
 unfold wordL;split
 ·decide
 ·split
  ·decide
  ·split
   ·decide
   ·decide
theorem line_any(i:Nat) (st dr:Int) (nm:ByteArray) (x0 x1 x2 x3 x5 x6:Value) (Ad:Option Addr) (ND cd:Nat) (w:World) (hi:i<100) (hst:st=1∨st=2∨st=3∨st=4) (hnd:ND≤1000) (hnm:nm.size≤1000)
  (hn:st≠4→0≤dr∧dr<(ND:Int)∧∃b off,Ad=some ⟨b,off,none⟩∧b<w.heap.size∧w.cell? ⟨b,off+dr.toNat * 3,none⟩=some (.string nm)) :
  Calls Tryz.prog 44 #[.agg #[x0,x1,x2,x3,.slice Ad ND cd,x5,x6],.int .i64 (i:Int),.agg #[.int .i64 st,.int .i64 dr]] w fun e w'=>e=.returned (.string ⟨(lineL i st nm).toArray⟩)∧Below w.heap.size w w':=by
 obtain⟨D1,hD1⟩:∃b:ByteArray,b=⟨(Lib.decDigits i).toArray⟩:=⟨_,rfl⟩;obtain⟨W,hW⟩:∃b:ByteArray,b=⟨(wordL st).toArray⟩:=⟨_,rfl⟩
 have l1:D1.size≤2:=by rw[hD1];exact dec_short i hi
 have l2:W.size≤4:=by rw[hW];exact word_short st
 have hit:=fun w=>itoa_any i hi w
 have hwd:=fun w=>words_any st w hst
 rw[←hD1] at hit;rw[←hW] at hwd;have HI:=zh hit;have HWD:=zh hwd;have HDW:=zh (And.intro hD1 hW)
 have f1:¬9223372036854775807<2+D1.size:=by omega
 have f2:¬9223372036854775807<2+D1.size+1:=by omega
 have f3:¬9223372036854775807<2+D1.size+1+W.size:=by omega
 have f4:¬9223372036854775807<1+nm.size:=by omega
 have f5:¬9223372036854775807<2+D1.size+1+W.size+(1+nm.size):=by omega
 obtain⟨W0,hW0⟩:=zx ((w.alloc (.cells #[x0,x1,x2,x3,.slice Ad ND cd,x5,x6] 35)).alloc (.cells #[.int .i64 st,.int .i64 dr] 102));obtain⟨z,hz⟩:=zx w.heap.size;obtain⟨y,hy⟩:=zx (w.heap.size+1)
 have hb0:Below w.heap.size w W0:=by rw[hW0];exact((Below.refl _ _).alloc (Nat.le_refl _) _).alloc (by simp) _
 have hyk:W0.heap[y]?=some (.cells #[.int .i64 st,.int .i64 dr] 102 (0,0)):=by
  rw[hW0];exact heap_alloc_at _ _ _ (by rw[hy];simp)
 have hzk:W0.heap[z]?=some (.cells #[x0,x1,x2,x3,.slice Ad ND cd,x5,x6] 35 (0,0)):=by
  rw[hW0,hz];exact(Below.heap_alloc _ _ _ (by simp)).trans (heap_alloc_new w _)
 have hyl:y<W0.heap.size:=(Array.getElem?_eq_some_iff.1 hyk).1;have hzl:z<W0.heap.size:=(Array.getElem?_eq_some_iff.1 hzk).1
 have HY0:=zh (fun(w':World) (hb:Below W0.heap.size W0 w')=>(show w'.cell? ⟨y,0,none⟩=some (.int .i64 st)∧w'.cell? ⟨y,1,none⟩=some (.int .i64 dr) from by
  have h1:=(hb.block y hyl).trans hyk
  exact⟨by rw[cell_of_row _ _ _ _ _ _ h1];rfl,by rw[cell_of_row _ _ _ _ _ _ h1];rfl⟩))
 have HZ4:=zh (fun(w':World) (hb:Below W0.heap.size W0 w')=>(show w'.cell? ⟨z,4,none⟩=some (.slice Ad ND cd) from by
  have h1:=(hb.block z hzl).trans hzk
  rw[cell_of_row _ _ _ _ _ _ h1];rfl))
 have HS1:=zh (show W0.drew.cell? ⟨y,0,none⟩=some (.int .i64 st) from(HY0.out W0.drew (Below.refl _ _).drew).1);have HNM:=zh hn;have HW0:=zh hW0;have HZ:=zh (And.intro hz hy);have HB0:=zh hb0;clear hn hD1 hW hit hwd hW0 hz hy hb0 hyk hzk hyl hzl hst;go_enter Tryz.func44,Tryz.ntmps44;go_upto_region 1 with fail;rw[←HW0.out,←HZ.out.2,←HZ.out.1];refine region_tail (S:=(fun w'=>w'.cell? ⟨y,0,none⟩=some (.int .i64 st))) [] (by kernel_rfl) HS1.out (fun hHeld=>?_);refine tk 0 8 ?_;refine tk 4 12 ?_;refine tk 5 13 ?_;refine readyT (rs:=[1]) (by kernel_rfl) (by simp) ?_;refine AllReadyT.cons rfl (fun K hK=>?_) ?_
 ·go_simp;refine(HI.out _).mono ?_;rintro e w' ⟨rfl,rfl⟩;refine hK.out _ _ ?_ (fun hHeld=>?_)
  ·assumption
  clear hK K;(try simp only[Act.put,z1,z2,z3]);refine tk 2 10 ?_;refine tk 3 11 ?_;refine readyT (rs:=[6]) (by kernel_rfl) (by simp) ?_;refine AllReadyT.cons rfl (fun K hK=>?_) ?_
  ·go_simp;refine(HWD.out _).mono ?_;rintro e w' ⟨rfl,rfl⟩;refine hK.out _ _ ?_ (fun hHeld=>?_)
   ·assumption
   clear hK K;(try simp only[Act.put,z1,z2,z3]);refine tk 7 15 ?_;refine tk 8 7 ?_;refine doneT (by kernel_rfl) ?_ _;clear hHeld;obtain⟨W1,hW1⟩:=zx W0.drew
   have hd1:Below W0.heap.size W0 W1:=by rw[hW1];exact(Below.refl _ _).drew
   rw[←hW1];clear hW1;have HD1:=zh hd1;obtain⟨y0,y1⟩:=HY0.out W1 hd1;have z4:=HZ4.out W1 hd1;clear hd1;by_cases h4:st=4
   ·have b1:(st != 4)=false:=by simpa using h4
    have HE:=zh (show((((⟨#[32,32]⟩:ByteArray)++D1)++(⟨#[32]⟩:ByteArray))++W)=⟨(lineL i st nm).toArray⟩ from by
     rw[HDW.out.1,HDW.out.2];refine baEq ?_;unfold lineL;rw[if_pos h4];simp[ByteArray.data_append])
    clear h4;go_wp2_with fail;go_ret;exact⟨congrArg (fun b=>Ending.returned (.string b)) HE.out,HB0.out.trans (HD1.out.mono HB0.out.size)⟩
   ·have b1:(st != 4)=true:=by simpa using h4
    obtain⟨hd0,hdl,hcell⟩:=HNM.out h4;obtain⟨d,rfl⟩:∃d:Nat,dr=(d:Int):=⟨dr.toNat,by omega⟩
    have i1:(d:Int)<(ND:Int):=by omega
    obtain⟨b,off,hA,hbl,hc⟩:=hcell;subst hA;rw[Int.toNat_natCast] at hc;have n0:W1.cell? ⟨b,off+d * 3,none⟩=some (.string nm):=((HB0.out.trans (HD1.out.mono HB0.out.size)).cell (p:=⟨b,off+d * 3,none⟩) hbl).trans hc
    have HE:=zh (show(((((⟨#[32,32]⟩:ByteArray)++D1)++(⟨#[32]⟩:ByteArray))++W)++((⟨#[32]⟩:ByteArray)++nm))=⟨(lineL i st nm).toArray⟩ from by
     rw[HDW.out.1,HDW.out.2];refine baEq ?_;unfold lineL;rw[if_neg h4];simp[ByteArray.data_append])
    clear h4 hd0 hdl hbl hc;go_wp2_with fail;go_ret;exact⟨congrArg (fun b=>Ending.returned (.string b)) HE.out,HB0.out.trans (HD1.out.mono HB0.out.size)⟩
  exact AllReadyT.nil
 exact AllReadyT.nil
end Go.Proofs.YtcfkllnpkmebpaaGreatDoor

namespace Go.Proofs.YtcfkllnpkmebpaaGreatDoor
open Go.RowKit Go.Shelf
set_option linter.unusedVariables false
set_option linter.unusedSimpArgs false
def dnOf(F:FltM) (d:Nat):ByteArray:=match F.dves[d]? with | some x=>x.name | none=>⟨#[]⟩
theorem drv_name{N:Nat} {F:FltM} {w:World} {R:Nat→Prop} {vl vm vd vp vo:Value} {Ad:Option Addr} {cd:Nat} (hf:FleetS w R vl vm vd (.slice Ad F.dves.length cd) vp vo F) (hok:FleetOk N F) {d:Nat} (hd:d<F.dves.length) :
  (∃b off,Ad=some ⟨b,off,none⟩∧R b∧w.cell? ⟨b,off+d * 3,none⟩=some (.string (dnOf F d)))∧(dnOf F d).size=3:=by
 have e:dnOf F d=F.dves[d].name:=by unfold dnOf;rw[List.getElem?_eq_getElem hd]
 obtain⟨b,off,cs,e2,hR,-,hc,hcs⟩:=hf.2.2.2.1.at_ (k:=d) hd;unfold DveK at hcs;subst hcs;have h0:=hc 0 _ rfl;rw[e];refine⟨⟨b,off,e2,hR,h0⟩,?_⟩;obtain⟨h1,-⟩:=hok.dves d F.dves[d] (List.getElem?_eq_getElem hd);rw[h1];rfl
def linesT(F:FltM):Nat→List Cau→List UInt8
 | _,[]=>[]
 | i,c :: l=>lineL i c.state (dnOf F c.drive.toNat)++(10 :: linesT F (i+1) l)
def incT(F:FltM) (x:Inc):List UInt8:=headL x.lost (nmOf F x.vol.toNat) x.stripe.toNat x.need.toNat++(10 :: linesT F 0 x.causes)
def fmtT(F:FltM) (l:List Inc):List UInt8:=l.flatMap (incT F)
theorem linesT_snoc(F:FltM) (l:List Cau) (c:Cau):∀i,linesT F i (l++[c])=linesT F i l++(lineL (i+l.length) c.state (dnOf F c.drive.toNat)++[10]):=by
 induction l with
 | nil=>intro i;simp[linesT]
 | cons x l ih =>
  intro i;rw[List.cons_append,linesT,linesT,ih (i+1),List.length_cons]
  have:i+1+l.length=i+(l.length+1):=by omega
  rw[this];simp
theorem lines_next(F:FltM) {cs:List Cau} {j:Nat} (h:j<cs.length):linesT F 0 (cs.take (j+1))=linesT F 0 (cs.take j)++(lineL j cs[j].state (dnOf F cs[j].drive.toNat)++[10]):=by
 rw[List.take_succ_eq_append_getElem h,linesT_snoc,Nat.zero_add,List.length_take,Nat.min_eq_left (by omega)]
theorem fmt_next(F:FltM) {l:List Inc} {i:Nat} (h:i<l.length):fmtT F (l.take (i+1))=fmtT F (l.take i)++incT F l[i]:=by
 unfold fmtT;rw[List.take_succ_eq_append_getElem h,List.flatMap_append];simp
theorem lineL_len(i:Nat) (st:Int) (nm:ByteArray) (hi:i<100) (hn:nm.size≤3):(lineL i st nm).length≤20:=by
 have h1:(Lib.decDigits i).length≤2:=by have:=List.all_eq_true.1 dec_all i (by simpa using hi);rwa [decide_eq_true_eq] at this
 have h2:(wordL st).length≤4:=by unfold wordL;split <;> (try split) <;> (try split) <;> simp
 have h3:nm.data.toList.length≤3:=by have:nm.data.size≤3:=hn;simpa using this
 unfold lineL;split <;> simp <;> omega
theorem headL_len(b:Bool) (nm:ByteArray) (s K:Nat) (hs:s<100) (hK:K<100) (hn:nm.size≤3):(headL b nm s K).length≤30:=by
 have h1:(Lib.decDigits s).length≤2:=by have:=List.all_eq_true.1 dec_all s (by simpa using hs);rwa [decide_eq_true_eq] at this
 have h2:(Lib.decDigits K).length≤2:=by have:=List.all_eq_true.1 dec_all K (by simpa using hK);rwa [decide_eq_true_eq] at this
 have h3:nm.data.toList.length≤3:=by have:nm.data.size≤3:=hn;simpa using this
 unfold headL
 cases b <;> simp <;> omega
theorem all_ok{F:FltM} {l:List Inc} (h:validB F l=true):∀x∈l,oneB F x=true:=fun x hx=>by
 unfold validB at h;rw[List.all_eq_true] at h;obtain⟨i,hi,rfl⟩:=List.getElem_of_mem hx;have h1:=h i (List.mem_range.2 hi);unfold okAt at h1;rw[Bool.and_eq_true,getBang hi] at h1;exact h1.1
theorem one_parts{F:FltM} {x:Inc} (h:oneB F x=true):isStr F.vols.length F.ext x.vol x.stripe=true∧x.need=kOf F x.vol.toNat∧(∀c∈x.causes,cauOk F.dves.length c=true)∧finB (kOf F x.vol.toNat) (mOf F x.vol.toNat) x.need x.lost x.causes=true:=by
 unfold oneB at h;rw[Bool.and_eq_true,Bool.and_eq_true,Bool.and_eq_true,decide_eq_true_eq,List.all_eq_true] at h;exact⟨h.1,h.2.1,h.2.2.1,h.2.2.2⟩
theorem fin_len{K M need:Int} {lost:Bool} {cs:List Cau} (h:finB K M need lost cs=true):(cs.length:Int)=K+M:=by
 unfold finB at h;rw[Bool.and_eq_true,decide_eq_true_eq] at h;exact h.1
theorem cau_parts{ND:Nat} {c:Cau} (h:cauOk ND c=true):(c.state=1∨c.state=2∨c.state=3∨c.state=4)∧(c.state≠4→0≤c.drive∧c.drive<(ND:Int))∧(c.state=4→c.drive = -1):=by
 unfold cauOk at h;split at h
 ·rename_i h1
  rw[Bool.and_eq_true,decide_eq_true_eq,decide_eq_true_eq] at h;exact⟨by omega,fun _=>h,fun e=>by omega⟩
 ·rw[Bool.and_eq_true,decide_eq_true_eq,decide_eq_true_eq] at h;exact⟨by omega,fun e=>absurd h.1 e,fun _=>h.2⟩
end Go.Proofs.YtcfkllnpkmebpaaGreatDoor

namespace Go.Proofs.YtcfkllnpkmebpaaGreatDoor
open Go.RowKit Go.Shelf
set_option linter.unusedVariables false
set_option linter.unusedSimpArgs false
end Go.Proofs.YtcfkllnpkmebpaaGreatDoor

namespace Go.Proofs.YtcfkllnpkmebpaaGreatDoor
open Go.RowKit Go.Shelf
set_option linter.unusedVariables false
set_option linter.unusedSimpArgs false
def fmtR(F:FltM) (l:List Inc):List UInt8×Int:=if validB F l=true then(fmtT F l,0) else([],1)
theorem tup2{a b:List UInt8} {c d:Int} (h:a=b) (k:c=d):Ending.returned (.tuple #[.string ⟨a.toArray⟩,.int .i64 c])=Ending.returned (.tuple #[.string ⟨b.toArray⟩,.int .i64 d]):=by rw[h,k]
theorem size_l(l:List UInt8):(⟨l.toArray⟩:ByteArray).size=l.length:=by show l.toArray.size=l.length;simp
theorem dn_len{N:Nat} {F:FltM} (hok:FleetOk N F) (d:Nat):(dnOf F d).size≤3:=by
 unfold dnOf;split
 ·rename_i x h
  obtain⟨h1,-⟩:=hok.dves d x h;rw[h1];exact Nat.le_refl 3
 ·exact Nat.zero_le _
theorem cells5{W:World} {g:Nat} {a b c d e:Value} {t:TypeId} (k:W.heap[g]?=some (.cells #[a,b,c,d,e] t (0,0))):W.cell? ⟨g,0,none⟩=some a∧W.cell? ⟨g,1,none⟩=some b∧W.cell? ⟨g,2,none⟩=some c∧W.cell? ⟨g,3,none⟩=some d∧W.cell? ⟨g,4,none⟩=some e :=
 ⟨by rw[cell_of_row _ _ _ _ _ _ k];rfl,by rw[cell_of_row _ _ _ _ _ _ k];rfl,by rw[cell_of_row _ _ _ _ _ _ k];rfl,by rw[cell_of_row _ _ _ _ _ _ k];rfl,by rw[cell_of_row _ _ _ _ _ _ k];rfl⟩
end Go.Proofs.YtcfkllnpkmebpaaGreatDoor

namespace Go.Proofs.YtcfkllnpkmebpaaGreatDoor
open Go.RowKit Go.Shelf
set_option linter.unusedVariables false
set_option linter.unusedSimpArgs false
theorem dig_all:((List.range 100).all fun n=>decide (Lib.decDigits n=if n<10 then [UInt8.ofNat (48+n)] else [UInt8.ofNat (48+n / 10),UInt8.ofNat (48+n % 10)]))=true:=by decide +kernel
theorem dig_eq(n:Nat) (h:n<100):Lib.decDigits n=if n<10 then [UInt8.ofNat (48+n)] else [UInt8.ofNat (48+n / 10),UInt8.ofNat (48+n % 10)]:=by
 have:=List.all_eq_true.1 dig_all n (by simpa using h)
 rwa [decide_eq_true_eq] at this
theorem conv_lit(w:World) (l:List UInt8) (vs:Array Value) (hv:vs=(l.map fun b=>Value.int .u8 (b.toNat:Int)).toArray) :
  (convert 53 9 (.slice (some ⟨w.heap.size,0,none⟩) l.length l.length)).run Tryz.prog (w.alloc (.cells vs 5))=.ok (.string ⟨l.toArray⟩) (w.alloc (.cells vs 5)):=by
 subst hv;refine run_convert_bytes_back _ _ _ 5 _ _ l (by kernel_rfl) (by kernel_rfl) (by kernel_rfl) (fun j hj=>?_)
 have e:(⟨w.heap.size,0,none⟩:Addr).add j=⟨w.heap.size,j,none⟩:=by simp[Addr.add];exact fun h=>h.symm
 rw[e,cell_of_row _ _ _ _ _ _ (heap_alloc_new w _)];simp[hj]
theorem ofNat_int(k:Nat) (h:k<256):((UInt8.ofNat k).toNat:Int)=(k:Int):=by
 rw[UInt8.toNat_ofNat'];omega
theorem digits_any(n:Nat) (w:World) (h:n<100) :
  Calls Tryz.prog 97 #[.int .i64 (n:Int)] w fun e w'=>e=.returned (.string ⟨(Lib.decDigits n).toArray⟩)∧Below w.heap.size w w':=by
 have HD:=zh (dig_eq n h);by_cases hn:n<10
 ·have hn':(n:Int)<10:=by omega
  have hcv:=conv_lit w [UInt8.ofNat (48+n)] #[.int .u8 (48+(n:Int))] (by simp only[List.map_cons,List.map_nil];rw[ofNat_int _ (by omega)];rfl);simp only[List.length_cons,List.length_nil,Nat.zero_add] at hcv;obtain⟨b,hb⟩:=zx (UInt8.ofNat (48+n));rw[←hb] at hcv;have HB:=zh hb;clear hb;go_enter Tryz.func97,Tryz.ntmps97;go_wp2_with fail;go_ret;exact⟨by rw[HD.out,if_pos hn,←HB.out];rfl,(Below.refl _ _).alloc (Nat.le_refl _) _⟩
 ·have hn':¬(n:Int)<10:=by omega
  have hcv:=conv_lit w [UInt8.ofNat (48+n / 10),UInt8.ofNat (48+n % 10)] #[.int .u8 (48+(n:Int) / 10),.int .u8 (48+(n:Int) % 10)] (by simp only[List.map_cons,List.map_nil];rw[ofNat_int _ (by omega),ofNat_int _ (by omega)];rfl);simp only[List.length_cons,List.length_nil,Nat.zero_add] at hcv;obtain⟨b,hb⟩:=zx (UInt8.ofNat (48+n / 10));obtain⟨c,hc⟩:=zx (UInt8.ofNat (48+n % 10));rw[←hb,←hc] at hcv;have HB:=zh hb;have HC:=zh hc;clear hb hc;go_enter Tryz.func97,Tryz.ntmps97;go_wp2_with fail;go_ret;exact⟨by rw[HD.out,if_neg hn,←HB.out,←HC.out];rfl,(Below.refl _ _).alloc (Nat.le_refl _) _⟩
end Go.Proofs.YtcfkllnpkmebpaaGreatDoor

namespace Go.Proofs.YtcfkllnpkmebpaaGreatDoor
open Go.RowKit Go.Shelf
set_option linter.unusedVariables false
set_option linter.unusedSimpArgs false
theorem rline_any(i:Nat) (st dr:Int) (nm:ByteArray) (x0 x1 x2 x3 x5 x6:Value) (Ad:Option Addr) (ND cd:Nat) (w:World) (hi:i<100) (hst:st=1∨st=2∨st=3∨st=4) (hnd:ND≤1000) (hnm:nm.size≤1000)
  (hn:st≠4→0≤dr∧dr<(ND:Int)∧∃b off,Ad=some ⟨b,off,none⟩∧b<w.heap.size∧w.cell? ⟨b,off+dr.toNat * 3,none⟩=some (.string nm)) :
  Calls Tryz.prog 47 #[.agg #[x0,x1,x2,x3,.slice Ad ND cd,x5,x6],.int .i64 (i:Int),.agg #[.int .i64 st,.int .i64 dr]] w fun e w'=>e=.returned (.string ⟨(lineL i st nm++[10]).toArray⟩)∧Below w.heap.size w w':=by
 obtain⟨D1,hD1⟩:∃b:ByteArray,b=⟨(Lib.decDigits i).toArray⟩:=⟨_,rfl⟩
 have l1:D1.size≤2:=by rw[hD1];exact dec_short i hi
 have hit:=fun w=>digits_any i w hi
 rw[←hD1] at hit;have HI:=zh hit;have HDW:=zh hD1;obtain⟨Z,hZ⟩:=zx nm.size;obtain⟨Y,hY⟩:=zx D1.size
 have f1:¬9223372036854775807<2+D1.size:=by omega
 have f2:¬9223372036854775807<2+D1.size+1:=by omega
 have f3:¬9223372036854775807<2+D1.size+1+5:=by omega
 have f4:¬9223372036854775807<2+D1.size+1+5+nm.size:=by omega
 have f5:¬9223372036854775807<2+D1.size+1+5+nm.size+1:=by omega
 have f6:¬9223372036854775807<2+D1.size+1+4:=by omega
 have f7:¬9223372036854775807<2+D1.size+1+4+nm.size:=by omega
 have f8:¬9223372036854775807<2+D1.size+1+4+nm.size+1:=by omega
 clear hZ hY;obtain⟨W0,hW0⟩:=zx ((w.alloc (.cells #[x0,x1,x2,x3,.slice Ad ND cd,x5,x6] 35)).alloc (.cells #[.int .i64 st,.int .i64 dr] 102));obtain⟨z,hz⟩:=zx w.heap.size;obtain⟨y,hy⟩:=zx (w.heap.size+1)
 have hb0:Below w.heap.size w W0:=by rw[hW0];exact((Below.refl _ _).alloc (Nat.le_refl _) _).alloc (by simp) _
 have hyk:W0.heap[y]?=some (.cells #[.int .i64 st,.int .i64 dr] 102 (0,0)):=by
  rw[hW0];exact heap_alloc_at _ _ _ (by rw[hy];simp)
 have hzk:W0.heap[z]?=some (.cells #[x0,x1,x2,x3,.slice Ad ND cd,x5,x6] 35 (0,0)):=by
  rw[hW0,hz];exact(Below.heap_alloc _ _ _ (by simp)).trans (heap_alloc_new w _)
 have hyl:y<W0.heap.size:=(Array.getElem?_eq_some_iff.1 hyk).1;have hzl:z<W0.heap.size:=(Array.getElem?_eq_some_iff.1 hzk).1
 have HY0:=zh (fun(w':World) (hb:Below W0.heap.size W0 w')=>(show w'.cell? ⟨y,0,none⟩=some (.int .i64 st)∧w'.cell? ⟨y,1,none⟩=some (.int .i64 dr) from by
  have h1:=(hb.block y hyl).trans hyk
  exact⟨by rw[cell_of_row _ _ _ _ _ _ h1];rfl,by rw[cell_of_row _ _ _ _ _ _ h1];rfl⟩))
 have HZ4:=zh (fun(w':World) (hb:Below W0.heap.size W0 w')=>(show w'.cell? ⟨z,4,none⟩=some (.slice Ad ND cd) from by
  have h1:=(hb.block z hzl).trans hzk
  rw[cell_of_row _ _ _ _ _ _ h1];rfl))
 have HNM:=zh hn;have HW0:=zh hW0;have HZ:=zh (And.intro hz hy);have HB0:=zh hb0;clear hn hD1 hit hW0 hz hy hb0 hyk hzk hyl hzl;go_enter Tryz.func47,Tryz.ntmps47;go_upto_region 1 with fail;rw[←HW0.out,←HZ.out.2,←HZ.out.1];go_wp2_with fail;refine(HI.out _).mono ?_;rintro e W1 ⟨rfl,hd1⟩;have HD1:=zh hd1;obtain⟨y0,y1⟩:=HY0.out W1 hd1;have z4:=HZ4.out W1 hd1;have HBE:=zh (HB0.out.trans (hd1.mono HB0.out.size));clear hd1;by_cases h4:st=4
 ·subst h4
  have HE:=zh (show(((⟨#[32,32]⟩:ByteArray)++D1)++(⟨#[32]⟩:ByteArray))++(⟨#[103,111,110,101,10]⟩:ByteArray)=⟨(lineL i 4 nm++[10]).toArray⟩ from by
   rw[HDW.out];refine baEq ?_;unfold lineL wordL;simp[ByteArray.data_append])
  clear hst;go_wp2_with fail;go_ret;exact⟨congrArg (fun b=>Ending.returned (.string b)) HE.out,HBE.out⟩
 ·obtain⟨hd0,hdl,hcell⟩:=HNM.out h4;obtain⟨d,rfl⟩:∃d:Nat,dr=(d:Int):=⟨dr.toNat,by omega⟩
  have i1:(d:Int)<(ND:Int):=by omega
  obtain⟨b,off,hA,hbl,hc⟩:=hcell;subst hA;rw[Int.toNat_natCast] at hc;have n0:W1.cell? ⟨b,off+d * 3,none⟩=some (.string nm):=(HBE.out.cell (p:=⟨b,off+d * 3,none⟩) hbl).trans hc
  have HE:=zh (fun(st:Int) (u:ByteArray) (hu:u.data.toList=wordL st++[32]) (h4:st≠4)=>(show(((((⟨#[32,32]⟩:ByteArray)++D1)++(⟨#[32]⟩:ByteArray))++u)++nm)++(⟨#[10]⟩:ByteArray)=⟨(lineL i st nm++[10]).toArray⟩ from by
   rw[HDW.out];refine baEq ?_;unfold lineL;rw[if_neg h4];simp[ByteArray.data_append,hu]))
  clear hd0 hdl hbl hc;rcases hst with rfl | rfl | rfl | rfl
  ·clear h4;go_wp2_with fail;go_ret;exact⟨congrArg (fun b=>Ending.returned (.string b)) (HE.out 1 ⟨#[103,111,111,100,32]⟩ rfl (by decide)),HBE.out⟩
  ·clear h4;go_wp2_with fail;go_ret;exact⟨congrArg (fun b=>Ending.returned (.string b)) (HE.out 2 ⟨#[97,119,97,121,32]⟩ rfl (by decide)),HBE.out⟩
  ·clear h4;go_wp2_with fail;go_ret;exact⟨congrArg (fun b=>Ending.returned (.string b)) (HE.out 3 ⟨#[111,108,100,32]⟩ rfl (by decide)),HBE.out⟩
  ·exact absurd rfl h4
end Go.Proofs.YtcfkllnpkmebpaaGreatDoor

namespace Go.Proofs.YtcfkllnpkmebpaaGreatDoor
open Go.RowKit Go.Shelf
set_option linter.unusedVariables false
set_option linter.unusedSimpArgs false
theorem rhead_any(lost:Bool) (ext:Int) (vl vm vd vv vp vc:Value) (ob oof NO co v s need:Nat) (nm:ByteArray) (w:World) (hv:v<NO) (hno:NO≤1000) (hs:s<100) (hn:need<100) (hnm:nm.size≤1000) (hc:w.cell? ⟨ob,oof+v * 2,none⟩=some (.string nm)) :
  Calls Tryz.prog 46 #[.agg #[.int .i64 ext,vl,vm,vd,vv,vp,.slice (some ⟨ob,oof,none⟩) NO co],.agg #[.int .i64 (v:Int),.int .i64 (s:Int),.bool lost,.int .i64 (need:Int),vc]] w fun e w'=>e=.returned (.string ⟨(headL lost nm s need++[10]).toArray⟩)∧Below w.heap.size w w':=by
 have hob:ob<w.heap.size:=World.block_lt_of_cell? w _ hc
 have hi1:=fun w=>digits_any s w hs
 have hi2:=fun w=>digits_any need w hn
 obtain⟨D1,hD1⟩:∃b:ByteArray,b=⟨(Lib.decDigits s).toArray⟩:=⟨_,rfl⟩;obtain⟨D2,hD2⟩:∃b:ByteArray,b=⟨(Lib.decDigits need).toArray⟩:=⟨_,rfl⟩
 have l1:D1.size≤2:=by rw[hD1];exact dec_short s hs
 have l2:D2.size≤2:=by rw[hD2];exact dec_short need hn
 rw[←hD1] at hi1;rw[←hD2] at hi2;have HI1:=zh hi1;have HI2:=zh hi2;have HDW:=zh (And.intro hD1 hD2)
 have f1:¬9223372036854775807<5+nm.size:=by omega
 have f2:¬9223372036854775807<5+nm.size+1:=by omega
 have f3:¬9223372036854775807<5+nm.size+1+D1.size:=by omega
 have f4:¬9223372036854775807<5+nm.size+1+D1.size+7:=by omega
 have f5:¬9223372036854775807<5+nm.size+1+D1.size+7+D2.size:=by omega
 have f6:¬9223372036854775807<5+nm.size+1+D1.size+7+D2.size+1:=by omega
 have i1:(v:Int)<(NO:Int):=by omega
 obtain⟨W0,hW0⟩:=zx ((w.alloc (.cells #[.int .i64 ext,vl,vm,vd,vv,vp,.slice (some ⟨ob,oof,none⟩) NO co] 35)).alloc (.cells #[.int .i64 (v:Int),.int .i64 (s:Int),.bool lost,.int .i64 (need:Int),vc] 27));obtain⟨z,hz⟩:=zx w.heap.size;obtain⟨y,hy⟩:=zx (w.heap.size+1)
 have hb0:Below w.heap.size w W0:=by rw[hW0];exact((Below.refl _ _).alloc (Nat.le_refl _) _).alloc (by simp) _
 have hyk:W0.heap[y]?=some (.cells #[.int .i64 (v:Int),.int .i64 (s:Int),.bool lost,.int .i64 (need:Int),vc] 27 (0,0)):=by
  rw[hW0];exact heap_alloc_at _ _ _ (by rw[hy];simp)
 have hzk:W0.heap[z]?=some (.cells #[.int .i64 ext,vl,vm,vd,vv,vp,.slice (some ⟨ob,oof,none⟩) NO co] 35 (0,0)):=by
  rw[hW0,hz];exact(Below.heap_alloc _ _ _ (by simp)).trans (heap_alloc_new w _)
 have hyl:y<W0.heap.size:=(Array.getElem?_eq_some_iff.1 hyk).1;have hzl:z<W0.heap.size:=(Array.getElem?_eq_some_iff.1 hzk).1
 have HSA:=zh (fun(w':World) (hb:Below W0.heap.size W0 w')=>(show(w'.cell? ⟨z,6,none⟩=some (.slice (some ⟨ob,oof,none⟩) NO co)∧w'.cell? ⟨y,0,none⟩=some (.int .i64 (v:Int))∧w'.cell? ⟨y,1,none⟩=some (.int .i64 (s:Int))∧w'.cell? ⟨y,3,none⟩=some (.int .i64 (need:Int))∧w'.cell? ⟨ob,oof+v * 2,none⟩=some (.string nm)∧Below W0.heap.size W0 w') from
  have h1:=cells5 ((hb.block y hyl).trans hyk);have h2:=cells7 ((hb.block z hzl).trans hzk)
  ⟨h2.2.2.2.2.2.2,h1.1,h1.2.1,h1.2.2.2.1,((hb0.trans (hb.mono hb0.size)).cell (p:=⟨ob,oof+v * 2,none⟩) hob).trans hc,hb⟩))
 have hy2:W0.cell? ⟨y,2,none⟩=some (.bool lost):=(cells5 hyk).2.2.1;have HW0:=zh hW0;have HZ:=zh (And.intro hz hy);have HB0:=zh hb0;clear hc hob hi1 hi2 hD1 hD2 l1 l2 hW0 hz hy hb0 hyk hzk hyl hzl hv hno hs hn hnm
 cases lost with
 | false =>
  have HE:=zh (show(((((((⟨#[97,119,97,121,32]⟩:ByteArray)++nm)++(⟨#[32]⟩:ByteArray))++D1)++(⟨#[32,110,101,101,100,115,32]⟩:ByteArray))++D2)++(⟨#[10]⟩:ByteArray))=⟨(headL false nm s need++[10]).toArray⟩ from by
   rw[HDW.out.1,HDW.out.2];refine baEq ?_;unfold headL;simp[ByteArray.data_append])
  go_enter Tryz.func46,Tryz.ntmps46;go_upto_region 2 with fail;rw[←HW0.out,←HZ.out.2,←HZ.out.1];go_upto_region 4 with fail;clear hy2;refine region_tail (S:=(fun w'=>(w'.cell? ⟨z,6,none⟩=some (.slice (some ⟨ob,oof,none⟩) NO co)∧w'.cell? ⟨y,0,none⟩=some (.int .i64 (v:Int))∧w'.cell? ⟨y,1,none⟩=some (.int .i64 (s:Int))∧w'.cell? ⟨y,3,none⟩=some (.int .i64 (need:Int))∧w'.cell? ⟨ob,oof+v * 2,none⟩=some (.string nm)∧Below W0.heap.size W0 w'))) [] (by kernel_rfl) (HSA.out _ ((Below.refl _ _).drew)) (fun hHeld=>?_);refine tk 0 8 ?_;refine tk 1 9 ?_;refine tk 2 10 ?_;refine tk 3 11 ?_;refine tk 4 12 ?_;refine tk 5 13 ?_;refine tk 6 14 ?_;refine tk 7 15 ?_;refine tk 8 16 ?_;refine tk 9 17 ?_;refine tk 10 18 ?_;refine tk 11 19 ?_;refine tk 15 23 ?_;refine tk 16 24 ?_;refine readyT (rs:=[12]) (by kernel_rfl) (by simp) ?_;refine AllReadyT.cons rfl (fun K hK=>?_) ?_
  ·go_simp;refine(HI1.out _).mono ?_;rintro e w5 ⟨rfl,hb5⟩;have hx5:=(Below.refl W0.heap.size W0 |>.drew).trans (hb5.mono (Below.refl W0.heap.size W0 |>.drew).size);refine hK.out _ _ ?_ (fun hHeld=>?_)
   ·first | exact HSA.out _ hx6 | exact HSA.out _ hx5
   clear hK K;(try simp only[Act.put,z1,z2,z3]);refine tk 13 21 ?_;refine tk 14 22 ?_;refine readyT (rs:=[17]) (by kernel_rfl) (by simp) ?_;refine AllReadyT.cons rfl (fun K hK=>?_) ?_
   ·go_simp;refine(HI2.out _).mono ?_;rintro e w6 ⟨rfl,hb6⟩;have hx6:=hx5.trans (hb6.mono hx5.size);refine hK.out _ _ ?_ (fun hHeld=>?_)
    ·first | exact HSA.out _ hx6 | exact HSA.out _ hx5
    clear hK K;(try simp only[Act.put,z1,z2,z3]);refine tk 18 26 ?_;refine tk 19 27 ?_;refine tk 20 4 ?_;refine doneT (by kernel_rfl) ?_ _;clear hHeld;go_wp2_with fail;go_ret;exact⟨congrArg (fun b=>Ending.returned (.string b)) (HE.out),HB0.out.trans (hx6.mono HB0.out.size)⟩
   exact AllReadyT.nil
  exact AllReadyT.nil
 | true =>
  have HE:=zh (show(((((((⟨#[108,111,115,116,32]⟩:ByteArray)++nm)++(⟨#[32]⟩:ByteArray))++D1)++(⟨#[32,110,101,101,100,115,32]⟩:ByteArray))++D2)++(⟨#[10]⟩:ByteArray))=⟨(headL true nm s need++[10]).toArray⟩ from by
   rw[HDW.out.1,HDW.out.2];refine baEq ?_;unfold headL;simp[ByteArray.data_append])
  go_enter Tryz.func46,Tryz.ntmps46;go_upto_region 2 with fail;rw[←HW0.out,←HZ.out.2,←HZ.out.1];go_upto_region 4 with fail;clear hy2;refine region_tail (S:=(fun w'=>(w'.cell? ⟨z,6,none⟩=some (.slice (some ⟨ob,oof,none⟩) NO co)∧w'.cell? ⟨y,0,none⟩=some (.int .i64 (v:Int))∧w'.cell? ⟨y,1,none⟩=some (.int .i64 (s:Int))∧w'.cell? ⟨y,3,none⟩=some (.int .i64 (need:Int))∧w'.cell? ⟨ob,oof+v * 2,none⟩=some (.string nm)∧Below W0.heap.size W0 w'))) [] (by kernel_rfl) (HSA.out _ ((Below.refl _ _).drew)) (fun hHeld=>?_);refine tk 0 8 ?_;refine tk 1 9 ?_;refine tk 2 10 ?_;refine tk 3 11 ?_;refine tk 4 12 ?_;refine tk 5 13 ?_;refine tk 6 14 ?_;refine tk 7 15 ?_;refine tk 8 16 ?_;refine tk 9 17 ?_;refine tk 10 18 ?_;refine tk 11 19 ?_;refine tk 15 23 ?_;refine tk 16 24 ?_;refine readyT (rs:=[12]) (by kernel_rfl) (by simp) ?_;refine AllReadyT.cons rfl (fun K hK=>?_) ?_
  ·go_simp;refine(HI1.out _).mono ?_;rintro e w5 ⟨rfl,hb5⟩;have hx5:=(Below.refl W0.heap.size W0 |>.drew).trans (hb5.mono (Below.refl W0.heap.size W0 |>.drew).size);refine hK.out _ _ ?_ (fun hHeld=>?_)
   ·first | exact HSA.out _ hx6 | exact HSA.out _ hx5
   clear hK K;(try simp only[Act.put,z1,z2,z3]);refine tk 13 21 ?_;refine tk 14 22 ?_;refine readyT (rs:=[17]) (by kernel_rfl) (by simp) ?_;refine AllReadyT.cons rfl (fun K hK=>?_) ?_
   ·go_simp;refine(HI2.out _).mono ?_;rintro e w6 ⟨rfl,hb6⟩;have hx6:=hx5.trans (hb6.mono hx5.size);refine hK.out _ _ ?_ (fun hHeld=>?_)
    ·first | exact HSA.out _ hx6 | exact HSA.out _ hx5
    clear hK K;(try simp only[Act.put,z1,z2,z3]);refine tk 18 26 ?_;refine tk 19 27 ?_;refine tk 20 4 ?_;refine doneT (by kernel_rfl) ?_ _;clear hHeld;go_wp2_with fail;go_ret;exact⟨congrArg (fun b=>Ending.returned (.string b)) (HE.out),HB0.out.trans (hx6.mono HB0.out.size)⟩
   exact AllReadyT.nil
  exact AllReadyT.nil
end Go.Proofs.YtcfkllnpkmebpaaGreatDoor

namespace Go.Proofs.YtcfkllnpkmebpaaGreatDoor
open Go.RowKit Go.Shelf
set_option linter.unusedVariables false
set_option linter.unusedSimpArgs false
theorem rformat_any(N:Nat) (hN:N≤12) (vl vm vd vv vp vo vL:Value) (F:FltM) (L:List Inc) (w:World) (hf:FleetS w (Bl w.heap.size) vl vm vd vv vp vo F) (hok:FleetOk N F) (hL:SlS 5 IncK w (Bl w.heap.size) vL L) (hlen:L.length≤1000) (hcl:∀x∈L,x.causes.length≤1000) :
  Calls Tryz.prog 15 #[.agg #[.int .i64 F.ext,vl,vm,vd,vv,vp,vo],vL] w fun e w'=>e=.returned (.tuple #[.string ⟨(fmtR F L).1.toArray⟩,.int .i64 (fmtR F L).2])∧Below w.heap.size w w':=by
 obtain⟨pb,pof,ob,oof,cp,co,rfl,rfl,hRp,hRo,-⟩:=polAt hf hok;obtain⟨Ad,cd,rfl,-,-⟩:=SlS.form hf.2.2.2.1;obtain⟨AL,cL,rfl,-,-⟩:=hL.form;have HVI:=zh (fun(w':World) (hb:Below w.heap.size w w')=>rvalidI_any N hN vl vm vd _ _ _ _ F L w' (hf.below hb) hok (SlS.mono incK (SlS.keep incK hL (fun b h=>hb.block b h)) (fun b h=>Nat.lt_of_lt_of_le h hb.size)) hlen hcl);have HLW:=zh (fun(w':World) (hb:Below w.heap.size w w')=>(show SlS 5 IncK w' (Bl w.heap.size) _ L from SlS.keep incK hL (fun b h=>hb.block b h)));have HVN:=zh (fun(v:Nat) (hv:v<F.vols.length) (w':World) (hb:Below w.heap.size w w')=>(show w'.cell? ⟨ob,oof+v * 2,none⟩=some (.string (nmOf F v))∧(nmOf F v).size=3 from⟨(hb.cell (p:=⟨ob,oof+v * 2,none⟩) hRo).trans (vol_name hf hok hv).1,(vol_name hf hok hv).2⟩))
 have HDN:=zh (fun(d:Nat) (hd:d<F.dves.length) (w':World) (hb:Below w.heap.size w w')=>(show(∃b off,Ad=some ⟨b,off,none⟩∧b<w.heap.size∧w'.cell? ⟨b,off+d * 3,none⟩=some (.string (dnOf F d)))∧(dnOf F d).size=3 from by
  obtain⟨⟨b,off,h1,h2,h3⟩,h4⟩:=drv_name hf hok hd
  exact⟨⟨b,off,h1,h2,(hb.cell (p:=⟨b,off+d * 3,none⟩) h2).trans h3⟩,h4⟩))
 have HKM:=zh (fun(a:Nat) (ha:a<F.vols.length)=>kmq_ok hok ha);have hno:F.vols.length≤12:=Nat.le_trans hok.volN hN;have hext:F.ext=1∨F.ext=2:=hok.ext;have hnd:F.dves.length≤9:=hok.dveN;have HDL:=zh (fun d=>dn_len hok d);have HALL:=zh (fun h:validB F L=true=>all_ok h);obtain⟨R,hR⟩:=zx (fmtR F L);obtain⟨VB,hVB⟩:=zx (validB F L);rw[←hVB] at HVI HALL;have HRR:=zh (show R=if VB=true then(fmtT F L,0) else([],1) by rw[hR,hVB];rfl);rw[←hR];obtain⟨EX,hEX⟩:=zx F.ext;obtain⟨ND,hND⟩:=zx F.dves.length;obtain⟨NO,hNO⟩:=zx F.vols.length;obtain⟨NP,hNP⟩:=zx F.pols.length;obtain⟨LN,hLN⟩:=zx L.length;rw[←hEX,←hND,←hNO,←hNP] at HVI ⊢;rw[←hLN] at HVI HLW hlen ⊢;rw[←hEX] at hext;rw[←hND] at hnd;rw[←hNO] at hno;have HE:=zh (And.intro hEX (And.intro hND hNO));have HLN:=zh hLN;obtain⟨W0,hW0⟩:=zx (w.alloc (.cells #[.int .i64 EX,vl,vm,vd,.slice Ad ND cd,.slice (some ⟨pb,pof,none⟩) NP cp,.slice (some ⟨ob,oof,none⟩) NO co] 35));obtain⟨z,hz⟩:=zx w.heap.size
 have hb0:Below w.heap.size w W0:=by rw[hW0];exact(Below.refl _ _).alloc (Nat.le_refl _) _
 have hzk:W0.heap[z]?=some (.cells #[.int .i64 EX,vl,vm,vd,.slice Ad ND cd,.slice (some ⟨pb,pof,none⟩) NP cp,.slice (some ⟨ob,oof,none⟩) NO co] 35 (0,0)):=by rw[hW0,hz];exact heap_alloc_new w _
 have hzl:z<W0.heap.size:=(Array.getElem?_eq_some_iff.1 hzk).1;have HC:=zh (fun(w':World) (hb:Below W0.heap.size W0 w')=>cells7 ((hb.block z hzl).trans hzk));have HRE:=zh (fun(w':World) (hb:Below W0.heap.size W0 w')=>hb0.trans (hb.mono hb0.size));have HW0:=zh hW0;have HZ:=zh hz;have HB0:=zh hb0;obtain⟨c0,c1,c2,c3,c4,c5,c6⟩:=HC.out W0 (Below.refl _ _);clear hf hok hL hcl hRp hRo hR hVB hEX hND hNO hNP hLN hW0 hz hb0 hzk hzl hN;go_enter Tryz.func15,Tryz.ntmps15;go_upto_region 1 with fail;rw[←HW0.out,←HZ.out];go_wp2_with fail;refine(HVI.out _ HB0.out).mono ?_;rintro e w1 ⟨rfl,hb1⟩;have HB1:=zh hb1;clear c0 c1 c2 c3 c4 c5 c6 hb1
 cases VB with
 | false =>
  have HR:=zh (show R=([],1) by rw[HRR.out];rfl);go_wp2_with fail;go_ret2;exact⟨tup2 (by rw[HR.out]) (by rw[HR.out]),HRE.out _ HB1.out⟩
 | true =>
  have HR:=zh (show R=(fmtT F L,0) by rw[HRR.out];rfl);go_wp2_with fail;go_loopg [6,7] LN (fun z v6 v7 wr=>∃(i:Nat) (O:ByteArray),v6=.string O∧v7=.int .i64 (i:Int)∧i≤LN∧z=LN - i∧Hid (O=⟨(fmtT F (L.take i)).toArray⟩)∧Hid ((fmtT F (L.take i)).length≤i * 200)∧Hid (Below w1.heap.size w1 wr))
  case atStart=>exact⟨0,_,rfl,rfl,Nat.zero_le _,rfl,zh (by simp[fmtT]),zh (by simp[fmtT]),zh (Below.refl _ _)⟩
  case round =>
   obtain⟨i,O,rfl,rfl,hi,rfl,HO,HLE,HBR⟩:=hrel;by_cases hlt:i<LN
   ·have HLT:=zh hlt
    have hil:i<L.length:=by rw[←HLN.out];exact hlt
    have hb0r:=HB1.out.trans (HBR.out.mono HB1.out.size);have hbw:=HRE.out wr hb0r;obtain⟨b,off,cs,hA,hRb,-,hc,hcs⟩:=(HLW.out wr hbw).at_ (k:=i) hil;subst hA;obtain⟨Ax,cx,x0,x1,x2,x3,x4,hsl,-⟩:=five_inc hc hcs;have HOK:=zh (one_parts (HALL.out (by simp) _ (List.getElem_mem hil)));have HFN:=zh (fmt_next F hil);obtain⟨x,hx⟩:=zx (L[i]);rw[←hx] at x0 x1 x2 x3 x4 hsl HOK HFN;obtain⟨xv,xs,xl,xn,xc⟩:=x;simp only at x0 x1 x2 x3 x4 hsl;obtain⟨h1,h2,h3,h4⟩:=HOK.out;simp only at h1 h2 h3 h4;rw[←HE.out.1,←HE.out.2.2,isStr_iff] at h1;obtain⟨⟨hv0,hv1⟩,⟨hs0,hs1⟩⟩:=h1;obtain⟨v,rfl⟩:∃v:Nat,xv=(v:Int):=⟨xv.toNat,by omega⟩;obtain⟨s,rfl⟩:∃s:Nat,xs=(s:Int):=⟨xs.toNat,by omega⟩;rw[Int.toNat_natCast] at h2 h4
    have hvF:v<F.vols.length:=by rw[←HE.out.2.2];omega
    obtain⟨hk12,hm0,hm2,-,-⟩:=HKM.out v hvF;obtain⟨KN,rfl⟩:∃k:Nat,xn=(k:Int):=⟨xn.toNat,by omega⟩
    have hkn:KN≤2:=by omega
    have hfl:=fin_len h4
    have hcn4:xc.length≤4:=by omega
    have HCA:=zh h3;have HINC:=zh (show incT F ⟨(v:Int),(s:Int),xl,(KN:Int),xc⟩=headL xl (nmOf F v) s KN++(10 :: linesT F 0 xc) from by unfold incT;simp only[Int.toNat_natCast]);obtain⟨CN,hCN⟩:=zx xc.length;rw[←hCN] at x4 hsl hcn4;have HCN:=zh hCN;have HSL:=zh hsl;have HRB:=zh (show b<w.heap.size from hRb);have HXC:=zh (And.intro x0 (And.intro x1 (And.intro x2 (And.intro x3 x4))));have HSLQ:=zh (fun(w':World) (hb:Below w.heap.size w w')=>(show SlS 2 CauK w' (Bl w.heap.size) (.slice Ax CN cx) xc from SlS.keep cauK HSL.out (fun bb hbb=>(hb.block bb hbb).trans ((HRE.out wr (HB1.out.trans (HBR.out.mono HB1.out.size))).block bb hbb).symm)))
    have HSA:=zh (fun(w':World) (hb:Below w1.heap.size w1 w')=>(show(w'.cell? ⟨z,0,none⟩=some (.int .i64 EX)∧w'.cell? ⟨z,1,none⟩=some vl∧w'.cell? ⟨z,2,none⟩=some vm∧w'.cell? ⟨z,3,none⟩=some vd∧w'.cell? ⟨z,4,none⟩=some (.slice Ad ND cd)∧w'.cell? ⟨z,5,none⟩=some (.slice (some ⟨pb,pof,none⟩) NP cp)∧w'.cell? ⟨z,6,none⟩=some (.slice (some ⟨ob,oof,none⟩) NO co))∧(w'.cell? ⟨b,off+i * 5,none⟩=some (.int .i64 (v:Int))∧w'.cell? ⟨b,off+i * 5+1,none⟩=some (.int .i64 (s:Int))∧w'.cell? ⟨b,off+i * 5+2,none⟩=some (.bool xl)∧w'.cell? ⟨b,off+i * 5+3,none⟩=some (.int .i64 (KN:Int))∧w'.cell? ⟨b,off+i * 5+4,none⟩=some (.slice Ax CN cx))∧Below w1.heap.size w1 w' from by
     have m:∀o u,wr.cell? ⟨b,o,none⟩=some u→w'.cell? ⟨b,o,none⟩=some u:=fun o u hu=>by
      have h1:=(HRE.out w' (HB1.out.trans (hb.mono HB1.out.size))).cell (p:=⟨b,o,none⟩) HRB.out;have h2:=(HRE.out wr (HB1.out.trans (HBR.out.mono HB1.out.size))).cell (p:=⟨b,o,none⟩) HRB.out;exact h1.trans (h2.symm.trans hu)
     exact⟨HC.out w' (HB1.out.trans (hb.mono HB1.out.size)),⟨m _ _ HXC.out.1,m _ _ HXC.out.2.1,m _ _ HXC.out.2.2.1,m _ _ HXC.out.2.2.2.1,m _ _ HXC.out.2.2.2.2⟩,hb⟩))
    obtain⟨H,hH⟩:∃b:ByteArray,b=⟨(headL xl (nmOf F v) s KN++[10]).toArray⟩:=⟨_,rfl⟩;have hnz:=(HVN.out v hvF wr hbw).2
    have HHD:=zh (fun(w':World) (hb:Below w1.heap.size w1 w')=>(show Calls Tryz.prog 46 #[.agg #[.int .i64 EX,vl,vm,vd,.slice Ad ND cd,.slice (some ⟨pb,pof,none⟩) NP cp,.slice (some ⟨ob,oof,none⟩) NO co],.agg #[.int .i64 (v:Int),.int .i64 (s:Int),.bool xl,.int .i64 (KN:Int),.slice Ax CN cx]] w' fun e w2=>e=.returned (.string H)∧Below w'.heap.size w' w2 from by
     rw[hH]
     exact rhead_any xl EX vl vm vd (.slice Ad ND cd) (.slice (some ⟨pb,pof,none⟩) NP cp) (.slice Ax CN cx) ob oof NO co v s KN (nmOf F v) w' (by omega) (by omega) (by omega) (by omega) (by omega) (HVN.out v hvF w' (HRE.out w' (HB1.out.trans (hb.mono HB1.out.size)))).1))
    have hhl:=headL_len xl (nmOf F v) s KN (by omega) (by omega) (by omega)
    have hHs:H.size≤31:=by rw[hH,size_l];simp only[List.length_append,List.length_cons,List.length_nil];omega
    have hOs:O.size≤200000:=by rw[HO.out,size_l];have:=HLE.out;omega
    have HLN2:=zh (show(fmtT F (L.take i)).length≤200000 by have:=HLE.out;omega)
    have nH:¬9223372036854775807<O.size+H.size:=by omega
    have HHL:=zh hH;have HHZ:=zh hhl
    have hvO:(v:Int)<(NO:Int):=by omega
    clear hCN hx hH hhl hHs hOs hnz hsl hb0r hbw hc hcs hkn hfl h2 h4 h3 hv0 hv1 hs0 hs1 hm0 hm2 hk12 hvF hRb hil;go_upto_region 7 with fail;clear x0 x1 x2 x3 x4;refine region_tail (S:=(fun w'=>(w'.cell? ⟨z,0,none⟩=some (.int .i64 EX)∧w'.cell? ⟨z,1,none⟩=some vl∧w'.cell? ⟨z,2,none⟩=some vm∧w'.cell? ⟨z,3,none⟩=some vd∧w'.cell? ⟨z,4,none⟩=some (.slice Ad ND cd)∧w'.cell? ⟨z,5,none⟩=some (.slice (some ⟨pb,pof,none⟩) NP cp)∧w'.cell? ⟨z,6,none⟩=some (.slice (some ⟨ob,oof,none⟩) NO co))∧(w'.cell? ⟨b,off+i * 5,none⟩=some (.int .i64 (v:Int))∧w'.cell? ⟨b,off+i * 5+1,none⟩=some (.int .i64 (s:Int))∧w'.cell? ⟨b,off+i * 5+2,none⟩=some (.bool xl)∧w'.cell? ⟨b,off+i * 5+3,none⟩=some (.int .i64 (KN:Int))∧w'.cell? ⟨b,off+i * 5+4,none⟩=some (.slice Ax CN cx))∧Below w1.heap.size w1 w')) [] (by kernel_rfl) (HSA.out _ HBR.out.drew) (fun hHeld=>?_);refine tk 0 19 ?_;refine tk 1 20 ?_;refine tk 2 21 ?_;refine tk 3 22 ?_;refine tk 4 23 ?_;refine tk 5 24 ?_;refine readyT (rs:=[6]) (by kernel_rfl) (by simp) ?_;refine AllReadyT.cons rfl (fun K hK=>?_) ?_
    ·go_simp;refine(HHD.out _ HBR.out.drew).mono ?_;rintro e w5 ⟨rfl,hb5⟩;have hx5:=(HBR.out.drew).trans (hb5.mono (HBR.out.drew).size);refine hK.out _ _ ?_ (fun hHeld=>?_)
     ·exact HSA.out _ hx5
     clear hK K;(try simp only[Act.put,z1,z2,z3]);refine tk 7 26 ?_;refine tk 8 6 ?_;refine doneT (by kernel_rfl) ?_ _;clear hHeld;have HX5:=zh hx5
     have HO2:=zh (show O++H=⟨(fmtT F (L.take i)++(headL xl (nmOf F v) s KN++(10 :: linesT F 0 (xc.take 0)))).toArray⟩ from by
      rw[HO.out,HHL.out];refine baEq ?_;simp[ByteArray.data_append,linesT])
     clear hx5 hb5 nH;go_wp2_with fail;go_loopg [6,8] CN (fun z v6 v8 wr=>∃(j:Nat) (P:ByteArray),v6=.string P∧v8=.int .i64 (j:Int)∧j≤CN∧z=CN - j∧Hid (P=⟨(fmtT F (L.take i)++(headL xl (nmOf F v) s KN++(10 :: linesT F 0 (xc.take j)))).toArray⟩)∧Hid ((linesT F 0 (xc.take j)).length≤j * 21)∧Hid (Below w1.heap.size w1 wr))
     case atStart=>exact⟨0,_,rfl,rfl,Nat.zero_le _,rfl,HO2,zh (by simp[linesT]),HX5⟩
     case round =>
      clear HO2 HX5;obtain⟨j,P,rfl,rfl,hj,rfl,HP,HLJ,HBQ⟩:=hrel;have x4:=(HSA.out wr HBQ.out).2.1.2.2.2.2;by_cases hlj:j<CN
      ·have HLTJ:=zh hlj
       have hjl:j<xc.length:=by rw[←HCN.out];exact hlj
       have hbq:=HRE.out wr (HB1.out.trans (HBQ.out.mono HB1.out.size));obtain⟨bq,oq,cq,hAq,hRq,-,hcq,hcsq⟩:=(HSLQ.out wr hbq).at_ (k:=j) hjl;subst hAq;obtain⟨e0,e1⟩:=two_cau hcq hcsq;have HNX:=zh (lines_next F hjl);have hcp:=cau_parts (HCA.out _ (List.getElem_mem hjl));obtain⟨cc,hcc⟩:=zx (xc[j]);rw[←hcc] at e0 e1 HNX hcp;obtain⟨st,dr⟩:=cc;simp only at e0 e1 hcp;obtain⟨hst,hdr,-⟩:=hcp;have HRQ:=zh (show bq<w.heap.size from hRq);have HYC:=zh (And.intro e0 e1)
       have HSB:=zh (fun(w':World) (hb:Below w1.heap.size w1 w')=>(show(w'.cell? ⟨z,0,none⟩=some (.int .i64 EX)∧w'.cell? ⟨z,1,none⟩=some vl∧w'.cell? ⟨z,2,none⟩=some vm∧w'.cell? ⟨z,3,none⟩=some vd∧w'.cell? ⟨z,4,none⟩=some (.slice Ad ND cd)∧w'.cell? ⟨z,5,none⟩=some (.slice (some ⟨pb,pof,none⟩) NP cp)∧w'.cell? ⟨z,6,none⟩=some (.slice (some ⟨ob,oof,none⟩) NO co))∧(w'.cell? ⟨b,off+i * 5,none⟩=some (.int .i64 (v:Int))∧w'.cell? ⟨b,off+i * 5+1,none⟩=some (.int .i64 (s:Int))∧w'.cell? ⟨b,off+i * 5+2,none⟩=some (.bool xl)∧w'.cell? ⟨b,off+i * 5+3,none⟩=some (.int .i64 (KN:Int))∧w'.cell? ⟨b,off+i * 5+4,none⟩=some (.slice (some ⟨bq,oq,none⟩) CN cx))∧(w'.cell? ⟨bq,oq+j * 2,none⟩=some (.int .i64 st)∧w'.cell? ⟨bq,oq+j * 2+1,none⟩=some (.int .i64 dr))∧Below w1.heap.size w1 w' from by
        have h:=HSA.out w' hb
        have m:∀o u,wr.cell? ⟨bq,o,none⟩=some u→w'.cell? ⟨bq,o,none⟩=some u:=fun o u hu=>by
         have h1:=(HRE.out w' (HB1.out.trans (hb.mono HB1.out.size))).cell (p:=⟨bq,o,none⟩) HRQ.out;have h2:=(HRE.out wr (HB1.out.trans (HBQ.out.mono HB1.out.size))).cell (p:=⟨bq,o,none⟩) HRQ.out;exact h1.trans (h2.symm.trans hu)
        exact⟨h.1,h.2.1,⟨m _ _ HYC.out.1,m _ _ HYC.out.2⟩,hb⟩))
       have HDR:=zh hdr;obtain⟨D,hD⟩:∃b:ByteArray,b=⟨(lineL j st (dnOf F dr.toNat)++[10]).toArray⟩:=⟨_,rfl⟩
       have HLI:=zh (fun(w':World) (hb:Below w1.heap.size w1 w')=>(show Calls Tryz.prog 47 #[.agg #[.int .i64 EX,vl,vm,vd,.slice Ad ND cd,.slice (some ⟨pb,pof,none⟩) NP cp,.slice (some ⟨ob,oof,none⟩) NO co],.int .i64 (j:Int),.agg #[.int .i64 st,.int .i64 dr]] w' fun e w2=>e=.returned (.string D)∧Below w'.heap.size w' w2 from by
        rw[hD];have hww:=HRE.out w' (HB1.out.trans (hb.mono HB1.out.size))
        exact rline_any j st dr (dnOf F dr.toNat) (.int .i64 EX) vl vm vd (.slice (some ⟨pb,pof,none⟩) NP cp) (.slice (some ⟨ob,oof,none⟩) NO co) Ad ND cd w' (by omega) hst (by omega) (by have:=HDL.out dr.toNat;omega) (fun h4=>by
         have hd:=HDR.out h4;rw[←HE.out.2.1] at hd;refine⟨hd.1,hd.2,?_⟩;obtain⟨⟨b',off',h1,h2,h3⟩,-⟩:=HDN.out dr.toNat (by rw[←HE.out.2.1];omega) w' hww
         exact⟨b',off',h1,Nat.lt_of_lt_of_le h2 hww.size,h3⟩)))
       have hDl:=lineL_len j st (dnOf F dr.toNat) (by omega) (HDL.out _)
       have hDs:D.size≤21:=by rw[hD,size_l];simp only[List.length_append,List.length_cons,List.length_nil];omega
       have hPs:P.size≤300000:=by rw[HP.out,size_l];have h1:=HLN2.out;have h2:=HHZ.out;have h3:=HLJ.out;simp only[List.length_append,List.length_cons];omega
       have nD:¬9223372036854775807<P.size+D.size:=by omega
       have HP2:=zh (show P++D=⟨(fmtT F (L.take i)++(headL xl (nmOf F v) s KN++(10 :: linesT F 0 (xc.take (j+1))))).toArray⟩ from by
        rw[HP.out,hD,HNX.out];refine baEq ?_;simp[ByteArray.data_append])
       have HLL:=zh (show(linesT F 0 (xc.take (j+1))).length≤(j+1) * 21 from by rw[HNX.out];have h1:=HLJ.out;have h2:=hDl;simp only[List.length_append,List.length_cons,List.length_nil];omega);clear hD hDl hDs hPs hbq hcq hcsq hcc hRq hst hdr hjl;go_upto_region 11 with fail;clear e0 e1 x4;refine region_tail (S:=(fun w'=>(w'.cell? ⟨z,0,none⟩=some (.int .i64 EX)∧w'.cell? ⟨z,1,none⟩=some vl∧w'.cell? ⟨z,2,none⟩=some vm∧w'.cell? ⟨z,3,none⟩=some vd∧w'.cell? ⟨z,4,none⟩=some (.slice Ad ND cd)∧w'.cell? ⟨z,5,none⟩=some (.slice (some ⟨pb,pof,none⟩) NP cp)∧w'.cell? ⟨z,6,none⟩=some (.slice (some ⟨ob,oof,none⟩) NO co))∧(w'.cell? ⟨b,off+i * 5,none⟩=some (.int .i64 (v:Int))∧w'.cell? ⟨b,off+i * 5+1,none⟩=some (.int .i64 (s:Int))∧w'.cell? ⟨b,off+i * 5+2,none⟩=some (.bool xl)∧w'.cell? ⟨b,off+i * 5+3,none⟩=some (.int .i64 (KN:Int))∧w'.cell? ⟨b,off+i * 5+4,none⟩=some (.slice (some ⟨bq,oq,none⟩) CN cx))∧(w'.cell? ⟨bq,oq+j * 2,none⟩=some (.int .i64 st)∧w'.cell? ⟨bq,oq+j * 2+1,none⟩=some (.int .i64 dr))∧Below w1.heap.size w1 w')) [] (by kernel_rfl) (HSB.out _ HBQ.out.drew) (fun hHeld=>?_);refine tk 0 37 ?_;refine tk 1 38 ?_;refine tk 2 39 ?_;refine tk 3 40 ?_;refine tk 4 41 ?_;refine tk 5 42 ?_;refine tk 6 43 ?_;refine tk 7 44 ?_;refine tk 8 45 ?_;refine tk 9 46 ?_;refine tk 10 47 ?_;refine readyT (rs:=[11]) (by kernel_rfl) (by simp) ?_;refine AllReadyT.cons rfl (fun K hK=>?_) ?_
       ·go_simp;refine(HLI.out _ HBQ.out.drew).mono ?_;rintro e w6 ⟨rfl,hb6⟩;have hx6:=(HBQ.out.drew).trans (hb6.mono (HBQ.out.drew).size);refine hK.out _ _ ?_ (fun hHeld=>?_)
        ·exact HSB.out _ hx6
        clear hK K;(try simp only[Act.put,z1,z2,z3]);refine tk 12 49 ?_;refine tk 13 6 ?_;refine doneT (by kernel_rfl) ?_ _;clear hHeld;have HX6:=zh hx6;clear hx6 hb6 nD;go_wp2_with fail;go_roundg (CN - (j+1))
        case measure=>have:=HLTJ.out;omega
        case rel=>exact⟨j+1,_,rfl,by go_num,by have:=HLTJ.out;omega,rfl,HP2,HLL,HX6⟩
       exact AllReadyT.nil
      ·have ej:j=CN:=by omega
       have HP2:=zh (show P=⟨(fmtT F (L.take (i+1))).toArray⟩ from by
        have h:=HP.out;rw[List.take_of_length_le (l:=xc) (i:=j) (by rw[←HCN.out,ej];exact Nat.le_refl _)] at h
        rw[h,HFN.out,HINC.out])
       have HLN3:=zh (show(fmtT F (L.take (i+1))).length≤(i+1) * 200 from by
        have h1:=HLJ.out;rw[List.take_of_length_le (l:=xc) (i:=j) (by rw[←HCN.out,ej];exact Nat.le_refl _)] at h1;have h2:=HLE.out;have h3:=HHZ.out;rw[HFN.out,HINC.out];simp only[List.length_append,List.length_cons]
        omega)
       clear ej;go_wp2_with fail;go_roundg (LN - (i+1))
       case measure=>have:=HLT.out;omega
       case rel=>exact⟨i+1,_,rfl,by go_num,by have:=HLT.out;omega,rfl,HP2,HLN3,HBQ⟩
    exact AllReadyT.nil
   ·have HOE:=zh (show O=⟨(fmtT F L).toArray⟩ from by
     have h:=HO.out;rw[List.take_of_length_le (by rw[←HLN.out];omega)] at h
     exact h)
    go_wp2_with fail;go_ret2;exact⟨by rw[HR.out,HOE.out];rfl,HRE.out _ (HB1.out.trans (HBR.out.mono HB1.out.size))⟩
end Go.Proofs.YtcfkllnpkmebpaaGreatDoor

namespace Go.Proofs.YtcfkllnpkmebpaaGreatDoor
open Go.RowKit
open Go.ChangeMaps Go.MapKept Go.WideShapes
open Go.WideElems (Fit rd rg pl rd_key rd_val rg_of)
open Go.Maps (Keyed)
set_option linter.unusedVariables false
set_option linter.unusedSimpArgs false
section
variable {κ : Type} {kval : κ → Value} {ok : κ → Prop}
variable {w w' : World} {kt t e : TypeId} {b n : Nat} {f : κ → Option Value} {x : κ} {z : Value}
end
section
variable {κ : Type} {kval : κ → Value} {ok : κ → Prop}
variable {w : World} {ops : Array Oper} {rest : List Oper} {o : Oper} {a : Act} {Q : Exit → Act → World → Prop}
end
end Go.Proofs.YtcfkllnpkmebpaaGreatDoor

namespace Go.Proofs.YtcfkllnpkmebpaaGreatDoor
open Go.RowKit
open Go.ChangeMaps Go.MapKept Go.WideShapes
open Go.WideElems (Fit rd rg pl rd_key rd_val rg_of)
open Go.Maps (Keyed)
set_option linter.unusedVariables false
set_option linter.unusedSimpArgs false
structure Ky3 where
 v:Int
 f:Int
 s:Int
deriving DecidableEq
def k3(x:Ky3):Value:=.agg #[.int .i64 x.v,.int .i64 x.f,.int .i64 x.s]
end Go.Proofs.YtcfkllnpkmebpaaGreatDoor

namespace Go.Proofs.YtcfkllnpkmebpaaGreatDoor
open Go.RowKit
set_option linter.unusedVariables false
set_option linter.unusedSimpArgs false
end Go.Proofs.YtcfkllnpkmebpaaGreatDoor

namespace Go.Proofs.YtcfkllnpkmebpaaGreatDoor
open Go.RowKit
set_option linter.unusedVariables false
set_option linter.unusedSimpArgs false
end Go.Proofs.YtcfkllnpkmebpaaGreatDoor

namespace Go.Proofs.YtcfkllnpkmebpaaGreatDoor
open Go.RowKit
set_option linter.unusedVariables false
set_option linter.unusedSimpArgs false
end Go.Proofs.YtcfkllnpkmebpaaGreatDoor

namespace Go.Proofs.YtcfkllnpkmebpaaGreatDoor
open Go.RowKit
open Go.ChangeMaps Go.MapKept Go.WideShapes
set_option linter.unusedVariables false
set_option linter.unusedSimpArgs false
end Go.Proofs.YtcfkllnpkmebpaaGreatDoor

namespace Go.Proofs.YtcfkllnpkmebpaaGreatDoor
open Go.RowKit
set_option linter.unusedVariables false
set_option linter.unusedSimpArgs false
def upF(r:Re) (v s:Int) (set:List Nat) (i:Nat):Bool:=(pieces r).any fun x=>isB x.p v (i:Int) s&&(onB r x.drive||decide (x.drive∈set))
def cntS(r:Re) (v s:Int) (n:Nat) (set:List Nat):Nat:=((List.range n).filter (upF r v s set)).length
theorem upF_iff{r:Re} {v s:Int} {set:List Nat} {i:Nat}:upF r v s set i=true↔∃x∈pieces r,isB x.p v (i:Int) s=true∧(onB r x.drive=true∨x.drive∈set):=by
 unfold upF;rw[List.any_eq_true]
 constructor
 ·rintro ⟨x,hx,h⟩;rw[Bool.and_eq_true,Bool.or_eq_true,decide_eq_true_eq] at h;exact⟨x,hx,h⟩
 ·rintro ⟨x,hx,h1,h2⟩;exact⟨x,hx,by rw[Bool.and_eq_true,Bool.or_eq_true,decide_eq_true_eq];exact⟨h1,h2⟩⟩
theorem pieces_lt(r:Re):∀x∈pieces r,x.drive<r.plat.length:=fun x hx=>by
 have:=piecesTo_drive r _ x hx;omega
def anyF(r:Re) (v s:Int) (i:Nat):Bool:=(pieces r).any fun x=>isB x.p v (i:Int) s
theorem anyF_iff{r:Re} {v s:Int} {i:Nat}:anyF r v s i=true↔∃x∈pieces r,isB x.p v (i:Int) s=true:=by
 unfold anyF;rw[List.any_eq_true]
theorem src_up(r:Re) (v f s:Int):0≤srcI r (pieces r) v f s true↔∃x∈pieces r,isB x.p v f s=true∧onB r x.drive=true:=by
 rw[srcI_has,List.any_eq_true]
 constructor
 ·rintro ⟨x,hx,h⟩;rw[srcB_on,Bool.and_eq_true] at h;exact⟨x,hx,h⟩
 ·rintro ⟨x,hx,h⟩;exact⟨x,hx,by rw[srcB_on,Bool.and_eq_true];exact h⟩
theorem int_count(r:Re) (v s:Int) (on:Bool) (n:Nat) (hn:n≤8):((intI r v s on).filter (fun x=>decide (x<(n:Int)))).length=((List.range n).filter (fun i:Nat=>decide (0≤srcI r (pieces r) v (i:Int) s on))).length:=by
 have h:∀m,((intTo r (pieces r) v s on m).filter (fun x=>decide (x<(n:Int)))).length=((List.range (min m n)).filter (fun i:Nat=>decide (0≤srcI r (pieces r) v (i:Int) s on))).length:=by
  intro m
  induction m with
  | zero=>simp[intTo]
  | succ m ih =>
   rw[intTo_succ,List.filter_append,List.length_append,ih];by_cases hm:m<n
   ·rw[show min (m+1) n=m+1 by omega,show min m n=m by omega,List.range_succ,List.filter_append,List.length_append]
    congr 1
    by_cases hs:0≤srcI r (pieces r) v (m:Int) s on
    ·simp[hs,hm]
    ·simp[hs]
   ·rw[show min (m+1) n=n by omega,show min m n=n by omega];by_cases hs:0≤srcI r (pieces r) v (m:Int) s on
    ·simp[hs,hm]
    ·simp[hs]
 unfold intI;rw[h 8,show min 8 n=n by omega]
theorem cnt_up(r:Re) (v s:Nat) (n:Nat) (hn:n≤8):cntI r v s true (n:Int)=(cntS r (v:Int) (s:Int) n []:Int):=by
 unfold cntI cntS;rw[int_count _ _ _ _ n hn]
 congr 2
 apply List.filter_congr;intro i hi;rw[Bool.eq_iff_iff,decide_eq_true_eq,src_up,upF_iff];simp
theorem cnt_all(r:Re) (v s:Nat) (n:Nat) (hn:n≤8):cntI r v s false (n:Int)=(((List.range n).filter (anyF r (v:Int) (s:Int))).length:Int):=by
 unfold cntI;rw[int_count _ _ _ _ n hn]
 congr 2
 apply List.filter_congr;intro i hi;rw[Bool.eq_iff_iff,decide_eq_true_eq,srcI_has,List.any_eq_true,anyF_iff]
 constructor
 ·rintro ⟨x,hx,h⟩;rw[srcB_off] at h;exact⟨x,hx,h⟩
 ·rintro ⟨x,hx,h⟩;exact⟨x,hx,by rw[srcB_off];exact h⟩
end Go.Proofs.YtcfkllnpkmebpaaGreatDoor

namespace Go.Proofs.YtcfkllnpkmebpaaGreatDoor
open Go.RowKit
set_option linter.unusedVariables false
set_option linter.unusedSimpArgs false
end Go.Proofs.YtcfkllnpkmebpaaGreatDoor

namespace Go.Proofs.YtcfkllnpkmebpaaGreatDoor
open Go.RowKit
set_option linter.unusedVariables false
set_option linter.unusedSimpArgs false
end Go.Proofs.YtcfkllnpkmebpaaGreatDoor

namespace Go.Proofs.YtcfkllnpkmebpaaGreatDoor
open Go.RowKit
set_option linter.unusedVariables false
set_option linter.unusedSimpArgs false
def causL(r:Re) (v s:Int) (n:Nat):List Cau:=(List.range n).map fun i:Nat=>causeOf r v (i:Int) s
theorem causL_len(r:Re) (v s:Int) (n:Nat):(causL r v s n).length=n:=by unfold causL;simp
theorem causL_succ(r:Re) (v s:Int) (n:Nat):causL r v s (n+1)=causL r v s n++[causeOf r v (n:Int) s]:=by
 unfold causL;rw[List.range_succ,List.map_append]
 rfl
theorem incOf_eq(F:FltM) (r:Re) (lost:Bool) (v s KN KM:Nat) (hk:kOf F v=(KN:Int)) (hm:kOf F v+mOf F v=(KM:Int)):incOf F r lost (v,s)=⟨(v:Int),(s:Int),lost,(KN:Int),causL r (v:Int) (s:Int) KM⟩:=by
 unfold incOf causL
 dsimp only
 rw[hm,hk,Int.toNat_natCast]
structure IncT (W0:World) (g:Nat) (c0 c1 c2 c3:Value) (w:World) (cv:Value) (l:List Cau):Prop where
 hot:Below W0.heap.size W0 w
 row:w.heap[g]?=some (.cells #[c0,c1,c2,c3,cv] 27 (0,0))
 own:OwnCau w W0.heap.size cv l
 ge:W0.heap.size≤g
section
variable {W0 w w' : World} {g : Nat} {c0 c1 c2 c3 cv : Value} {l : List Cau}
theorem IncT.lt(h:IncT W0 g c0 c1 c2 c3 w cv l):g<w.heap.size:=(Array.getElem?_eq_some_iff.1 h.row).1
theorem IncT.below(h:IncT W0 g c0 c1 c2 c3 w cv l) (hb:Below w.heap.size w w'):IncT W0 g c0 c1 c2 c3 w' cv l :=
 ⟨h.hot.trans (hb.mono h.hot.size),(hb.block g h.lt).trans h.row,h.own.below hb,h.ge⟩
theorem IncT.cells(h:IncT W0 g c0 c1 c2 c3 w cv l):w.cell? ⟨g,4,none⟩=some cv∧w.frozen? ⟨g,4,none⟩=false∧g<w.heap.size :=
 ⟨by rw[cell_of_row _ _ _ _ _ _ h.row];rfl,frozen_of_row _ _ _ _ _ h.row,h.lt⟩
theorem IncT.grown(h:IncT W0 g c0 c1 c2 c3 w cv l) (hg:w.grownBy w' cv.ownBlock):Below W0.heap.size W0 w'∧w'.heap[g]?=some (.cells #[c0,c1,c2,c3,cv] 27 (0,0)) :=
 ⟨below_hotW h.hot (HotBy.grown (hot:=[cv.ownBlock]) hg (.inl (by simp))) (fun x hx=>(h.own.lt x (by simp at hx;exact hx.symm)).1),
  (hg.block g h.lt (fun e=>own_nty h.own h.row (by decide) e.symm)).trans h.row⟩
theorem IncT.push{cv':Value} {c:Cau} (h:IncT W0 g c0 c1 c2 c3 w cv l) (hg:w.grownBy w' cv.ownBlock) (hown:OwnCau w' W0.heap.size cv' (l++[c])):IncT W0 g c0 c1 c2 c3 (w'.setCell ⟨g,4,none⟩ cv') cv' (l++[c]):=by
 obtain⟨h1,h2⟩:=h.grown hg;have hh:HotBy [some g] w' (w'.setCell ⟨g,4,none⟩ cv'):=HotBy.setCell _ _ _ _ (by simp);refine⟨below_hotW h1 hh (fun x hx=>by simp at hx;rw[hx];exact h.ge),heap_setCell_same _ g 4 _ _ cv' h2,?_,h.ge⟩;exact own_hot hown hh (fun b hb e=>by simp at e;subst e;exact own_nty hown h2 (by decide) hb)
theorem IncT.all(h:IncT W0 g c0 c1 c2 c3 w cv l):w.rangeAt g 0 [c0,c1,c2,c3,cv]:=World.rangeAt_of_block h.row 0 5
end
end Go.Proofs.YtcfkllnpkmebpaaGreatDoor

namespace Go.Proofs.YtcfkllnpkmebpaaGreatDoor
open Go.RowKit
set_option linter.unusedVariables false
set_option linter.unusedSimpArgs false
theorem flatc_len:∀(l:List Cau),(l.flatMap cauC).length=l.length * 2
 | []=>rfl
 | x :: r=>by rw[List.flatMap_cons,List.length_append,flatc_len r,List.length_cons];show 2+_=_;omega
theorem flatc_at(l:List Cau) (j:Nat) (u:Value) (h:(l.flatMap cauC)[j]?=some u):∃(hk:j / 2<l.length),(cauC l[j / 2])[j % 2]?=some u:=by
 have hl:=(List.getElem?_eq_some_iff.1 h).1;rw[flatc_len] at hl
 have hk:j / 2<l.length:=by omega
 refine⟨hk,?_⟩
 have hj:j % 2<(cauC l[j / 2]).length:=by show j % 2<2;omega
 have:=flat_cau l (j / 2) l[j / 2] (List.getElem?_eq_getElem hk) (j % 2) _ (List.getElem?_eq_getElem hj);rw[show j / 2 * 2+j % 2=j by omega,h] at this;rw[List.getElem?_eq_getElem hj,←this]
theorem flatc_one(l:List Cau):∀u∈l.flatMap cauC,u.oneCell'=true:=fun u hu=>by
 obtain⟨c,-,hc⟩:=List.mem_flatMap.1 hu;unfold cauC at hc;simp at hc;rcases hc with rfl | rfl <;> rfl
end Go.Proofs.YtcfkllnpkmebpaaGreatDoor
