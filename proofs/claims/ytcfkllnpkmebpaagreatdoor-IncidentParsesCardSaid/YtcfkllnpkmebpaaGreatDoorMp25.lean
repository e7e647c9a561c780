/- Format undoes Parse: plain. -/
import Derived.Test.YtcfkllnpkmebpaaGreatDoorMp24
import Derived.Test.YtcfkllnpkmebpaaGreatDoorMp01
import Derived.Test.YtcfkllnpkmebpaaGreatDoorMp03
import Derived.Deep.MidRow
import Derived.Test.YtcfkllnpkmebpaaGreatDoorMp21
import Derived.Test.YtcfkllnpkmebpaaGreatDoorMp23
import Derived.Deep.CutRange
import Derived.Deep.AppendLies
set_option linter.unusedSectionVars false
set_option maxRecDepth 100000
set_option maxHeartbeats 12800000
namespace Go.Proofs.YtcfkllnpkmebpaaGreatDoor
open Go.RowKit
set_option linter.unusedVariables false
set_option linter.unusedSimpArgs false
theorem mac_nil(F:FltM):MacOk F []:=⟨fun i h=>(by simp at h),fun x h=>(by cases h),fun i h=>(by simp at h)⟩
theorem able_mk(F:FltM) (v s:Nat) (b:Bool):ableB F (mkI F v s b)=possB 0 0 (kOf F v+mOf F v) (kOf F v) b:=by
 unfold ableB;show possB 0 0 (kOf F ((v:Int).toNat)+mOf F ((v:Int).toNat) - ((0:Nat):Int)) (kOf F v) b=_;rw[Int.toNat_natCast];simp
theorem poss_head{K M:Int} (hk:1≤K) (hm:0≤M) (b:Bool):possB 0 0 (K+M) K b=true:=by
 unfold possB;rw[if_neg (by omega)]
 cases b with
 | true=>rw[if_pos rfl,decide_eq_true_eq];omega
 | false=>rw[if_neg (by decide),Bool.or_eq_true,decide_eq_true_eq,decide_eq_true_eq];right;omega
theorem bang_snoc_lt{L:List Inc} {x:Inc} {i:Nat} (h:i<L.length):(L++[x])[i]! = L[i]! := by
 rw[getBang (show i<(L++[x]).length by simp;omega),getBang h,List.getElem_append_left h]
theorem bang_snoc{L:List Inc} {x:Inc}:(L++[x])[L.length]! = x:=by
 rw[getBang (show L.length<(L++[x]).length by simp)];simp
theorem fmt_snoc(F:FltM) (L:List Inc) (x:Inc):fmtT F (L++[x])=fmtT F L++incT F x:=by
 unfold fmtT;rw[List.flatMap_append];simp
theorem snoc_last{L:List Inc} (h:L≠[]):∃L0 x,L=L0++[x]:=⟨L.dropLast,L.getLast h,(List.dropLast_concat_getLast h).symm⟩
section
variable {N : Nat} {F : FltM} (hok : FleetOk N F) (hN : N ≤ 12)
include hok hN
theorem step_mac(hkm:∀v,v<F.vols.length→1≤kOf F v∧0≤mOf F v) {L L':List Inc} {t:List UInt8} (hm:MacOk F L) (h:stepP F L t=some L'):MacOk F L'∧fmtT F L'=fmtT F L++(t++[10]):=by
 unfold stepP at h;by_cases hl:leftOf F L=0
 ·rw[if_pos hl] at h
  cases hh:headOf F t with
  | none=>rw[hh] at h;cases h
  | some x =>
   rw[hh] at h
   dsimp only at h
   obtain⟨hx,hxt⟩:=headOf_spec hh;obtain⟨v,s,b,hv,hs,rfl⟩:=headC_mem.1 hx;split at h
   ·rename_i ho
    injection h with h;subst h;refine⟨⟨fun i hi=>?_,fun y hy=>?_,fun i hi=>?_⟩,?_⟩
    ·rw[List.length_append,List.length_singleton] at hi;unfold ordAt;by_cases h0:i=0
     ·rw[decide_eq_true h0];rfl
     ·rw[decide_eq_false h0,Bool.false_or];rcases Nat.lt_or_ge i L.length with h1 | h1
      ·have h2:=hm.ord i h1;unfold ordAt at h2;rw[decide_eq_false h0,Bool.false_or] at h2;rw[bang_snoc_lt h1,bang_snoc_lt (by omega)];exact h2
      ·have e:i=L.length:=by omega
       subst e;rw[bang_snoc,bang_snoc_lt (by omega)];rcases ho with h2 | h2
       ·exact absurd (by rw[h2];rfl) h0
       ·exact h2
    ·rcases List.mem_append.1 hy with h1 | h1
     ·exact hm.str y h1
     ·rw[List.mem_singleton.1 h1];obtain⟨k1,k2⟩:=hkm v hv;refine⟨?_,?_,fun c hc=>(by cases hc),?_⟩
      ·rw[isStr_iff];show(0≤(v:Int)∧(v:Int)<(F.vols.length:Int))∧(0≤(s:Int)∧(s:Int)<F.ext);have:=hok.ext;omega
      ·show kOf F v=kOf F ((v:Int).toNat)
       rw[Int.toNat_natCast]
      ·rw[able_mk];exact poss_head k1 k2 b
    ·rw[List.length_append,List.length_singleton] at hi;rw[bang_snoc_lt (by omega)];rcases Nat.lt_or_ge (i+1) L.length with h1 | h1
     ·exact hm.full i h1
     ·have e:i=L.length - 1:=by omega
      have h0:L≠[]:=by intro e2;subst e2;simp at hi
      unfold leftOf at hl;rw[if_neg h0] at hl;rw[e];exact hl
    ·rw[fmt_snoc]
     congr 1
     unfold incT;rw[←hxt];unfold headF mkI;simp[linesT]
   ·cases h
 ·rw[if_neg hl] at h
  have h0:L≠[]:=by
   intro e;unfold leftOf at hl;rw[if_pos e] at hl;exact hl rfl
  obtain⟨L0,x,rfl⟩:=snoc_last h0;rw[last_snoc] at h;rw[left_snoc] at hl
  cases hh:causeIs F x.causes.length t with
  | none=>rw[hh] at h;cases h
  | some c =>
   rw[hh] at h
   dsimp only at h
   obtain⟨hc,hct⟩:=causeIs_spec hh;split at h
   ·rename_i ha
    rw[set_snoc] at h;injection h with h;subst h;have hxm:=hm.str x (List.mem_append_right _ (List.mem_singleton.2 rfl));refine⟨⟨fun i hi=>?_,fun y hy=>?_,fun i hi=>?_⟩,?_⟩
    ·rw[List.length_append,List.length_singleton] at hi;have h2:=hm.ord i (by simp;omega);unfold ordAt at h2 ⊢;by_cases h0:i=0
     ·rw[decide_eq_true h0];rfl
     ·rw[decide_eq_false h0,Bool.false_or] at h2 ⊢;rcases Nat.lt_or_ge i L0.length with h1 | h1
      ·rw[bang_snoc_lt h1,bang_snoc_lt (by omega)] at h2 ⊢;exact h2
      ·have e:i=L0.length:=by omega
       subst e;rw[bang_snoc,bang_snoc_lt (by omega)] at h2 ⊢;exact h2
    ·rcases List.mem_append.1 hy with h1 | h1
     ·exact hm.str y (List.mem_append_left _ h1)
     ·rw[List.mem_singleton.1 h1];refine⟨hxm.1,hxm.2.1,fun d hd=>?_,ha⟩;rcases List.mem_append.1 (show d∈x.causes++[c] from hd) with h2 | h2
      ·exact hxm.2.2.1 d h2
      ·rw[List.mem_singleton.1 h2];exact causeC_ok.1 hc
    ·rw[List.length_append,List.length_singleton] at hi;have h2:=hm.full i (by simp;omega);rw[bang_snoc_lt (by omega)] at h2 ⊢;exact h2
    ·rw[fmt_snoc,fmt_snoc,List.append_assoc]
     congr 1
     unfold incT withC;simp only;rw[linesT_snoc,Nat.zero_add,←hct];unfold lineF;simp
   ·cases h
end
end Go.Proofs.YtcfkllnpkmebpaaGreatDoor

namespace Go.Proofs.YtcfkllnpkmebpaaGreatDoor
open Go.RowKit
set_option linter.unusedVariables false
set_option linter.unusedSimpArgs false
theorem pre_eq(S T:ByteArray) (h:T.size≤S.size):((S.extract 0 T.size).toList==T.toList)=T.data.toList.isPrefixOf S.data.toList:=by
 rw[Bool.eq_iff_iff,beq_iff_eq,ByteArray.toList_eq,ByteArray.toList_eq,ext_list _ _ _ h,List.isPrefixOf_iff_prefix,List.drop_zero,Nat.sub_zero];have hl:T.data.toList.length=T.size:=Array.length_toList
 constructor
 ·intro e;rw[←e];exact List.take_prefix _ _
 ·rintro ⟨r,hr⟩;rw[←hr,←hl,List.take_left]
theorem pre_long(S T:ByteArray) (h:¬T.size≤S.size):T.data.toList.isPrefixOf S.data.toList=false:=by
 rw[Bool.eq_false_iff,ne_eq,List.isPrefixOf_iff_prefix];intro e;have:=e.length_le;rw[Array.length_toList,Array.length_toList] at this;exact h this
theorem begins_any(S T:ByteArray) (w:World) (hs:S.size≤1000000000):Calls Tryz.prog 106 #[.string S,.string T] w fun e w'=>e=.returned (.bool (T.data.toList.isPrefixOf S.data.toList))∧w=w':=by
 obtain⟨R,hR⟩:=zx (T.data.toList.isPrefixOf S.data.toList);rw[←hR];by_cases h:T.size≤S.size
 ·have t1:decide ((T.size:Int)≤(S.size:Int))=true:=decide_eq_true (by omega);have hq:=pre_eq S T h;rw[←hR] at hq
  have c1:(0:Int)≤(T.size:Int):=by omega
  have c2:(T.size:Int)≤(S.size:Int):=by omega
  have c3:(S.size:Int)≤1000000000:=by omega
  clear hR h hs;go_enter Tryz.func106,Tryz.ntmps106;go_wp2_with fail;go_ret;exact⟨rfl,rfl⟩
 ·have t1:decide ((T.size:Int)≤(S.size:Int))=false:=decide_eq_false (by omega);have HR:=zh (show R=false by rw[hR];exact pre_long S T h);have t2:decide (T.size≤S.size)=false:=decide_eq_false h;clear hR hs;go_enter Tryz.func106,Tryz.ntmps106;go_wp2_with fail;go_ret;exact⟨ret_b HR.out.symm,rfl⟩
theorem sum_next{xc:List Cau} {j:Nat} (h:j<xc.length):sumG (xc.take (j+1))=sumG (xc.take j)+addG xc[j].state∧sumA (xc.take (j+1))=sumA (xc.take j)+addA xc[j].state:=⟨takeG h,takeA h⟩
theorem rcount_any(xv xs xn:Int) (xl:Bool) (Ax:Option Addr) (CN cx:Nat) (xc:List Cau) (w:World) (hcn:CN=xc.length) (hsl:SlS 2 CauK w (Bl w.heap.size) (.slice Ax CN cx) xc) (hcl:CN≤1000) (hst:∀c∈xc,1≤c.state) :
  Calls Tryz.prog 148 #[.agg #[.int .i64 xv,.int .i64 xs,.bool xl,.int .i64 xn,.slice Ax CN cx]] w fun e w'=>e=.returned (.tuple #[.int .i64 (sumG xc),.int .i64 (sumG xc+sumA xc)])∧Below w.heap.size w w':=by
 obtain⟨W0,hW0⟩:=zx (w.alloc (.cells #[.int .i64 xv,.int .i64 xs,.bool xl,.int .i64 xn,.slice Ax CN cx] 27));obtain⟨y,hy⟩:=zx w.heap.size
 have hb0:Below w.heap.size w W0:=by rw[hW0];exact(Below.refl _ _).alloc (Nat.le_refl _) _
 have hyk:W0.heap[y]?=some (.cells #[.int .i64 xv,.int .i64 xs,.bool xl,.int .i64 xn,.slice Ax CN cx] 27 (0,0)):=by rw[hW0,hy];exact heap_alloc_new w _
 obtain⟨x0,x1,x2,x3,x4⟩:=cells5 hyk;have HX4:=zh x4;have HSL:=zh (show SlS 2 CauK W0 (Bl w.heap.size) (.slice Ax CN cx) xc from SlS.keep cauK hsl (fun b h=>hb0.block b h));obtain⟨RG,hRG⟩:=zx (sumG xc);obtain⟨RA,hRA⟩:=zx (sumA xc);rw[←hRG,←hRA];have HR:=zh (And.intro hRG hRA);have HW0:=zh hW0;have HY:=zh hy;have HB0:=zh hb0;have HCN:=zh hcn;have HST:=zh hst;clear hW0 hy hb0 hyk hcn hsl hRG hRA x0 x1 x2 x3 x4 hst;go_enter Tryz.func148,Tryz.ntmps148;go_upto_region 1 with fail;rw[←HW0.out,←HY.out];go_wp2_with fail;go_loopg [4,5,6] CN (fun z v4 v5 v6 wr=>∃(j:Nat) (a b:Int),v6=.int .i64 (j:Int)∧v4=.int .i64 a∧v5=.int .i64 b∧j≤CN∧z=CN - j∧W0=wr∧Hid (a=sumG (xc.take j)∧b=sumG (xc.take j)+sumA (xc.take j))∧Hid ((0≤a∧a≤1000)∧(0≤b∧b≤2000)))
 case atStart=>exact⟨0,0,0,rfl,rfl,rfl,Nat.zero_le _,rfl,rfl,zh ⟨rfl,rfl⟩,zh (by omega)⟩
 case round =>
  obtain⟨j,a,b,rfl,rfl,rfl,hj,rfl,rfl,HAB,HBD⟩:=hrel;have x4:=HX4.out;by_cases hlt:j<CN
  ·have HLT:=zh hlt
   have hjl:j<xc.length:=by rw[←HCN.out];exact hlt
   obtain⟨p,off,cs,hA,-,-,hc,hcs⟩:=HSL.out.at_ (k:=j) hjl;subst hA;obtain⟨e0,e1⟩:=two_cau hc hcs;have hsn:=sum_next hjl;have hs1:=HST.out _ (List.getElem_mem hjl);generalize xc[j]=c at *;obtain⟨st,dr⟩:=c;simp only at e0 e1 hsn hs1
   have HBD2:=zh (show(0≤a∧a≤j)∧(0≤b∧b≤2 * j) from by
    have h1:=sumG_bd (xc.take j);have h2:=sumA_bd (xc.take j);rw[List.length_take] at h1 h2;have h3:=HAB.out
    omega)
   have b1:(a:Int)≤1000:=HBD.out.1.2;have b2:(0:Int)≤a:=HBD.out.1.1;have b3:(b:Int)≤2000:=HBD.out.2.2;have b4:(0:Int)≤b:=HBD.out.2.1;have HSN:=zh hsn
   have hjc:(j:Int)<(CN:Int):=by omega
   clear hc hcs hjl hsn;by_cases h1:st=1
   ·have t1:(st==1)=true:=by simpa using h1
    have t2:decide (st≤2)=true:=decide_eq_true (by omega)
    have HNX:=zh (show a+1=sumG (xc.take (j+1))∧b+1=sumG (xc.take (j+1))+sumA (xc.take (j+1)) from by
     have h3:=HAB.out;have h4:=HSN.out;rw[h1] at h4;have h5:addG 1=1:=rfl;have h6:addA 1=0:=rfl
     omega)
    clear h1;go_wp2_with fail;go_roundg (CN - (j+1))
    case measure=>have:=HLT.out;omega
    case rel=>exact⟨j+1,a+1,b+1,by go_num,by go_num,by go_num,by have:=HLT.out;omega,rfl,rfl,HNX,zh (by have:=HBD2.out;omega)⟩
   ·have t1:(st==1)=false:=by simpa using h1
    by_cases h2:st=2
    ·have t2:decide (st≤2)=true:=decide_eq_true (by omega)
     have HNX:=zh (show a=sumG (xc.take (j+1))∧b+1=sumG (xc.take (j+1))+sumA (xc.take (j+1)) from by
      have h3:=HAB.out;have h4:=HSN.out;rw[h2] at h4;have h5:addG 2=0:=rfl;have h6:addA 2=1:=rfl
      omega)
     clear h1 h2;go_wp2_with fail;go_roundg (CN - (j+1))
     case measure=>have:=HLT.out;omega
     case rel=>exact⟨j+1,a,b+1,by go_num,rfl,by go_num,by have:=HLT.out;omega,rfl,rfl,HNX,zh (by have:=HBD2.out;have:=HLT.out;omega)⟩
    ·have t2:decide (st≤2)=false:=decide_eq_false (by omega)
     have HNX:=zh (show a=sumG (xc.take (j+1))∧b=sumG (xc.take (j+1))+sumA (xc.take (j+1)) from by
      have h3:=HAB.out;have h4:=HSN.out
      have h5:addG st=0:=by unfold addG;rw[if_neg h1]
      have h6:addA st=0:=by unfold addA;rw[if_neg h2]
      omega)
     clear h1 h2;go_wp2_with fail;go_roundg (CN - (j+1))
     case measure=>have:=HLT.out;omega
     case rel=>exact⟨j+1,a,b,by go_num,rfl,rfl,by have:=HLT.out;omega,rfl,rfl,HNX,zh (by have:=HBD2.out;have:=HLT.out;omega)⟩
  ·have hfin:a=RG∧b=RG+RA:=by
    have h1:=HAB.out;rw[List.take_of_length_le (by rw[←HCN.out];omega)] at h1;rw[HR.out.1,HR.out.2];exact h1
   have HF:=zh hfin;clear hfin;go_wp2_with fail;go_ret2;exact⟨by show Ending.returned (.tuple #[.int .i64 a,.int .i64 b])=_;rw[HF.out.1,HF.out.2],HB0.out⟩
def causeTo(d k:Nat):List Cau:=(⟨4,-1⟩ :: (List.range d).flatMap fun d:Nat=>[⟨1,(d:Int)⟩,⟨2,(d:Int)⟩,⟨3,(d:Int)⟩])++(List.range k).map fun j:Nat=>⟨(j:Int)+1,(d:Int)⟩
theorem causeTo_succ(d k:Nat):causeTo d (k+1)=causeTo d k++[⟨(k:Int)+1,(d:Int)⟩]:=by
 unfold causeTo;rw[List.range_succ,List.map_append,List.append_assoc]
 rfl
theorem causeTo_next(d:Nat):causeTo d 3=causeTo (d+1) 0:=by
 unfold causeTo;rw[List.range_succ (n:=d),List.flatMap_append];simp[List.range_succ]
theorem causeTo_all(F:FltM):causeTo F.dves.length 0=causeC F:=by
 unfold causeTo causeC;simp
theorem causeTo_len(d k:Nat):(causeTo d k).length=1+3 * d+k:=by
 unfold causeTo;rw[List.length_append,List.length_map,List.length_range,List.length_cons]
 have:((List.range d).flatMap fun d:Nat=>([⟨1,(d:Int)⟩,⟨2,(d:Int)⟩,⟨3,(d:Int)⟩]:List Cau)).length=3 * d:=by
  induction d with
  | zero=>rfl
  | succ d ih=>rw[List.range_succ,List.flatMap_append,List.length_append,ih];simp;omega
 rw[this];omega
theorem causes_any(x0 x1 x2 x3 x5 x6:Value) (Ad:Option Addr) (ND cd:Nat) (w:World) (hnd:ND≤1000) :
  Calls Tryz.prog 105 #[.agg #[x0,x1,x2,x3,.slice Ad ND cd,x5,x6]] w fun e w'=>∃v,e=.returned v∧OwnCau w' w.heap.size v (causeTo ND 0)∧Below w.heap.size w w':=by
 obtain⟨W0,hW0⟩:=zx (w.alloc (.cells #[x0,x1,x2,x3,.slice Ad ND cd,x5,x6] 35));obtain⟨z,hz⟩:=zx w.heap.size
 have hb0:Below w.heap.size w W0:=by rw[hW0];exact(Below.refl _ _).alloc (Nat.le_refl _) _
 have hzk:W0.heap[z]?=some (.cells #[x0,x1,x2,x3,.slice Ad ND cd,x5,x6] 35 (0,0)):=by rw[hW0,hz];exact heap_alloc_new w _
 have hzl:z<W0.heap.size:=(Array.getElem?_eq_some_iff.1 hzk).1;have HC:=zh (fun(w':World) (hb:Below W0.heap.size W0 w')=>(show w'.cell? ⟨z,4,none⟩=some (.slice Ad ND cd) from by rw[cell_of_row _ _ _ _ _ _ ((hb.block z hzl).trans hzk)];rfl));obtain⟨W1,hW1⟩:=zx (W0.alloc (.cells #[.int .i64 4,.int .i64 (-1)] 102));obtain⟨g,hg⟩:=zx W0.heap.size
 have hb1:Below W0.heap.size W0 W1:=by rw[hW1];exact(Below.refl _ _).alloc (Nat.le_refl _) _
 have hown:OwnCau W1 W0.heap.size (.slice (some ⟨g,0,none⟩) 1 1) (causeTo 0 0):=by
  rw[hW1,hg];exact World.ownsRow_lit W0 #[.int .i64 4,.int .i64 (-1)] 1 (Nat.le_refl _) (by unfold maxLen;omega) rfl
 have HW0:=zh hW0;have HZ:=zh hz;have HB0:=zh hb0;have HW1:=zh hW1;have HG:=zh hg;have HB1:=zh hb1;have HOW:=zh hown;clear hW0 hz hb0 hzk hzl hW1 hg hb1 hown;go_enter Tryz.func105,Tryz.ntmps105;go_upto_region 1 with fail;rw[←HW0.out,←HZ.out];go_upto_region 2 with fail;rw[←HW1.out,←HG.out];go_wp2_with fail;go_loopg [3,4] ND (fun z v3 v4 wr=>∃(d:Nat) (va:Value),va=v3∧v4=.int .i64 (d:Int)∧d≤ND∧z=ND - d∧Hid (OwnCau wr W0.heap.size va (causeTo d 0))∧Hid (Below W0.heap.size W0 wr))
 case atStart=>exact⟨0,_,rfl,rfl,Nat.zero_le _,rfl,HOW,HB1⟩
 case round =>
  obtain⟨d,va,rfl,rfl,hd,rfl,HO,HB⟩:=hrel;have c4:=HC.out wr HB.out;by_cases hlt:d<ND
  ·have HLT:=zh hlt;go_wp2_with fail;clear c4;obtain⟨wo,rfl⟩:=zx (wr:World);go_loopg [3,5] 3 (fun z v3 v5 wr=>∃(k:Nat) (vb:Value),vb=v3∧v5=.int .i64 ((k:Int)+1)∧k≤3∧z=3 - k∧Hid (OwnCau wr W0.heap.size vb (causeTo d k))∧Hid (Below W0.heap.size W0 wr))
   case atStart=>exact⟨0,_,rfl,rfl,Nat.zero_le _,rfl,HO,HB⟩
   case round =>
    obtain⟨k,vb,rfl,rfl,hk,rfl,HO2,HB2⟩:=hrel;by_cases hlk:k<3
    ·have HLK:=zh hlk;have t1:decide ((k:Int)+1≤3)=true:=decide_eq_true (by omega);have hlen:=causeTo_len d k;have HLEN:=zh hlen;clear hlen;go_wp2_with (at_builtin;refine app_cau ⟨(k:Int)+1,(d:Int)⟩ _ _ rfl rfl W0.heap.size _ (causeTo d k).length (causeTo d k) rfl rfl HO2.out rfl (by have:=HLEN.out;have:=HLT.out;have:=HLK.out;omega) HB2.out.size ?_);intro v' w' how hgr hat;have HO3:=zh how;have HB3:=zh (HB2.out.grown hgr HB2.out.size (fun b hb=>(HO2.out.lt b hb).1));clear how hgr hat;go_wp2_with fail;go_roundg (3 - (k+1))
     case measure=>have:=HLK.out;omega
     case rel=>exact⟨k+1,_,rfl,by go_num,by have:=HLK.out;omega,rfl,zh (by rw[causeTo_succ];exact HO3.out),HB3⟩
    ·have hk3:k=3:=by omega
     subst hk3;go_wp2_with fail;go_roundg (ND - (d+1))
     case measure=>have:=HLT.out;omega
     case rel=>exact⟨d+1,_,rfl,by go_num,by have:=HLT.out;omega,rfl,zh (by rw[←causeTo_next];exact HO2.out),HB2⟩
  ·have hdn:d=ND:=by omega
   subst hdn;go_wp2_with fail;go_ret;exact⟨_,rfl,HO.out.base HB0.out.size,HB0.out.trans (HB.out.mono HB0.out.size)⟩
end Go.Proofs.YtcfkllnpkmebpaaGreatDoor

namespace Go.Proofs.YtcfkllnpkmebpaaGreatDoor
open Go.RowKit Go.Shelf
set_option linter.unusedVariables false
set_option linter.unusedSimpArgs false
theorem rpol_f{N:Nat} {vl vm vd vv vp vo:Value} {F:FltM} {w:World} (hf:FleetS w (Bl w.heap.size) vl vm vd vv vp vo F) (hok:FleetOk N F) (hN:N≤12) {v:Nat} (hv:v<F.vols.length) :
  Calls Tryz.prog 40 #[.agg #[.int .i64 F.ext,vl,vm,vd,vv,vp,vo],.int .i64 (v:Int)] w fun e w'=>(∃a0 a4 a5 a6 a7 a8 a9 a10 a11 a12 a13 a14 a15 a16 q:Value,e=.returned (.agg #[a0,.int .i64 (kOf F v),.int .i64 (mOf F v),q,a4,a5,a6,a7,a8,a9,a10,a11,a12,a13,a14,a15,a16])∧(#[a0,.int .i64 (kOf F v),.int .i64 (mOf F v),q,a4,a5,a6,a7,a8,a9,a10,a11,a12,a13,a14,a15,a16]:Array Value).all (·.oneCell')=true)∧Below w.heap.size w w':=by
 obtain⟨pb,pof,ob,oof,cp,co,rfl,rfl,hRp,hRo,hPA⟩:=polAt hf hok;obtain⟨hp,nm,hvol,a0,a4,a5,a6,a7,a8,a9,a10,a11,a12,a13,a14,a15,a16,hpol,hone⟩:=hPA v hv;have h1:=hok.volN;have h2:=hok.polN
 exact(rpolicy44_any F.ext (kOf F v) (mOf F v) (qOf F v) vl vm vd vv a0 a4 a5 a6 a7 a8 a9 a10 a11 a12 a13 a14 a15 a16 nm pb pof ob oof F.pols.length F.vols.length cp co v (volP F v) w hv hp (by omega) (by omega) hvol hpol hone).mono fun e w' h=>⟨⟨a0,a4,a5,a6,a7,a8,a9,a10,a11,a12,a13,a14,a15,a16,_,h.1,hone⟩,h.2⟩
def headN(F:FltM) (x:Inc):ByteArray:=⟨(headF F x++[10]).toArray⟩
def lineN(F:FltM) (i:Nat) (c:Cau):ByteArray:=⟨(lineF F i c++[10]).toArray⟩
theorem rhead_f{N:Nat} {vl vm vd vv vp vo:Value} {F:FltM} {w:World} (hf:FleetS w (Bl w.heap.size) vl vm vd vv vp vo F) (hok:FleetOk N F) (hN:N≤12) {x:Inc} (hx:x∈headC F) (vc:Value) :
  Calls Tryz.prog 46 #[.agg #[.int .i64 F.ext,vl,vm,vd,vv,vp,vo],.agg #[.int .i64 x.vol,.int .i64 x.stripe,.bool x.lost,.int .i64 x.need,vc]] w fun e w'=>e=.returned (.string (headN F x))∧Below w.heap.size w w':=by
 obtain⟨pb,pof,ob,oof,cp,co,rfl,rfl,hRp,hRo,hPA⟩:=polAt hf hok;obtain⟨v,s,b,hv,hs,rfl⟩:=headC_mem.1 hx;have h1:=hok.volN;have h2:=hok.ext;obtain⟨k1,-,-,-,-⟩:=kmq_ok hok hv;obtain⟨K,hK⟩:∃K:Nat,kOf F v=(K:Int):=⟨(kOf F v).toNat,by omega⟩;obtain⟨hc,hsz⟩:=vol_name hf hok hv;unfold headN headF mkI;simp only[Int.toNat_natCast];rw[hK,Int.toNat_natCast];exact rhead_any b F.ext vl vm vd vv (.slice (some ⟨pb,pof,none⟩) F.pols.length cp) vc ob oof F.vols.length co v s K (nmOf F v) w hv (by omega) (by omega) (by omega) (by omega) hc
theorem rline_f{N:Nat} {vl vm vd vp vo:Value} {Ad:Option Addr} {cd:Nat} {F:FltM} {w:World} (hf:FleetS w (Bl w.heap.size) vl vm vd (.slice Ad F.dves.length cd) vp vo F) (hok:FleetOk N F) (i:Nat) (hi:i<100) (x0:Value) (c:Cau) (hc:c∈causeC F) :
  Calls Tryz.prog 47 #[.agg #[x0,vl,vm,vd,.slice Ad F.dves.length cd,vp,vo],.int .i64 (i:Int),.agg #[.int .i64 c.state,.int .i64 c.drive]] w fun e w'=>e=.returned (.string (lineN F i c))∧Below w.heap.size w w':=by
 obtain⟨h1,h2,h3⟩:=cau_parts (causeC_ok.1 hc);refine rline_any i c.state c.drive (dnOf F c.drive.toNat) x0 vl vm vd vp vo Ad F.dves.length cd w hi h1 (by have:=hok.dveN;omega) (by have:=dn_len hok c.drive.toNat;omega) (fun h4=>?_);obtain⟨h5,h6⟩:=h2 h4;obtain⟨⟨b,off,e1,e2,e3⟩,-⟩:=drv_name hf hok (d:=c.drive.toNat) (by omega);exact⟨h5,h6,b,off,e1,e2,e3⟩
theorem able_any(N:Nat) (hN:N≤12) (vl vm vd vv vp vo:Value) (F:FltM) (v:Nat) (xs:Int) (xl:Bool) (Ax:Option Addr) (CN cx:Nat) (xc:List Cau) (w:World) (hf:FleetS w (Bl w.heap.size) vl vm vd vv vp vo F) (hok:FleetOk N F) (hv:v<F.vols.length)
  (hcn:CN=xc.length) (hsl:SlS 2 CauK w (Bl w.heap.size) (.slice Ax CN cx) xc) (hst:∀c∈xc,1≤c.state) (hlk:(CN:Int)≤kOf F v+mOf F v) :
  Calls Tryz.prog 107 #[.agg #[.int .i64 F.ext,vl,vm,vd,vv,vp,vo],.agg #[.int .i64 (v:Int),.int .i64 xs,.bool xl,.int .i64 (kOf F v),.slice Ax CN cx]] w fun e w'=>e=.returned (.bool (ableB F ⟨(v:Int),xs,xl,kOf F v,xc⟩))∧Below w.heap.size w w':=by
 obtain⟨km1,km2,km3,-,-⟩:=kmq_ok hok hv;obtain⟨W0,hW0⟩:=zx ((w.alloc (.cells #[.int .i64 F.ext,vl,vm,vd,vv,vp,vo] 35)).alloc (.cells #[.int .i64 (v:Int),.int .i64 xs,.bool xl,.int .i64 (kOf F v),.slice Ax CN cx] 27));obtain⟨z,hz⟩:=zx w.heap.size;obtain⟨y,hy⟩:=zx (w.heap.size+1)
 have hb0:Below w.heap.size w W0:=by rw[hW0];exact((Below.refl _ _).alloc (Nat.le_refl _) _).alloc (by simp) _
 have hyk:W0.heap[y]?=some (.cells #[.int .i64 (v:Int),.int .i64 xs,.bool xl,.int .i64 (kOf F v),.slice Ax CN cx] 27 (0,0)):=by
  rw[hW0];exact heap_alloc_at _ _ _ (by rw[hy];simp)
 have hzk:W0.heap[z]?=some (.cells #[.int .i64 F.ext,vl,vm,vd,vv,vp,vo] 35 (0,0)):=by
  rw[hW0,hz];exact(Below.heap_alloc _ _ _ (by simp)).trans (heap_alloc_new w _)
 have hyl:y<W0.heap.size:=(Array.getElem?_eq_some_iff.1 hyk).1;have HX:=zh (fun(w':World) (hb:Below W0.heap.size W0 w')=>cells5 ((hb.block y hyl).trans hyk));have HPO:=zh (rpol_f (hf.below hb0) hok hN hv);have HCT:=zh (fun(w':World) (hb:Below W0.heap.size W0 w')=>rcount_any (v:Int) xs (kOf F v) xl Ax CN cx xc w' hcn (SlS.mono cauK (SlS.keep cauK hsl (fun b h=>(hb0.trans (hb.mono hb0.size)).block b h)) (fun b h=>Nat.lt_of_lt_of_le h (Nat.le_trans hb0.size hb.size))) (by omega) hst);have hg0:=sumG_bd xc;have ha0:=sumA_bd xc
 have hge:ableB F ⟨(v:Int),xs,xl,kOf F v,xc⟩=possB (sumG xc) (sumA xc) (kOf F v+mOf F v - (CN:Int)) (kOf F v) xl:=by
  unfold ableB lackI;simp only[Int.toNat_natCast];rw[hcn]
 rw[←hcn] at hg0 ha0;rw[hge];obtain⟨KN,hKN⟩:=zx (kOf F v);obtain⟨MM,hMM⟩:=zx (mOf F v);obtain⟨SG,hSG⟩:=zx (sumG xc);obtain⟨SA,hSA⟩:=zx (sumA xc);obtain⟨EX,hEX⟩:=zx F.ext;rw[←hKN] at km1 hlk hW0 HX HPO HCT ⊢;rw[←hMM] at km2 km3 hlk HPO ⊢;rw[←hSG] at hg0 HCT ⊢;rw[←hSA] at ha0 HCT ⊢;rw[←hEX] at hW0 HPO ⊢;obtain⟨R,hR⟩:=zx (possB SG SA (KN+MM - (CN:Int)) KN xl);rw[←hR];have HR:=zh hR;have HRE:=zh (fun(w':World) (hb:Below W0.heap.size W0 w')=>hb0.trans (hb.mono hb0.size));have HW0:=zh hW0;have HZ:=zh (And.intro hz hy);have hkm:IntKind.i64.wrap (KN+MM)=KN+MM:=IntWalk.i64_in _ (by omega);have hlf:IntKind.i64.wrap (KN+MM - (CN:Int))=KN+MM - (CN:Int):=IntWalk.i64_in _ (by omega);obtain⟨LF,hLF⟩:=zx (KN+MM - (CN:Int));rw[←hLF] at hlf HR;have HLFE:=zh hLF;have hsm:IntKind.i64.wrap (SG+SA+LF)=SG+SA+LF:=IntWalk.i64_in _ (by omega);have hsm2:wrap64 (SG+SA+LF)=SG+SA+LF:=IntWalk.wrap64_in _ (by omega);have HLF:=zh (show 0≤LF by omega);have HSA:=zh ha0;obtain⟨c0,c1,c2,c3,c4,c5,c6⟩:=cells7 hzk;obtain⟨x0,x1,x2,x3,x4⟩:=HX.out W0 (Below.refl _ _);have HB0:=zh (Below.refl W0.heap.size W0);rw[←hEX] at c0;clear hW0 hz hy hb0 hyk hzk hyl hf hok hsl hcn hst hge hKN hMM hSG hSA hEX hR hLF;go_enter Tryz.func107,Tryz.ntmps107;go_upto_region 1 with fail;rw[←HW0.out,←HZ.out.2,←HZ.out.1];go_wp2_with fail;refine HPO.out.mono ?_;rintro e w5 ⟨⟨a0,a4,a5,a6,a7,a8,a9,a10,a11,a12,a13,a14,a15,a16,QQ,rfl,hone⟩,hb5⟩;have HON:=zh hone;have HB5:=zh hb5;have HTH:=zh (show(w5.alloc (.cells #[.string ⟨#[]⟩,.int .i64 0,.int .i64 0,.int .i64 0,.int .i64 0,.int .i64 0,.int .i64 0,.int .i64 0,.int .i64 0,.slice none 0 0,.slice none 0 0,.bool false,.slice none 0 0,.slice none 0 0,.bool false,.slice none 0 0,.slice none 0 0] 85)).there w5.heap.size 0 17 from there_of_block (w:=w5.alloc (.cells #[.string ⟨#[]⟩,.int .i64 0,.int .i64 0,.int .i64 0,.int .i64 0,.int .i64 0,.int .i64 0,.int .i64 0,.int .i64 0,.slice none 0 0,.slice none 0 0,.bool false,.slice none 0 0,.slice none 0 0,.bool false,.slice none 0 0,.slice none 0 0] 85)) (cs:=#[.string ⟨#[]⟩,.int .i64 0,.int .i64 0,.int .i64 0,.int .i64 0,.int .i64 0,.int .i64 0,.int .i64 0,.int .i64 0,.slice none 0 0,.slice none 0 0,.bool false,.slice none 0 0,.slice none 0 0,.bool false,.slice none 0 0,.slice none 0 0]) (heap_alloc_new w5 _) (Nat.le_refl 17));clear hb5 hone c0 c1 c2 c3 c4 c5 c6 x0 x1 x2 x3 x4;go_upto_region 2 with (refine wpList_store_mid rfl 85 (.tmp 5) (.tmp 12) rfl w5.heap.size 0 #[a0,.int .i64 KN,.int .i64 MM,QQ,a4,a5,a6,a7,a8,a9,a10,a11,a12,a13,a14,a15,a16] (by rfl) (by rfl) HTH.out size_pol HON.out ?_);obtain⟨W8,hW8⟩:=zx (World.setCells (w5.alloc (.cells #[.string ⟨#[]⟩,.int .i64 0,.int .i64 0,.int .i64 0,.int .i64 0,.int .i64 0,.int .i64 0,.int .i64 0,.int .i64 0,.slice none 0 0,.slice none 0 0,.bool false,.slice none 0 0,.slice none 0 0,.bool false,.slice none 0 0,.slice none 0 0] 85)) w5.heap.size 0 [a0,.int .i64 KN,.int .i64 MM,QQ,a4,a5,a6,a7,a8,a9,a10,a11,a12,a13,a14,a15,a16]);obtain⟨gp,hgp⟩:=zx w5.heap.size
 have hb8:Below w5.heap.size w5 W8:=by rw[hW8];exact below_setCellsV (Nat.le_refl _) _ _ _ ((Below.refl _ _).alloc (Nat.le_refl _) _)
 have hgr:W8.rangeAt gp 0 [a0,.int .i64 KN,.int .i64 MM,QQ,a4,a5,a6,a7,a8,a9,a10,a11,a12,a13,a14,a15,a16]:=by rw[hW8,hgp];exact World.rangeAt_setCells_same _ _ _ _ HTH.out
 have p1:W8.cell? ⟨gp,1,none⟩=some (.int .i64 KN):=hgr 1 _ rfl;have p2:W8.cell? ⟨gp,2,none⟩=some (.int .i64 MM):=hgr 2 _ rfl;have hgl:gp<W8.heap.size:=World.block_lt_of_cell? W8 _ p1;have HP:=zh (fun(w':World) (hb:Below W8.heap.size W8 w')=>(show w'.cell? ⟨gp,1,none⟩=some (.int .i64 KN)∧w'.cell? ⟨gp,2,none⟩=some (.int .i64 MM) from⟨(hb.cell (p:=⟨gp,1,none⟩) hgl).trans p1,(hb.cell (p:=⟨gp,2,none⟩) hgl).trans p2⟩));have HB8:=zh (HB5.out.trans (hb8.mono HB5.out.size));obtain⟨x0,x1,x2,x3,x4⟩:=HX.out W8 HB8.out;rw[←hW8,←hgp];(try simp only[Act.put,z1,z2,z3]);clear hW8 hgp hb8 hgr HTH HPO HON p1 p2 hgl;go_wp2_with fail;refine(HCT.out W8 HB8.out).mono ?_;rintro e w9 ⟨rfl,hb9⟩;obtain⟨p1,p2⟩:=HP.out w9 hb9;have HB9:=zh (HB8.out.trans (hb9.mono HB8.out.size));clear x0 x1 x2 x3 x4;obtain⟨x0,x1,x2,x3,x4⟩:=HX.out w9 HB9.out;clear hb9;by_cases h1:KN≤SG
 ·have t1:decide (KN≤SG)=true:=decide_eq_true h1;have HF:=zh (show R=false by rw[HR.out];unfold possB;rw[if_pos (.inr h1)]);clear h1;go_wp2_with fail;go_ret;exact⟨ret_b HF.out.symm,HRE.out _ HB9.out⟩
 have t1:decide (KN≤SG)=false:=decide_eq_false h1
 have h0:¬(LF<0∨KN≤SG):=by have:=HLF.out;omega
 cases xl with
 | true =>
  obtain⟨c,hc⟩:=zx (decide (SG+SA<KN));have t2:decide (SG+SA<KN)=c:=hc.symm;have HF:=zh (show R=c by rw[HR.out,hc];unfold possB;rw[if_neg h0,if_pos rfl]);clear h1 h0 hc;go_wp2_with fail;go_ret;exact⟨ret_b HF.out.symm,HRE.out _ HB9.out⟩
 | false =>
  obtain⟨c,hc⟩:=zx (decide (KN≤SG+SA+LF))
  have t2:decide (KN≤SG+SA+(KN+MM - (CN:Int)))=c:=by rw[←HLFE.out];exact hc.symm
  have HF:=zh (show R=c by
   rw[HR.out,hc];unfold possB;rw[if_neg h0,if_neg (by decide)];have h5:=HLF.out;by_cases h4:KN≤SG+SA
   ·rw[decide_eq_true h4,decide_eq_true (show KN≤SG+SA+LF by omega)];rfl
   ·rw[decide_eq_false h4,Bool.false_or])
  clear h1 h0 hc;go_wp2_with fail;go_ret;exact⟨ret_b HF.out.symm,HRE.out _ HB9.out⟩
end Go.Proofs.YtcfkllnpkmebpaaGreatDoor

namespace Go.Proofs.YtcfkllnpkmebpaaGreatDoor
open Go.RowKit
set_option linter.unusedVariables false
set_option linter.unusedSimpArgs false
def folB(L:List Inc) (v k:Nat):Bool:=decide (L=[])||decide (L[L.length - 1]!.vol<(v:Int)∨(L[L.length - 1]!.vol=(v:Int)∧L[L.length - 1]!.stripe<(k:Int)))
theorem folB_iff{F:FltM} {L:List Inc} {v k:Nat} {b:Bool}:(L=[]∨incLtB L[L.length - 1]! (mkI F v k b)=true)↔folB L v k=true:=by
 unfold folB incLtB mkI;simp only[Bool.or_eq_true,decide_eq_true_eq]
def FirstP(F:FltM) (L:List Inc) (s:List UInt8):Option Inc→Prop
 | some x=>x∈headC F∧(L=[]∨incLtB L[L.length - 1]! x=true)∧(headF F x++[10]) <+: s
 | none=>∀x∈headC F,(L=[]∨incLtB L[L.length - 1]! x=true)→¬(headF F x++[10]) <+: s
theorem first_any(N:Nat) (hN:N≤12) (vl vm vd vv vp vo vL:Value) (F:FltM) (L:List Inc) (S:ByteArray) (w:World) (hf:FleetS w (Bl w.heap.size) vl vm vd vv vp vo F) (hok:FleetOk N F) (hL:SlS 5 IncK w (Bl w.heap.size) vL L) (hlen:L.length≤100000) (hS:S.size≤1000000000) :
  Calls Tryz.prog 104 #[.agg #[.int .i64 F.ext,vl,vm,vd,vv,vp,vo],.string S,vL] w fun e w'=>∃o,e=.returned (headV o)∧FirstP F L S.data.toList o∧Below w.heap.size w w':=by
 obtain⟨pb,pof,ob,oof,cp,co,rfl,rfl,hRp,hRo,-⟩:=polAt hf hok;obtain⟨Ad,cd,rfl,-,-⟩:=SlS.form hf.2.2.2.1;obtain⟨AL,cL,rfl,-,-⟩:=hL.form;have hno:F.vols.length≤12:=Nat.le_trans hok.volN hN;have hnd1:=hok.dve1;have hnd2:=hok.dveN;obtain⟨EX,hEX⟩:∃n:Nat,F.ext=(n:Int):=⟨F.ext.toNat,by have:=hok.ext;omega⟩
 have hex:EX≤2:=by have:=hok.ext;omega
 have hhx:=fun(v s:Nat) (b:Bool) (hv:v<F.vols.length) (hs:s<EX)=>(show mkI F v s b∈headC F from headC_mem.2 ⟨v,s,b,hv,by rw[hEX];simpa using hs,rfl⟩)
 have hhd:=fun(v s:Nat) (b:Bool) (hv:v<F.vols.length) (hs:s<EX) (w':World) (hb:Below w.heap.size w w')=>rhead_f (hf.below hb) hok hN (hhx v s b hv hs) (.slice none 0 0)
 have hbg:=fun(v s:Nat) (b:Bool) (w':World)=>begins_any S (headN F (mkI F v s b)) w' hS
 have hpo:=fun(v:Nat) (hv:v<F.vols.length) (w':World) (hb:Below w.heap.size w w')=>rpol_f (hf.below hb) hok hN hv
 have hpre:∀v s b,((headN F (mkI F v s b)).data.toList.isPrefixOf S.data.toList=true)↔(headF F (mkI F v s b)++[10]) <+: S.data.toList:=fun v s b=>by
  rw[List.isPrefixOf_iff_prefix];unfold headN;simp
 have hyes:∀v s b,v<F.vols.length→s<EX→folB L v s=true→(headN F (mkI F v s b)).data.toList.isPrefixOf S.data.toList=true→FirstP F L S.data.toList (some (mkI F v s b)):=fun v s b h1 h2 h3 h4 =>
  ⟨hhx v s b h1 h2,folB_iff.2 h3,(hpre v s b).1 h4⟩
 have hnot:(∀v,v<F.vols.length→∀s,s<EX→folB L v s=true→∀b,(headN F (mkI F v s b)).data.toList.isPrefixOf S.data.toList=false)→FirstP F L S.data.toList none:=fun h x hx ho hp=>by
  obtain⟨v,s,b,hv,hs,rfl⟩:=headC_mem.1 hx;have h1:=h v hv s (by rw[hEX] at hs;simpa using hs) (folB_iff.1 ho) b;rw[(hpre v s b).2 hp] at h1
  cases h1
 have hval:∀v s b,headV (some (mkI F v s b))=.tuple #[.agg #[.int .i64 (v:Int),.int .i64 (s:Int),.bool b,.int .i64 (kOf F v),.slice none 0 0],.bool true]:=fun v s b=>rfl
 -- the last incident
 have hlast:0<L.length→∃(b off:Nat) (lv ls:Int),AL=some ⟨b,off,none⟩∧(∀w',Below w.heap.size w w'→w'.cell? ⟨b,off+(L.length - 1) * 5,none⟩=some (.int .i64 lv)∧w'.cell? ⟨b,off+(L.length - 1) * 5+1,none⟩=some (.int .i64 ls))∧(∀v s:Nat,folB L v s=decide (lv<(v:Int)∨(lv=(v:Int)∧ls<(s:Int)))):=fun h0=>by
  obtain⟨b,off,cs,hA,hb,-,hc,hcs⟩:=hL.at_ (k:=L.length - 1) (by omega);obtain⟨Ax,cx,x0,x1,-,-,-,-,-⟩:=five_inc hc hcs;refine⟨b,off,L[L.length - 1].vol,L[L.length - 1].stripe,hA,fun w' hbw=>⟨(hbw.cell (p:=⟨b,off+(L.length - 1) * 5,none⟩) hb).trans x0,(hbw.cell (p:=⟨b,off+(L.length - 1) * 5+1,none⟩) hb).trans x1⟩,fun v s=>?_⟩;unfold folB
  have hne:L≠[]:=by intro e;subst e;simp at h0
  rw[decide_eq_false hne,Bool.false_or,getBang (show L.length - 1<L.length by omega)]
 have hfnil:L.length=0→∀v s,folB L v s=true:=fun h0 v s=>by
  unfold folB;rw[decide_eq_true (List.eq_nil_of_length_eq_zero h0)];rfl
 obtain⟨FP,hFP⟩:=zx (FirstP F L S.data.toList);obtain⟨FB,hFB⟩:=zx (folB L)
 obtain⟨HN,hHN⟩:∃f:Nat→Nat→Bool→ByteArray,f=fun v s b=>headN F (mkI F v s b):=⟨_,rfl⟩
 obtain⟨PB,hPB⟩:∃f:Nat→Nat→Bool→Bool,f=fun v s b=>(headN F (mkI F v s b)).data.toList.isPrefixOf S.data.toList:=⟨_,rfl⟩
 obtain⟨KF,hKF⟩:∃f:Nat→Int,f=kOf F:=⟨_,rfl⟩
 have e1:∀v s b,headN F (mkI F v s b)=HN v s b:=fun v s b=>by rw[hHN]
 have e2:∀v s b,(headN F (mkI F v s b)).data.toList.isPrefixOf S.data.toList=PB v s b:=fun v s b=>by rw[hPB]
 simp only[e2] at hbg hyes hnot;simp only[e1] at hhd hbg;simp only[mkI] at hhd;rw[←hFP] at hyes hnot ⊢;rw[←hFB] at hyes hnot hlast hfnil;rw[←hKF] at hpo hhd hval;obtain⟨ND,hND⟩:=zx F.dves.length;obtain⟨NO,hNO⟩:=zx F.vols.length;obtain⟨NP,hNP⟩:=zx F.pols.length;obtain⟨LN,hLN⟩:=zx L.length;rw[hEX] at hhd hpo ⊢;rw[←hND] at hnd1 hnd2 hhd hpo ⊢;rw[←hNO] at hno hhd hpo hyes hnot ⊢;rw[←hNP] at hhd hpo ⊢;rw[←hLN] at hlast hfnil hlen ⊢;have HHD:=zh hhd;have HBG:=zh hbg;have HPO:=zh hpo;have HYES:=zh hyes;have HNOT:=zh hnot;have HVAL:=zh hval;have HLAST:=zh hlast;have HFNIL:=zh hfnil;obtain⟨W0,hW0⟩:=zx ((w.alloc (.cells #[.int .i64 (EX:Int),vl,vm,vd,.slice Ad ND cd,.slice (some ⟨pb,pof,none⟩) NP cp,.slice (some ⟨ob,oof,none⟩) NO co] 35)).alloc (.cells #[.int .i64 0,.int .i64 0,.bool false,.int .i64 0,.slice none 0 0] 27));obtain⟨z,hz⟩:=zx w.heap.size;obtain⟨gR,hgR⟩:=zx (w.heap.size+1)
 have hb0:Below w.heap.size w W0:=by rw[hW0];exact((Below.refl _ _).alloc (Nat.le_refl _) _).alloc (by simp) _
 have hrk:W0.heap[gR]?=some (.cells #[.int .i64 0,.int .i64 0,.bool false,.int .i64 0,.slice none 0 0] 27 (0,0)):=by
  rw[hW0];exact heap_alloc_at _ _ _ (by rw[hgR];simp)
 have hzk:W0.heap[z]?=some (.cells #[.int .i64 (EX:Int),vl,vm,vd,.slice Ad ND cd,.slice (some ⟨pb,pof,none⟩) NP cp,.slice (some ⟨ob,oof,none⟩) NO co] 35 (0,0)):=by
  rw[hW0,hz];exact(Below.heap_alloc _ _ _ (by simp)).trans (heap_alloc_new w _)
 have hzl:z<W0.heap.size:=(Array.getElem?_eq_some_iff.1 hzk).1;have hrl:gR<W0.heap.size:=(Array.getElem?_eq_some_iff.1 hrk).1;have HC:=zh (fun(w':World) (hb:Below W0.heap.size W0 w')=>cells7 ((hb.block z hzl).trans hzk));have HRK:=zh (fun(w':World) (hb:Below W0.heap.size W0 w')=>(hb.block gR hrl).trans hrk);have HRE:=zh (fun(w':World) (hb:Below W0.heap.size W0 w')=>hb0.trans (hb.mono hb0.size));have HW0:=zh hW0;have HZ:=zh hz;have HGR:=zh hgR;clear hf hok hRp hRo hL hW0 hz hgR hb0 hrk hzk hzl hrl hND hNO hNP hLN hEX hhx hhd hbg hpo hpre hyes hnot hval hlast hfnil hFP hFB hHN hPB hKF e1 e2;go_enter Tryz.func104,Tryz.ntmps104;go_upto_region 1 with fail;rw[←HW0.out,←HGR.out,←HZ.out];go_wp2_with fail;go_loopg [8] NO (fun z v8 wr=>∃a:Nat,v8=.int .i64 (a:Int)∧a≤NO∧z=NO - a∧Hid (Below W0.heap.size W0 wr)∧Hid (∀v,v<a→∀s,s<EX→FB v s=true→∀b,PB v s b=false))
 case atStart=>exact⟨0,rfl,Nat.zero_le _,rfl,zh (Below.refl _ _),zh (fun _ h=>by omega)⟩
 case round =>
  obtain⟨a,rfl,ha,rfl,HB,HNA⟩:=hrel;obtain⟨c0,c1,c2,c3,c4,c5,c6⟩:=HC.out wr HB.out;by_cases hlt:a<NO
  ·have HLT:=zh hlt;go_wp2_with fail;clear c0 c1 c2 c3 c4 c5 c6;obtain⟨wa,rfl⟩:=zx (wr:World);go_loopg [9,10] EX (fun z v9 v10 wr=>∃st:Nat,v9=.int .i64 (st:Int)∧st≤EX∧z=EX - st∧Hid (Below W0.heap.size W0 wr)∧Hid (∀s,s<st→FB a s=true→∀b,PB a s b=false))
   case atStart=>exact⟨0,rfl,Nat.zero_le _,rfl,HB,zh (fun _ h=>by omega)⟩
   case round =>
    clear HB;obtain⟨st,rfl,hst,rfl,HB,HNS⟩:=hrel;obtain⟨c0,c1,c2,c3,c4,c5,c6⟩:=HC.out wr HB.out;by_cases hls:st<EX
    ·have HLS:=zh hls;obtain⟨fb,hfb⟩:=zx (FB a st);have HFB:=zh hfb;clear hfb;go_upto_region 8 with fail;go_cut [59] from 20 to 85 (fun v59 wc=>v59=.bool (!fb)∧wr=wc)
     case first =>
      by_cases h0:LN=0
      ·have t0:decide (0<(LN:Int))=false:=decide_eq_false (by omega);have t0n:decide (0<LN)=false:=decide_eq_false (by omega);have HF:=zh (show(!fb)=false by rw[HFB.out,HFNIL.out h0];rfl);clear h0;go_wp2_with fail;go_meet;exact⟨by rw[HF.out],rfl⟩
      ·obtain⟨LM,rfl⟩:∃LM,LN=LM+1:=⟨LN - 1,by omega⟩;have t0:decide (0<LM+1)=true:=decide_eq_true (by omega);obtain⟨bL,oL,lv,ls,hAL,hcl,hfo⟩:=HLAST.out (by omega);obtain⟨l0,l1⟩:=hcl wr (HRE.out wr HB.out);rw[Nat.add_sub_cancel] at l0 l1;have HFO:=zh (show fb=decide (lv<(a:Int)∨(lv=(a:Int)∧ls<(st:Int))) from by rw[HFB.out,hfo]);subst hAL;clear hcl hfo h0;by_cases h1:(a:Int)<lv
       ·have t1:decide ((a:Int)<lv)=true:=decide_eq_true h1;have HF:=zh (show(!fb)=true by rw[HFO.out,decide_eq_false (by omega)];rfl);clear h1;go_wp2_with fail;go_meet;exact⟨by rw[HF.out],rfl⟩
       have t1:decide ((a:Int)<lv)=false:=decide_eq_false h1;by_cases h2:(a:Int)=lv
       ·have t2:((a:Int)==lv)=true:=by simpa using h2
        obtain⟨q,hq⟩:=zx (decide ((st:Int)≤ls));have t3:decide ((st:Int)≤ls)=q:=hq.symm
        have HF:=zh (show(!fb)=q by
         rw[HFO.out,hq];by_cases h3:(st:Int)≤ls
         ·rw[decide_eq_true h3,decide_eq_false (by omega)];rfl
         ·rw[decide_eq_false h3,decide_eq_true (by omega)];rfl)
        clear h1 h2 hq;go_wp2_with fail;go_meet;exact⟨by rw[HF.out],rfl⟩
       ·have t2:((a:Int)==lv)=false:=by simpa using h2
        have HF:=zh (show(!fb)=false by rw[HFO.out,decide_eq_true (by omega)];rfl);clear h1 h2;go_wp2_with fail;go_meet;exact⟨by rw[HF.out],rfl⟩
     case rest =>
      obtain⟨rfl,rfl⟩:=hcut
      cases fb with
      | false =>
       have HNST:=zh (show ∀s,s<st+1→FB a s=true→∀b,PB a s b=false from fun s hs hf=>by
        rcases (show s=st∨s<st by omega) with rfl | h
        ·rw[←HFB.out] at hf;cases hf
        ·exact HNS.out s h hf)
       go_wp2_with fail;go_roundg (EX - (st+1))
       case measure=>have:=HLS.out;omega
       case rel=>exact⟨st+1,by go_num,by have:=HLS.out;omega,rfl,HB,HNST⟩
      | true =>
       go_wp2_with fail;clear c0 c1 c2 c3 c4 c5 c6;obtain⟨wb,rfl⟩:=zx (wr:World);go_loopg [11] 2 (fun z v11 wr=>∃c:Nat,v11=.int .i64 (c:Int)∧c≤2∧z=2 - c∧Hid (Below W0.heap.size W0 wr)∧Hid (∀c',c'<c→PB a st (decide (c'=1))=false))
       case atStart=>exact⟨0,rfl,Nat.zero_le _,rfl,HB,zh (fun _ h=>by omega)⟩
       case round =>
        clear HB;obtain⟨c,rfl,hc,rfl,HB,HNC⟩:=hrel;obtain⟨c0,c1,c2,c3,c4,c5,c6⟩:=HC.out wr HB.out;by_cases hlc:c<2
        ·have HLC:=zh hlc;obtain⟨lb,hlb⟩:=zx (decide (c=1))
         have t1:((c:Int)==1)=lb:=by rw[hlb];rcases (show c=0∨c=1 by omega) with rfl | rfl <;> rfl
         obtain⟨z0,hz0⟩:=zx (((c:Int)==0));have t0:((c:Int)==0)=z0:=hz0.symm
         have t2:((ND:Int)==0)=false:=by simp;omega
         have HLB:=zh hlb;have HPW:=zh (HPO.out a HLT.out wr (HRE.out wr HB.out));clear hlb hz0;go_upto_region 12 with fail;go_cut [71] from 60 to 85 (fun v71 wc=>v71=.bool false∧wr=wc)
         case first =>
          cases z0 with
          | false =>
           go_wp2_with fail;go_meet;exact⟨rfl,rfl⟩
          | true =>
           go_wp2_with fail;go_meet;exact⟨rfl,rfl⟩
         case rest =>
          obtain⟨rfl,rfl⟩:=hcut;go_wp2_with fail;refine HPW.out.mono ?_;rintro e w5 ⟨⟨a0,a4,a5,a6,a7,a8,a9,a10,a11,a12,a13,a14,a15,a16,QQ,rfl,hone⟩,hb5⟩;obtain⟨KA,hKA⟩:=zx (KF a);rw[←hKA]
          have hhd:=fun(w':World) (hb:Below w.heap.size w w')=>HHD.out a st lb HLT.out HLS.out w' hb
          have hbg:=fun(w':World)=>HBG.out a st lb w'
          have hval:=HVAL.out a st lb;have hyes:=HYES.out a st lb HLT.out HLS.out HFB.out.symm;rw[←hKA] at hhd hval;obtain⟨HB1,hHB1⟩:=zx (HN a st lb);obtain⟨pb1,hpb1⟩:=zx (PB a st lb);rw[←hHB1] at hhd hbg;rw[←hpb1] at hbg hyes;have HHD1:=zh hhd;have HBG1:=zh hbg;have HVAL1:=zh hval;have HYES1:=zh hyes;have HPB1:=zh hpb1;obtain⟨W6,hW6⟩:=zx (w5.alloc (.cells #[.int .i64 (a:Int),.int .i64 (st:Int),.bool lb,.int .i64 KA,.slice none 0 0] 27));obtain⟨g6,hg6⟩:=zx w5.heap.size
          have hb6:Below w5.heap.size w5 W6:=by rw[hW6];exact(Below.refl _ _).alloc (Nat.le_refl _) _
          have hk6:W6.heap[g6]?=some (.cells #[.int .i64 (a:Int),.int .i64 (st:Int),.bool lb,.int .i64 KA,.slice none 0 0] 27 (0,0)):=by rw[hW6,hg6];exact heap_alloc_new _ _
          have hb05:=HB.out.trans (hb5.mono HB.out.size);have hb06:=hb05.trans (hb6.mono hb05.size);have HB6:=zh hb06;have HK6:=zh (And.intro hk6 (Array.getElem?_eq_some_iff.1 hk6).1);have HW6:=zh hW6;have HG6:=zh hg6;clear hKA hhd hbg hval hyes hHB1 hpb1 hW6 hg6 hb6 hk6 hb05 hb06 hb5 hone c0 c1 c2 c3 c4 c5 c6 t0 t1 t2;have hpf:=pol_field1 a0 (.int .i64 KA) (.int .i64 (mOf F a)) QQ a4 a5 a6 a7 a8 a9 a10 a11 a12 a13 a14 a15 a16 w5;go_upto_region 14 with fail;clear hpf;rw[←HW6.out,←HG6.out];obtain⟨x0,x1,x2,x3,x4⟩:=cells5 HK6.out.1;obtain⟨c0,c1,c2,c3,c4,c5,c6⟩:=HC.out W6 HB6.out;go_wp2_with fail;refine(HHD1.out W6 (HRE.out W6 HB6.out)).mono ?_;rintro e w7 ⟨rfl,hb7⟩;have HB7:=zh (HB6.out.trans (hb7.mono HB6.out.size));have HK7:=zh ((hb7.block g6 HK6.out.2).trans HK6.out.1);clear hb7 c0 c1 c2 c3 c4 c5 c6 x0 x1 x2 x3 x4;go_wp2_with fail;refine(HBG1.out w7).mono ?_;rintro e w8 ⟨rfl,rfl⟩
          cases pb1 with
          | true =>
           have hrk:=HRK.out w7 HB7.out;obtain⟨x0,x1,x2,x3,x4⟩:=cells5 HK7.out;obtain⟨z0,z1,z2,z3,z4⟩:=cells5 hrk
           have zf:=fun i=>frozen_of_row w7 gR i _ _ hrk
           have f0:=zf 0;have f1:=zf 1;have f2:=zf 2;have f3:=zf 3;have f4:=zf 4;have HRK7:=zh hrk;clear zf hrk;go_wp2_with fail;obtain⟨WZ,hWZ⟩:=zx ((((((w7.setCell ⟨gR,0,none⟩ (.int .i64 (a:Int))).setCell ⟨gR,1,none⟩ (.int .i64 (st:Int))).setCell ⟨gR,2,none⟩ (.bool lb)).setCell ⟨gR,3,none⟩ (.int .i64 KA)).setCell ⟨gR,4,none⟩ (.slice none 0 0)):World)
           have hz:WZ.heap[gR]?=some (.cells #[.int .i64 (a:Int),.int .i64 (st:Int),.bool lb,.int .i64 KA,.slice none 0 0] 27 (0,0)):=by
            rw[hWZ];exact heap_setCell_same _ gR 4 _ _ _ (heap_setCell_same _ gR 3 _ _ _ (heap_setCell_same _ gR 2 _ _ _ (heap_setCell_same _ gR 1 _ _ _ (heap_setCell_same _ gR 0 _ _ _ HRK7.out))))
           rw[←hWZ]
           have hg:w.heap.size≤gR:=by have:=HGR.out;omega
           have hbz:Below w.heap.size w WZ:=by
            rw[hWZ];exact(((((HRE.out w7 HB7.out).setCell hg _).setCell hg _).setCell hg _).setCell hg _).setCell hg _
           obtain⟨n0,n1,n2,n3,n4⟩:=cells5 hz;refine bodyPost_ret (v:=.tuple #[.agg #[.int .i64 (a:Int),.int .i64 (st:Int),.bool lb,.int .i64 KA,.slice none 0 0],.bool true]) ?_ rfl ⟨some (mkI F a st lb),by rw[HVAL1.out],HYES1.out (by first | rfl | trivial),hbz⟩;simp[results,Tryz.results104,go_sem,n0,n1,n2,n3,n4]
          | false =>
           go_wp2_with fail;go_roundg (2 - (c+1))
           case measure=>have:=HLC.out;omega
           case rel=>exact⟨c+1,by go_num,by have:=HLC.out;omega,rfl,HB7,zh (fun c' hc'=>by
            rcases (show c'=c∨c'<c by omega) with rfl | h
            ·rw[←HLB.out];exact HPB1.out.symm
            ·exact HNC.out c' h)⟩
        ·have hc2:c=2:=by omega
         subst hc2
         have HNST:=zh (show ∀s,s<st+1→FB a s=true→∀b,PB a s b=false from fun s hs hf b=>by
          rcases (show s=st∨s<st by omega) with rfl | h
          ·have:=HNC.out (if b then 1 else 0) (by cases b <;> decide)
           cases b <;> simpa using this
          ·exact HNS.out s h hf b)
         go_wp2_with fail;go_roundg (EX - (st+1))
         case measure=>have:=HLS.out;omega
         case rel=>exact⟨st+1,by go_num,by have:=HLS.out;omega,rfl,HB,HNST⟩
    ·have hse:st=EX:=by omega
     have HNAT:=zh (show ∀v,v<a+1→∀s,s<EX→FB v s=true→∀b,PB v s b=false from fun v hv s hs=>by
      rcases (show v=a∨v<a by omega) with rfl | h
      ·exact HNS.out s (by omega)
      ·exact HNA.out v h s hs)
     subst hse;go_wp2_with fail;go_roundg (NO - (a+1))
     case measure=>have:=HLT.out;omega
     case rel=>exact⟨a+1,by go_num,by have:=HLT.out;omega,rfl,HB,HNAT⟩
  ·have han:a=NO:=by omega
   subst han;have HRV:=zh (HNOT.out HNA.out);have hrk:=HRK.out wr HB.out;obtain⟨z0,z1,z2,z3,z4⟩:=cells5 hrk
   have zf:=fun i=>frozen_of_row wr gR i _ _ hrk
   have f0:=zf 0;have f1:=zf 1;have f2:=zf 2;have f3:=zf 3;have f4:=zf 4;have HRK7:=zh hrk;clear zf hrk;go_wp2_with fail;obtain⟨WZ,hWZ⟩:=zx ((((((wr.setCell ⟨gR,0,none⟩ (.int .i64 0)).setCell ⟨gR,1,none⟩ (.int .i64 0)).setCell ⟨gR,2,none⟩ (.bool false)).setCell ⟨gR,3,none⟩ (.int .i64 0)).setCell ⟨gR,4,none⟩ (.slice none 0 0)):World)
   have hz:WZ.heap[gR]?=some (.cells #[.int .i64 0,.int .i64 0,.bool false,.int .i64 0,.slice none 0 0] 27 (0,0)):=by
    rw[hWZ];exact heap_setCell_same _ gR 4 _ _ _ (heap_setCell_same _ gR 3 _ _ _ (heap_setCell_same _ gR 2 _ _ _ (heap_setCell_same _ gR 1 _ _ _ (heap_setCell_same _ gR 0 _ _ _ HRK7.out))))
   rw[←hWZ]
   have hg:w.heap.size≤gR:=by have:=HGR.out;omega
   have hbz:Below w.heap.size w WZ:=by
    rw[hWZ];exact(((((HRE.out wr HB.out).setCell hg _).setCell hg _).setCell hg _).setCell hg _).setCell hg _
   obtain⟨n0,n1,n2,n3,n4⟩:=cells5 hz;refine bodyPost_ret (v:=.tuple #[.agg #[.int .i64 0,.int .i64 0,.bool false,.int .i64 0,.slice none 0 0],.bool false]) ?_ rfl ⟨none,rfl,HRV.out,hbz⟩;simp[results,Tryz.results104,go_sem,n0,n1,n2,n3,n4]
end Go.Proofs.YtcfkllnpkmebpaaGreatDoor

namespace Go.Proofs.YtcfkllnpkmebpaaGreatDoor
open Go.RowKit
set_option linter.unusedVariables false
set_option linter.unusedSimpArgs false
theorem run_copyI{P:Program} (w:World) (t ty e:TypeId) (i:TypeInfo) (z:Value) (size bytes:Nat) (ht:P.underlying t=some (.slice e)) (hi:P.info? e=some i) (hz:i.zero=some z)
  (hsize:i.size=size) (hby:i.bytes=bytes) (hzs:z.cells.size=size) (hsz:0<size) (n:Nat) (A:Option Addr) (c:Nat) (cs:List Value) (hl:cs.length=n * size)
  (hc:0<n→∃b off,A=some ⟨b,off,none⟩∧∀j u,cs[j]?=some u→w.cell? ⟨b,off+j,none⟩=some u) (h1:∀u∈cs,u.oneCell'=true) (hn:n≤maxLen) (hbytes:n * bytes≤140737488355328) :
  ∃v' w',(Builtin.append_ #[t,t] ty #[.slice none 0 0,.slice A n c]).run P w=.ok v' w'∧w'.ownsRow w.heap.size e size v' n cs∧Below w.heap.size w w'∧(∀b,v'.ownBlock=some b→w.heap.size≤b):=by
 have hbl:∀{w':World},w.grownBy w' none→Below w.heap.size w w':=fun hg=>⟨hg.os,hg.tape,hg.output,hg.size,fun b hb=>hg.block b hb (by simp)⟩
 cases A with
 | none =>
  have h0:n=0:=by
   rcases Nat.eq_zero_or_pos n with h | h
   ·exact h
   ·obtain⟨b,off,e,-⟩:=hc h
    cases e
  subst h0;have e:cs=[]:=List.eq_nil_of_length_eq_zero (by omega);subst e;refine⟨.slice none 0 0,w,?_,World.ownsRow_nil _ _ _ _,Below.refl _ _,fun b h=>by cases h⟩;simp[Builtin.append_,run_underlying ht,sizeOf,typeInfo,hi,Builtin.lenOf,Builtin.firstCells]
 | some ad =>
  have hnews:∀j u,cs[j]?=some u→w.cell? (ad.add j)=some u:=fun j u hu=>by
   have hjl:=(List.getElem?_eq_some_iff.1 hu).1
   have hpos:0<n:=by
    rcases Nat.eq_zero_or_pos n with h | h
    ·subst h;omega
    ·exact h
   obtain⟨b,off,e,hcell⟩:=hc hpos;injection e with e;subst e
   have hadd:(⟨b,off,none⟩:Addr).add j=⟨b,off+j,none⟩:=by unfold Addr.add;split <;> simp_all
   rw[hadd];exact hcell j u hu
  obtain⟨v',w',hr,h2,h3,h4,h5⟩:=run_append_own_at (P:=P) w w.heap.size t ty e i z size bytes ht hi hz hsize hby hzs hsz (.slice none 0 0) 0 [] (World.ownsRow_nil _ _ _ _) ad n c cs hl hnews h1 (by rw[Nat.zero_add];exact hn) (by rw[Nat.zero_add];exact hbytes) (Nat.le_refl _);rw[Nat.zero_add,List.nil_append] at h2;refine⟨v',w',hr,h2,hbl h3,fun b hb=>?_⟩;rcases h5 with h | h
  ·rw[h] at hb;cases hb
  ·rw[h] at hb;injection hb with hb;omega
theorem step_copyI{ops:Array Oper} {o:Oper} {a:Act} {K:Act→World→Prop} {Q:Exit→Act→World→Prop} {E:Prop} {w:World} (hgd:o.guard=none) (s x:Operand) (t:TypeId)
  (ho:o.op=.call { callee:=.builtin .append,args:=#[s,x],argTypes:=#[t,t] }) (e:TypeId) (i:TypeInfo) (z:Value) (size bytes:Nat) (ht:Tryz.prog.underlying t=some (.slice e)) (hi:Tryz.prog.info? e=some i) (hz:i.zero=some z)
  (hsize:i.size=size) (hby:i.bytes=bytes) (hzs:z.cells.size=size) (hsz:0<size) (n:Nat) (A:Option Addr) (c:Nat) (cs:List Value) (hs:a.eval s=.slice none 0 0) (hx:a.eval x=.slice A n c) (hl:cs.length=n * size)
  (hc:0<n→∃b off,A=some ⟨b,off,none⟩∧∀j u,cs[j]?=some u→w.cell? ⟨b,off+j,none⟩=some u) (h1:∀u∈cs,u.oneCell'=true) (hn:n≤maxLen) (hbytes:n * bytes≤140737488355328)
  (h:∀v' w',w'.ownsRow w.heap.size e size v' n cs→Below w.heap.size w w'→(∀b,v'.ownBlock=some b→w.heap.size≤b)→K (a.put o.dst v') w') :
  if Region.wanted o (yielded ops a.tmps)=true then Oper.wp Tryz.prog o a w K Q else E:=by
 have hw:Region.wanted o (yielded ops a.tmps)=true:=by simp[Region.wanted,hgd]
 rw[if_pos hw];obtain⟨v',w',hr,h2,h3,h4⟩:=run_copyI (P:=Tryz.prog) w t o.type e i z size bytes ht hi hz hsize hby hzs hsz n A c cs hl hc h1 hn hbytes;unfold Oper.wp execOp;simp only[ho,resolve,invoke,builtin,Sem.run_bind,Sem.run_pure,Result.andThen_ok,List.map_toArray,List.map_cons,List.map_nil,hs,hx,hr];exact h v' w' h2 h3 h4
theorem step_caus{ops:Array Oper} {o:Oper} {a:Act} {K:Act→World→Prop} {Q:Exit→Act→World→Prop} {E:Prop} {w:World} (hgd:o.guard=none) (s x:Operand)
  (ho:o.op=.call { callee:=.builtin .append,args:=#[s,x],argTypes:=#[25,25] }) (R:Nat→Prop) (v2:Value) (xc:List Cau) (hs:a.eval s=.slice none 0 0) (hx:a.eval x=v2) (hsl:SlS 2 CauK w R v2 xc) (hn:xc.length≤65536)
  (h:∀v' w',OwnCau w' w.heap.size v' xc→Below w.heap.size w w'→K (a.put o.dst v') w') :
  if Region.wanted o (yielded ops a.tmps)=true then Oper.wp Tryz.prog o a w K Q else E:=by
 obtain⟨i0,hi0,hz0,hz1,hz2⟩:=info_parts info_cau;obtain⟨A,c,rfl,hc0,-⟩:=hsl.form;refine step_copyI hgd s x _ ho 102 i0 _ 2 16 Tryz.underlying25 hi0 hz0 hz1 hz2 rfl (by omega) xc.length A c (xc.flatMap cauC) hs hx (flatc_len xc) (fun hpos=>?_) (flatc_one xc) (by unfold maxLen;omega) (by omega) (fun v' w' h1 h2 _=>h v' w' h1 h2);obtain⟨b,off,cs,rfl,-,-,-,-⟩:=hsl.at_ (k:=0) hpos;refine⟨b,off,rfl,fun j u hu=>?_⟩;obtain⟨hk,hu2⟩:=flatc_at xc j u hu;obtain⟨b',off',cs',e,-,-,hcs,hck⟩:=hsl.at_ (k:=j / 2) hk;injection e with e;injection e with e1 e2;subst e1;subst e2;unfold CauK at hck;subst hck;have:=hcs (j % 2) u hu2;rw[Nat.add_assoc,show j / 2 * 2+j % 2=j by omega] at this;exact this
theorem step_acau{ops:Array Oper} {o:Oper} {a:Act} {K:Act→World→Prop} {Q:Exit→Act→World→Prop} {E:Prop} {w:World} (c:Cau) (hgd:o.guard=none) (s x:Operand)
  (ho:o.op=.call { callee:=.builtin .append,args:=#[s,x],argTypes:=#[25,25] }) (base:Nat) (v:Value) (l:List Cau) (hs:a.eval s=v) (hown:OwnCau w base v l) (gb:Nat) (hx:a.eval x=.slice (some ⟨gb,0,none⟩) 1 1)
  (hbk:w.heap[gb]?=some (.cells #[.int .i64 c.state,.int .i64 c.drive] 102 (0,0))) (hn:l.length+1≤16777216) (hbase:base≤w.heap.size)
  (h:∀v' w',OwnCau w' base v' (l++[c])→w.grownBy w' v.ownBlock→(v'.ownBlock=v.ownBlock∨v'.ownBlock=some w.heap.size)→K (a.put o.dst v') w') :
  if Region.wanted o (yielded ops a.tmps)=true then Oper.wp Tryz.prog o a w K Q else E:=by
 obtain⟨i0,hi0,hz0,hz1,hz2⟩:=info_parts info_cau
 refine step_append_lies _ hgd s x _ ho base 102 i0 _ 2 16 Tryz.underlying25 hi0 hz0 hz1 hz2 rfl (by omega) v l.length (l.flatMap cauC) hs hown ⟨gb,0,none⟩ 1 1 [.int .i64 c.state,.int .i64 c.drive] hx rfl (World.news_of_block (cs:=#[.int .i64 c.state,.int .i64 c.drive]) hbk)
  (fun u hu=>by simp at hu;rcases hu with rfl | rfl <;> rfl) (by omega) (by unfold maxLen;omega) (by omega) hbase w.heap.size rfl (fun g cap w' h1 h2 h3 _=>h _ w' ?_ h2 ?_)
 ·unfold OwnCau;rw[List.length_append,List.length_singleton,List.flatMap_append]
  simpa[cauC] using h1
 ·rcases h3 with h3 | h3
  ·exact .inl h3.symm
  ·right;rw[h3];rfl
def StP(F:FltM) (L:List Inc) (S:List UInt8) (X:List Cau→Inc) (cs:List Cau) (pos:Nat):Prop :=
 (pos≤S.length∧0<pos)∧(∀n,parsR F L S n=parsR F (L++[X cs]) (S.drop pos) (n+1+cs.length))∧∀c∈cs,c∈causeC F
section
variable {N : Nat} {F : FltM} (hok : FleetOk N F) (hN : N ≤ 12) {L : List Inc} {S : List UInt8} {x0 : Inc}
def mkX(x0:Inc) (cs:List Cau):Inc:=⟨x0.vol,x0.stripe,x0.lost,x0.need,cs⟩
include hok hN
theorem StP.start(hl:leftOf F L=0) (hx:x0∈headC F) (ho:L=[]∨incLtB L[L.length - 1]! x0=true) (hs:(headF F x0++[10]) <+: S):StP F L S (mkX x0) [] ((headF F x0).length+1):=by
 have hlen:=hs.length_le;rw[List.length_append,List.length_singleton] at hlen
 have e:mkX x0 []=x0:=by
  obtain⟨v,s,b,-,-,rfl⟩:=headC_mem.1 hx
  rfl
 refine⟨by omega,fun n=>?_,fun c hc=>by cases hc⟩;rw[e];exact pars_first hok hN (fun v hv=>by have:=kmq_ok hok hv;omega) hl hx hs ho n
theorem StP.next{cs:List Cau} {pos:Nat} (h:StP F L S (mkX x0) cs pos) (hlk:lackI F (mkX x0 cs)≠0) (hi:cs.length<100) {c:Cau} (hc:c∈causeC F) (hs:(lineF F cs.length c++[10]) <+: S.drop pos) (ha:ableB F (mkX x0 (cs++[c]))=true) :
  StP F L S (mkX x0) (cs++[c]) (pos+((lineF F cs.length c).length+1)):=by
 have hlen:=hs.length_le;rw[List.length_append,List.length_singleton,List.length_drop] at hlen;refine⟨by have:=h.1;omega,fun n=>?_,fun d hd=>?_⟩
 ·rw[h.2.1 n,pars_cause hok hN (x:=mkX x0 cs) hlk hi hc hs ha (n+1+cs.length),List.length_append,List.length_singleton,List.drop_drop]
  rfl
 ·rcases List.mem_append.1 hd with h1 | h1
  ·exact h.2.2 d h1
  ·rw[List.mem_singleton.1 h1];exact hc
theorem StP.stop{cs:List Cau} {pos:Nat} (h:StP F L S (mkX x0) cs pos) (hlk:lackI F (mkX x0 cs)≠0) (hs:∀c∈causeC F,(lineF F cs.length c++[10]) <+: S.drop pos→ableB F (mkX x0 (cs++[c]))=false) (n:Nat):parsR F L S n=([],104,n+(1+cs.length)):=by
 rw[h.2.1 n,pars_nocause hok hN (x:=mkX x0 cs) hlk hs]
 congr 2
 omega
end
theorem cause_st{F:FltM} {c:Cau} (h:c∈causeC F):1≤c.state:=by
 rcases causeC_mem.1 h with rfl | ⟨d,hd,rfl | rfl | rfl⟩
 ·show(1:Int)≤4;omega
 ·show(1:Int)≤1;omega
 ·show(1:Int)≤2;omega
 ·show(1:Int)≤3;omega
end Go.Proofs.YtcfkllnpkmebpaaGreatDoor
