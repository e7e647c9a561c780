/- Codes, words and fragments: the model, and the small functions. -/
import Derived.Test.YtcfkllnpkmebpaaGreatDoorMp01
import Derived.Laws.BitsAllLaws
import Derived.IntWalk
import Derived.Test.YtcfkllnpkmebpaaGreatDoorRows
import Derived.ProofKit
import Derived.Deep.LoopGhost
import Derived.Deep.RegionHeld3
set_option maxRecDepth 100000
set_option maxHeartbeats 12800000
namespace Go.Proofs.YtcfkllnpkmebpaaGreatDoor
open Go.RowKit
set_option linter.unusedVariables false
set_option linter.unusedSimpArgs false
def codeB(k m:Int):Bool:=decide (1≤k)&&decide (k≤6)&&decide (0≤m)&&decide (m≤4)&&decide (k+m≤8)
theorem codeB_iff(k m:Int):codeB k m=true↔1≤k∧k≤6∧0≤m∧m≤4∧k+m≤8:=by simp[codeB];omega
theorem codeB_no{k m:Int} (h:¬(1≤k∧k≤6∧0≤m∧m≤4∧k+m≤8)):codeB k m=false:=by
 cases e:codeB k m with
 | false=>rfl
 | true=>exact absurd ((codeB_iff k m).1 e) h
theorem codeB_yes{k m:Int} (h:1≤k∧k≤6∧0≤m∧m≤4∧k+m≤8):codeB k m=true:=(codeB_iff k m).2 h
theorem r07code_any(k m:Int) (w:World) (hk:I64 k) (hm:I64 m) :
  Calls Tryz.prog 84 #[.int .i64 k,.int .i64 m] w fun e w'=>e=.returned (.bool (codeB k m))∧w=w':=by
 obtain⟨k0,k1⟩:=hk;obtain⟨m0,m1⟩:=hm;by_cases h1:1≤k
 ·by_cases h2:k≤6
  ·by_cases h3:0≤m
   ·by_cases h4:m≤4
    ·by_cases h5:k+m≤8
     ·rw[codeB_yes ⟨h1,h2,h3,h4,h5⟩];go_enter Tryz.func84,Tryz.ntmps84;go_wp2;go_ret;exact⟨rfl,rfl⟩
     ·rw[codeB_no (fun h=>h5 h.2.2.2.2)];go_enter Tryz.func84,Tryz.ntmps84;go_wp2;go_ret;exact⟨rfl,rfl⟩
    ·rw[codeB_no (fun h=>h4 h.2.2.2.1)];go_enter Tryz.func84,Tryz.ntmps84;go_wp2;go_ret;exact⟨rfl,rfl⟩
   ·rw[codeB_no (fun h=>h3 h.2.2.1)];go_enter Tryz.func84,Tryz.ntmps84;go_wp2;go_ret;exact⟨rfl,rfl⟩
  ·rw[codeB_no (fun h=>h2 h.2.1)];go_enter Tryz.func84,Tryz.ntmps84;go_wp2;go_ret;exact⟨rfl,rfl⟩
 ·rw[codeB_no (fun h=>h1 h.1)];go_enter Tryz.func84,Tryz.ntmps84;go_wp2;go_ret;exact⟨rfl,rfl⟩
def wordT(k n:Nat) (d:Mat) (m:Nat):Mat:=(List.range n).map fun a=>combT (coefR k a) d m
theorem wordT_length(k n:Nat) (d:Mat) (m:Nat):(wordT k n d m).length=n:=by simp[wordT]
theorem wordT_wide(k n:Nat) (d:Mat) (m:Nat):Wide (wordT k n d m) m:=by
 intro r hr;simp only[wordT,List.mem_map] at hr;obtain⟨a,-,rfl⟩:=hr;exact combT_length _ _ _
end Go.Proofs.YtcfkllnpkmebpaaGreatDoor

namespace Go.Proofs.YtcfkllnpkmebpaaGreatDoor
open Go.RowKit
set_option linter.unusedVariables false
set_option linter.unusedSimpArgs false
theorem wordT_succ(k a:Nat) (d:Mat) (m:Nat):wordT k (a+1) d m=wordT k a d m++[combT (coefR k a) d m]:=by simp[wordT,List.range_succ]
end Go.Proofs.YtcfkllnpkmebpaaGreatDoor

namespace Go.Proofs.YtcfkllnpkmebpaaGreatDoor
open Go.RowKit
set_option linter.unusedVariables false
set_option linter.unusedSimpArgs false
end Go.Proofs.YtcfkllnpkmebpaaGreatDoor

namespace Go.Proofs.YtcfkllnpkmebpaaGreatDoor
open Go.RowKit
set_option linter.unusedVariables false
set_option linter.unusedSimpArgs false
theorem info_bool:(Tryz.prog.info? 4).map (fun i=>(i.zero,i.size,i.bytes))=some (some (.bool false),1,1):=by kernel_rfl
theorem conv_bytes{w:World} {R:Nat→Prop} {v:Value} {l:List UInt8} (h:ByS w R v l):(convert 53 9 v).run Tryz.prog w=.ok (.string ⟨l.toArray⟩) w :=
 h.conv Tryz.underlying53 Tryz.underlying5 Tryz.underlying9
theorem only_set1(w:World) (g i:Nat) (u:Value):w.grownBy (w.setCell ⟨g,i,none⟩ u) (some g) :=
 ⟨rfl,rfl,rfl,by simp[World.setCell],fun k hk hne=>Below.heap_setCell w _ u k (fun e=>hne (by rw[e]))⟩
end Go.Proofs.YtcfkllnpkmebpaaGreatDoor

namespace Go.Proofs.YtcfkllnpkmebpaaGreatDoor
def crcBit(r:Nat):Nat:=if r / 2147483648=1 then(r * 2 % 4294967296) ^^^ 517762881 else r * 2 % 4294967296
def crcBits:Nat→Nat→Nat
 | 0,r=>r
 | n+1,r=>crcBits n (crcBit r)
def crcByte(r:Nat) (c:UInt8):Nat:=crcBits 8 (r ^^^ (c.toNat * 16777216))
def crc(l:List UInt8):Nat:=l.foldl crcByte 4294967295
theorem crcBit_lt(r:Nat):crcBit r<4294967296:=by
 unfold crcBit;split
 ·exact Nat.xor_lt_two_pow (n:=32) (by omega) (by omega)
 ·omega
theorem crcBits_lt(n:Nat):∀r,r<4294967296→crcBits n r<4294967296:=by
 induction n with
 | zero=>intro r h;exact h
 | succ n ih=>intro r _;exact ih _ (crcBit_lt r)
theorem crcBits_succ(n:Nat):∀r,crcBits (n+1) r=crcBit (crcBits n r):=by
 induction n with
 | zero=>intro r;rfl
 | succ n ih=>intro r;exact ih (crcBit r)
theorem byte_top(c:UInt8):c.toNat * 16777216<4294967296:=by have:=c.toNat_lt;omega
theorem crcByte_lt(r:Nat) (c:UInt8) (h:r<4294967296):crcByte r c<4294967296 :=
 crcBits_lt _ _ (Nat.xor_lt_two_pow (n:=32) h (byte_top c))
theorem crc_fold_lt(l:List UInt8):∀r,r<4294967296→l.foldl crcByte r<4294967296:=by
 induction l with
 | nil=>intro r h;exact h
 | cons c l ih=>intro r h;exact ih _ (crcByte_lt r c h)
theorem crc_lt(l:List UInt8):crc l<4294967296:=crc_fold_lt l _ (by omega)
theorem crc_snoc(l:List UInt8) (c:UInt8):crc (l++[c])=crcByte (crc l) c:=by simp[crc,List.foldl_append]
def beTo(n size k:Nat):List UInt8:=(List.range k).map fun j=>UInt8.ofNat (n / 256 ^ (size - 1 - j))
theorem beTo_length(n size k:Nat):(beTo n size k).length=k:=by simp[beTo]
theorem beTo_succ(n size k:Nat):beTo n size (k+1)=beTo n size k++[UInt8.ofNat (n / 256 ^ (size - 1 - k))]:=by simp[beTo,List.range_succ]
theorem pow_256(m:Nat):2 ^ (8 * m)=256 ^ m:=by rw[Nat.pow_mul]
theorem byte_of(n m:Nat):(n:Int) / 2 ^ (8 * m) % 256=((UInt8.ofNat (n / 256 ^ m)).toNat:Int):=by
 rw[UInt8.toNat_ofNat',←pow_256]
 have e:((n / 2 ^ (8 * m) % 2 ^ 8:Nat):Int)=(n:Int) / 2 ^ (8 * m) % 256:=by simp
 rw[e]
theorem ofInt_i64(a:Nat) (ha:a<9223372036854775808):(BitVec.ofInt 64 (a:Int)).toNat=a:=by
 rw[BitVec.ofInt_natCast,BitVec.toNat_ofNat];exact Nat.mod_eq_of_lt (by omega)
theorem i64_or_nat(a b:Nat) (ha:a<9223372036854775808) (hb:b<9223372036854775808):bits .or .i64 (a:Int) (b:Int)=((a ||| b:Nat):Int):=by
 have hx:a ||| b<2 ^ 63:=Nat.or_lt_two_pow (by omega) (by omega);show IntKind.i64.wrap ((BitVec.ofInt 64 (a:Int) ||| BitVec.ofInt 64 (b:Int)).toNat:Int)=_;rw[BitVec.toNat_or,ofInt_i64 a ha,ofInt_i64 b hb,IntKind.wrap_i64];omega
def num(l:List UInt8):Nat:=l.foldl (fun a c=>a * 256+c.toNat) 0
theorem num_snoc(l:List UInt8) (c:UInt8):num (l++[c])=num l * 256+c.toNat:=by simp[num,List.foldl_append]
theorem num_lt(l:List UInt8):num l<256 ^ l.length:=by
 suffices h:∀(l:List UInt8) (a k:Nat),a<256 ^ k→l.foldl (fun a c=>a * 256+c.toNat) a<256 ^ (k+l.length) by have:=h l 0 0 (by decide);rw[Nat.zero_add] at this;exact this
 intro l
 induction l with
 | nil=>intro a k h;exact h
 | cons c l ih =>
  intro a k h;have hc:=c.toNat_lt;have:=ih (a * 256+c.toNat) (k+1) (by rw[Nat.pow_succ];have:a+1≤256 ^ k:=h;omega);rw[List.length_cons,show k+(l.length+1)=k+1+l.length from by omega];exact this
theorem num_or(n:Nat) (c:UInt8) (hn:n<36028797018963968):bits .or .i64 ((n:Int) * 256) (c.toNat:Int)=((n * 256+c.toNat:Nat):Int):=by
 have hc:=c.toNat_lt;rw[show(n:Int) * 256=((n * 256:Nat):Int) from by omega,i64_or_nat _ _ (by omega) (by omega),nat_join 8 (n * 256) c.toNat (by omega) (by omega)]
end Go.Proofs.YtcfkllnpkmebpaaGreatDoor

namespace Go.Proofs.YtcfkllnpkmebpaaGreatDoor
def sealB(l:List UInt8):List UInt8:=l++beTo (crc l) 4 4
end Go.Proofs.YtcfkllnpkmebpaaGreatDoor

namespace Go.Proofs.YtcfkllnpkmebpaaGreatDoor
open Go.RowKit
set_option linter.unusedVariables false
set_option linter.unusedSimpArgs false
def within(x n:Int):Int:=if n<1 then 0 else x % n
theorem within_small(x n:Int) (h:n<1):within x n=0:=by unfold within;rw[if_pos h]
theorem within_range(x n:Int) (h:1≤n):0≤within x n∧within x n<n:=by
 unfold within;rw[if_neg (by omega)];exact⟨Int.emod_nonneg _ (by omega),Int.emod_lt_of_pos _ (by omega)⟩
theorem tmod_cases{x n:Int} (hn:1≤n):x.tmod n=x % n∨(x.tmod n=x % n - n∧0<x % n):=by
 have e:=Int.tmod_eq_emod (a:=x) (b:=n);have h1:=Int.emod_nonneg x (show n≠0 by omega);by_cases h:0≤x∨n ∣ x
 ·rw[if_pos h] at e;left;omega
 ·rw[if_neg h] at e
  have h2:x % n≠0:=fun h0=>h (.inr (Int.dvd_of_emod_eq_zero h0))
  right;omega
theorem tmod_neg{x n:Int} (hn:1≤n) (h:x.tmod n<0):x.tmod n+n=x % n ∧ -n<x.tmod n:=by
 have h1:=Int.emod_nonneg x (show n≠0 by omega);rcases tmod_cases (x:=x) hn with e | ⟨e,h2⟩ <;> omega
theorem tmod_pos{x n:Int} (hn:1≤n) (h:0≤x.tmod n):x.tmod n=x % n:=by
 have h1:=Int.emod_lt_of_pos x (show 0<n by omega);rcases tmod_cases (x:=x) hn with e | ⟨e,h2⟩ <;> omega
theorem within_any(x n:Int) (w:World) (hx:I64 x) (hn:I64 n) :
  Calls Tryz.prog 18 #[.int .i64 x,.int .i64 n] w fun e w'=>e=.returned (.int .i64 (within x n))∧w=w':=by
 obtain⟨h0,h1⟩:=hx;obtain⟨g0,g1⟩:=hn;go_enter Tryz.func18,Tryz.ntmps18;go_wp2
 ·go_ret;exact⟨ret_int (within_small _ _ (by assumption)).symm,rfl⟩
 ·go_ret
  have hn:1≤n:=by assumption
  have h:=tmod_neg hn (by assumption);refine⟨ret_int ?_,rfl⟩;show wrap64 _=_;rw[IntWalk.wrap64_in _ (by omega),h.1];unfold within;rw[if_neg (by omega)]
 ·go_ret
  have hn:1≤n:=by assumption
  refine⟨ret_int ?_,rfl⟩;show Int.tmod _ _=_;rw[tmod_pos hn (by assumption)];unfold within;rw[if_neg (by omega)]
def TapeB(W:World) (g:Nat) (vl:Value) (I:Nat):Prop:=W.heap[g]?=some (.cells #[vl,.int .i64 (I:Int)] 75 (0,0))
theorem TapeB.cells{W:World} {g:Nat} {vl:Value} {I:Nat} (h:TapeB W g vl I):W.cell? ⟨g,0,none⟩=some vl∧W.cell? ⟨g,1,none⟩=some (.int .i64 (I:Int))∧W.frozen? ⟨g,1,none⟩=false∧g<W.heap.size:=by
 have h0:=cell_of_row W g 0 _ _ _ h;have h1:=cell_of_row W g 1 _ _ _ h;exact⟨by simpa using h0,by simpa using h1,frozen_of_row W g 1 _ _ h,block_lt_of_cell h0⟩
def tapeX(xs:List Int) (I:Nat):Int:=if h:I<xs.length then xs[I] else((I:Int) % 3)
theorem only_set2{a w:World} {g:Nat} (h:a.grownBy w (some g)) (i:Nat) (u:Value):a.grownBy (w.setCell ⟨g,i,none⟩ u) (some g) :=
 ⟨h.os,h.tape,h.output,by simpa[World.setCell] using h.size,fun k hk hne=>(Below.heap_setCell w _ u k (fun e=>hne (by rw[e]))).trans (h.block k hk hne)⟩
theorem only_drew2{a w:World} {g:Nat} (h:a.grownBy w (some g)) (n:Nat):a.grownBy (w.drewN n) (some g):=⟨h.os,h.tape,h.output,h.size,h.block⟩
theorem only_refl2(w:World) (g:Nat):w.grownBy w (some g):=⟨rfl,rfl,rfl,Nat.le_refl _,fun _ _ _=>rfl⟩
theorem next_any(g:Nat) (vl:Value) (xs:List Int) (I:Nat) (n:Int) (w:World) (R:Nat→Prop) (hT:TapeB w g vl I) (hx:IntS w R vl xs) (hI:I≤4611686018427387904) (hn:I64 n) :
  Calls Tryz.prog 32 #[.pointer (some ⟨g,0,none⟩),.int .i64 n] w fun e w'=>e=.returned (.int .i64 (within (tapeX xs I) n))∧TapeB w' g vl (I+1)∧w.grownBy w' (some g):=by
 obtain⟨c0,c1,f1,hg⟩:=hT.cells;obtain⟨g0,g1⟩:=hn
 obtain⟨A,c,rfl,-,hm⟩:∃A c,vl=.slice A xs.length c∧xs.length≤c∧xs.length≤maxLen:=by
  obtain⟨⟨A',c',e,h1,h2,h3⟩,h4⟩:=hx;exact⟨A',c',e,h1,h2⟩
 unfold maxLen at hm;have hT2:=heap_setCell_same w g 1 _ _ (.int .i64 ((I+1:Nat):Int)) hT
 have e1:(((I+1:Nat):Int))=(I:Int)+1:=by omega
 rw[e1] at hT2;have HT2:=zh hT2
 have i0:(0:Int)≤(I:Int):=by omega
 by_cases hlt:I<xs.length
 ·have hx0:tapeX xs I=xs[I]:=dif_pos hlt
  obtain⟨b,off,hA,hc,h64⟩:∃b off,A=some ⟨b,off,none⟩∧w.cell? ⟨b,off+I,none⟩=some (.int .i64 xs[I])∧I64 xs[I]:=by
   obtain⟨⟨A',c',e,_,_,h3⟩,h4⟩:=hx;obtain⟨b,off,e2,hb,hc⟩:=h3 (by omega);injection e with e;exact⟨b,off,e.trans e2,hc I _ (List.getElem?_eq_getElem hlt),h4 _ (List.getElem_mem hlt)⟩
  subst hA;rw[hx0];obtain⟨x,hxx⟩:=zx (xs[I]);rw[←hxx] at hc h64 ⊢;obtain⟨h0,h1⟩:=h64
  have il:(I:Int)<(xs.length:Int):=by omega
  clear hx0 hxx hT hx e1 hT2;go_enter Tryz.func32,Tryz.ntmps32;go_wp2_with fail
  go_quiet (fail)
  go_wp2_with fail
  go_quiet (fail)
  go_wp2
  ·go_ret;exact⟨ret_int (within_small _ _ (by assumption)).symm,HT2.out,only_set2 (only_drew2 (only_refl2 w g) _) 1 _⟩
  ·go_ret
   have hn:1≤n:=by assumption
   have h:=tmod_neg hn (by assumption);refine⟨ret_int ?_,HT2.out,only_set2 (only_drew2 (only_refl2 w g) _) 1 _⟩;show wrap64 _=_;rw[IntWalk.wrap64_in _ (by omega),h.1];unfold within;rw[if_neg (by omega)]
  ·go_ret
   have hn:1≤n:=by assumption
   refine⟨ret_int ?_,HT2.out,only_set2 (only_drew2 (only_refl2 w g) _) 1 _⟩;show Int.tmod _ _=_;rw[tmod_pos hn (by assumption)];unfold within;rw[if_neg (by omega)]
 ·have hx0:tapeX xs I=(I:Int) % 3:=dif_neg hlt;rw[hx0];obtain⟨x,hxx⟩:=zx ((I:Int) % 3);rw[←hxx];have HXX:=zh hxx
  have il:¬(I:Int)<(xs.length:Int):=by omega
  clear hx0 hxx hT hx e1 hT2;go_enter Tryz.func32,Tryz.ntmps32;go_wp2_with fail
  go_quiet (fail)
  go_wp2
  ·go_ret;exact⟨ret_int (within_small _ _ (by assumption)).symm,HT2.out,only_set2 (only_drew2 (only_refl2 w g) _) 1 _⟩
  ·go_ret
   have hn:1≤n:=by assumption
   refine⟨ret_int ?_,HT2.out,only_set2 (only_drew2 (only_refl2 w g) _) 1 _⟩;rw[HXX.out];unfold within;rw[if_neg (by omega)]
end Go.Proofs.YtcfkllnpkmebpaaGreatDoor

namespace Go.Proofs.YtcfkllnpkmebpaaGreatDoor
open Go.RowKit
set_option linter.unusedVariables false
set_option linter.unusedSimpArgs false
end Go.Proofs.YtcfkllnpkmebpaaGreatDoor

namespace Go.Proofs.YtcfkllnpkmebpaaGreatDoor
open Go.RowKit
set_option linter.unusedVariables false
set_option linter.unusedSimpArgs false
end Go.Proofs.YtcfkllnpkmebpaaGreatDoor

namespace Go.Proofs.YtcfkllnpkmebpaaGreatDoor
open Go.RowKit
set_option linter.unusedVariables false
set_option linter.unusedSimpArgs false
end Go.Proofs.YtcfkllnpkmebpaaGreatDoor

namespace Go.Proofs.YtcfkllnpkmebpaaGreatDoor
open Go.RowKit
set_option linter.unusedVariables false
end Go.Proofs.YtcfkllnpkmebpaaGreatDoor

namespace Go.Proofs.YtcfkllnpkmebpaaGreatDoor
open Go.RowKit
set_option linter.unusedVariables false
set_option linter.unusedSimpArgs false
end Go.Proofs.YtcfkllnpkmebpaaGreatDoor

namespace Go.Proofs.YtcfkllnpkmebpaaGreatDoor
open Go.RowKit
set_option linter.unusedVariables false
set_option linter.unusedSimpArgs false
theorem take_snoc(s:ByteArray) (k:Nat) (h:k<s.size):s.data.toList.take (k+1)=s.data.toList.take k++[s[k]]:=by
 rw[List.take_succ_eq_append_getElem (by simpa using h)];rfl
theorem take_all(s:ByteArray):s.data.toList.take s.size=s.data.toList:=List.take_of_length_le (by rw[Array.length_toList];exact Nat.le_refl _)
def crcPart(s:ByteArray) (k:Nat):Nat:=crc (s.data.toList.take k)
theorem crcPart_lt(s:ByteArray) (k:Nat):crcPart s k<4294967296:=crc_lt _
theorem crcPart_succ(s:ByteArray) (k:Nat) (h:k<s.size):crcPart s (k+1)=crcBits 8 (crcPart s k ^^^ (s[k].toNat * 16777216)):=by
 unfold crcPart;rw[take_snoc s k h,crc_snoc];rfl
theorem crc_in(s:ByteArray) (k:Nat) (c:UInt8):bits .xor .u32 (crcPart s k:Int) ((c.toNat:Int) % 4294967296 * 16777216 % 4294967296)=((crcPart s k ^^^ (c.toNat * 16777216):Nat):Int):=by
 have hc:=c.toNat_lt
 have e:(c.toNat:Int) % 4294967296 * 16777216 % 4294967296=((c.toNat * 16777216:Nat):Int):=by
  have:=byte_top c;omega
 rw[e];exact u32_xor_nat _ _ (crcPart_lt s k) (byte_top c)
theorem crc_hit(x:Nat) (h:((x:Int) / 2147483648==1)=true):bits .xor .u32 ((x:Int) * 2 % 4294967296) 517762881=(crcBit x:Int):=by
 have h':x / 2147483648=1:=by have:=eq_of_beq h;omega
 have e:(x:Int) * 2 % 4294967296=((x * 2 % 4294967296:Nat):Int):=by omega
 rw[e,show(517762881:Int)=((517762881:Nat):Int) from rfl,u32_xor_nat _ _ (by omega) (by omega)];unfold crcBit;rw[if_pos h']
theorem crc_miss(x:Nat) (h:((x:Int) / 2147483648==1)=false):(x:Int) * 2 % 4294967296=(crcBit x:Int):=by
 have h':¬x / 2147483648=1:=by
  intro e
  have:(x:Int) / 2147483648=1:=by omega
  rw[this] at h
  cases h
 unfold crcBit;rw[if_neg h'];omega
theorem xor_top_lt(s:ByteArray) (k:Nat) (c:UInt8):crcPart s k ^^^ (c.toNat * 16777216)<4294967296:=Nat.xor_lt_two_pow (n:=32) (crcPart_lt s k) (byte_top c)
theorem big_any(n size:Nat) (w:World) (hn:n≤18446744073709551615) (hs:size≤8) :
  Calls Tryz.prog 88 #[.int .u64 n,.int .i64 size] w fun e w'=>e=.returned (.string ⟨(beTo n size size).toArray⟩)∧Below w.heap.size w w':=by
 go_enter Tryz.func88,Tryz.ntmps88;go_wp2
 go_loopw [5,6] (fun v i wr=>∃k:Nat,k≤size∧i=.int .i64 ((size:Int) - 1 - k)∧wr.ownsRow w.heap.size 5 1 v k (bys (beTo n size k))∧Below w.heap.size w wr) (fun _ i _=>(intOf i+1).toNat)
 case atStart=>exact⟨0,Nat.zero_le _,by go_num,World.ownsRow_nil _ _ _ _,Below.refl _ _⟩
 case round =>
  obtain⟨k,hk,rfl,hown,hb⟩:=hrel;have hsz:=hb.size;by_cases hlt:k<size
  ·have h0:decide ((0:Int)≤(size:Int) - 1 - k)=true:=by simp;omega
   go_wp2_with (at_builtin;refine app_u8 (.tmp 13) (.tmp 20) rfl rfl _ _ _ _ (by rfl) hown (by rfl) rfl (by omega) hsz ?_;intro v' w1 hown' hg hat)
   go_roundw
   case rel=>exact⟨k+1,by omega,by go_num,by rw[beTo_succ,bys_snoc,←byte_of];exact hown',(hb.grown hg hsz (fun b h=>(hown.lt b h).1))⟩
   case measure=>simp[intOf];omega
  ·obtain rfl:k=size:=by omega
   have h0:decide ((0:Int)≤(k:Int) - 1 - k)=false:=by simp;omega
   have hcv:=conv_bytes (ByS.own (R:=Bl wr.heap.size) hown (fun b h=>(hown.lt b h).2));go_wp2;go_ret;exact⟨rfl,hb⟩
theorem refsum_any(s:ByteArray) (w:World) (hs:s.size≤maxLen) :
  Calls Tryz.prog 120 #[.string s] w fun e w'=>e=.returned (.int .u32 (crc s.data.toList:Nat))∧w=w':=by
 unfold maxLen at hs;go_enter Tryz.func120,Tryz.ntmps120;go_wp2
 go_loop [3,4] (fun r k=>∃j:Nat,j≤s.size∧k=.int .i64 j∧r=.int .u32 (crcPart s j:Nat)) (fun r k=>s.size - (intOf k).toNat)
 case atStart=>exact⟨0,Nat.zero_le _,rfl,rfl⟩
 case round =>
  obtain⟨j,hj,rfl,rfl⟩:=hrel;by_cases hlt:j<s.size
  ·go_wp2
   go_loop [3,5] (fun r k=>∃i:Nat,i≤8∧k=.int .i64 i∧r=.int .u32 (crcBits i (crcPart s j ^^^ (s[j].toNat * 16777216)):Nat)) (fun r k=>8 - (intOf k).toNat)
   case atStart=>exact⟨0,by omega,rfl,by rw[crc_in];rfl⟩
   case round =>
    obtain⟨i,hi,rfl,rfl⟩:=hrel;have hb:=crcBits_lt i _ (xor_top_lt s j s[j]);have hsucc:=zh (crcBits_succ i (crcPart s j ^^^ (s[j].toNat * 16777216)));obtain⟨x,hx⟩:=zx (crcBits i (crcPart s j ^^^ (s[j].toNat * 16777216)));have HX:=zh hx;rw[←hx] at hb;by_cases hi8:i<8
    ·rw[←hx];clear hx;go_wp2
     ·go_round
      case rel=>exact⟨i+1,by omega,by go_num,by rw[crc_hit x (by assumption),hsucc.out,HX.out]⟩
      case measure=>simp[intOf];omega
     ·go_round
      case rel=>exact⟨i+1,by omega,by go_num,by rw[crc_miss x (by assumption),hsucc.out,HX.out]⟩
      case measure=>simp[intOf];omega
    ·obtain rfl:i=8:=by omega
     rw[←hx];clear hx;have hp:=zh (crcPart_succ s j hlt);go_wp2
     go_round
     case rel=>exact⟨j+1,by omega,by go_num,by rw[hp.out,HX.out]⟩
     case measure=>simp[intOf];omega
  ·obtain rfl:j=s.size:=by omega
   go_wp2;go_ret;exact⟨ret_int (by unfold crcPart;rw[take_all]),rfl⟩
theorem number_any(s:ByteArray) (w:World) (hs:s.size≤7) :
  Calls Tryz.prog 134 #[.string s] w fun e w'=>e=.returned (.int .i64 (num s.data.toList:Nat))∧w=w':=by
 go_enter Tryz.func134,Tryz.ntmps134;go_wp2
 go_loop [3,4] (fun r k=>∃j:Nat,j≤s.size∧k=.int .i64 j∧r=.int .i64 (num (s.data.toList.take j):Nat)) (fun r k=>s.size - (intOf k).toNat)
 case atStart=>exact⟨0,Nat.zero_le _,rfl,rfl⟩
 case round =>
  obtain⟨j,hj,rfl,rfl⟩:=hrel;by_cases hjs:j<s.size
  ·have hl:(s.data.toList.take j).length≤6:=by
    have:(s.data.toList.take j).length≤j:=List.length_take_le _ _;omega
   have hlt:=num_lt (s.data.toList.take j)
   have hsn:num (s.data.toList.take (j+1))=num (s.data.toList.take j) * 256+s[j].toNat:=by rw[take_snoc s j hjs,num_snoc]
   generalize num (s.data.toList.take j)=n at *
   have hn:n<36028797018963968:=by
    refine Nat.lt_of_lt_of_le hlt ?_
    calc 256 ^ (s.data.toList.take j).length≤256 ^ 6:=Nat.pow_le_pow_right (by omega) (by omega)
     _≤_:=by decide
   have Hsn:=zh hsn;clear hsn hlt;have ho:=num_or n s[j] hn;have hc:s[j].toNat<256:=s[j].toNat_lt;go_wp2
   go_round
   case rel=>exact⟨j+1,by omega,by go_num,by rw[Hsn.out];go_num⟩
   case measure=>simp[intOf];omega
  ·obtain rfl:j=s.size:=by omega
   go_wp2;go_ret;exact⟨ret_int (by rw[take_all]),rfl⟩
theorem sealed_any(l:List UInt8) (w:World) (hl:l.length≤65536) :
  Calls Tryz.prog 89 #[.string ⟨l.toArray⟩] w fun e w'=>e=.returned (.string ⟨(sealB l).toArray⟩)∧Below w.heap.size w w':=by
 have hc:=crc_lt l
 have hbl:(beTo (crc l) 4 4).length≤4:=by rw[beTo_length];omega
 have hs:((⟨l.toArray⟩:ByteArray).size:Int)≤65536:=by show((l.toArray.size:Nat):Int)≤65536;simp;omega
 have h1:=refsum_any ⟨l.toArray⟩ w (by unfold maxLen;omega);have h2:=big_any (crc l) 4 w (by omega) (by omega);have H1:=zh h1;have H2:=zh h2;clear h1 h2;go_enter Tryz.func89,Tryz.ntmps89;go_wp2_with fail;refine H1.out.mono ?_;rintro e w1 ⟨rfl,rfl⟩;go_wp2_with fail;refine H2.out.mono ?_;rintro e w1 ⟨rfl,hb⟩;go_wp2;go_ret;exact⟨by rw[ByteArray.mk_append_mk];rfl,hb⟩
theorem pow7:∀k:Nat,k<8→(128:Int) / 2 ^ k=((2 ^ (7 - k):Nat):Int)∧2 ^ (7 - k)<256:=by decide
theorem flip_byte(c:UInt8) (k:Nat) (hk:k<8):∃y:UInt8,bits .xor .u8 (c.toNat:Int) (128 / 2 ^ k)=(y.toNat:Int)∧y.toNat=c.toNat ^^^ 2 ^ (7 - k):=by
 have hc:=c.toNat_lt;obtain⟨h1,h2⟩:=pow7 k hk;have h:c.toNat ^^^ 2 ^ (7 - k)<256:=Nat.xor_lt_two_pow (n:=8) (by omega) (by omega);rw[h1];generalize 2 ^ (7 - k)=m at *;refine⟨UInt8.ofNat (c.toNat ^^^ m),?_,?_⟩
 ·rw[u8_xor _ _ (by omega) (by omega) (by omega) (by omega),UInt8.toNat_ofNat',Nat.mod_eq_of_lt (by simpa using h)];simp
 ·rw[UInt8.toNat_ofNat',Nat.mod_eq_of_lt (by simpa using h)]
end Go.Proofs.YtcfkllnpkmebpaaGreatDoor

namespace Go.Proofs.YtcfkllnpkmebpaaGreatDoor
open Go.RowKit
set_option linter.unusedVariables false
set_option linter.unusedSimpArgs false
structure Pc where
 vol:Int
 frag:Int
 stripe:Int
 gen:Int
 ver:Int
 data:List UInt8
def validP(p:Pc):Bool:=decide (0≤p.vol∧p.vol<12∧0≤p.frag∧p.frag<8∧0≤p.stripe∧p.stripe<4∧1≤p.gen∧p.gen≤1099511627775∧1≤p.ver∧p.ver≤1099511627775∧p.data.length=16)
theorem validP_no{a b c g r:Int} {l:List UInt8} (h:¬(0≤a∧a<12∧0≤b∧b<8∧0≤c∧c<4∧1≤g∧g≤1099511627775∧1≤r∧r≤1099511627775∧l.length=16)):validP ⟨a,b,c,g,r,l⟩=false:=by
 unfold validP;exact decide_eq_false h
theorem validP_yes{a b c g r:Int} {l:List UInt8} (h:0≤a∧a<12∧0≤b∧b<8∧0≤c∧c<4∧1≤g∧g≤1099511627775∧1≤r∧r≤1099511627775∧l.length=16):validP ⟨a,b,c,g,r,l⟩=true:=by
 unfold validP;exact decide_eq_true h
theorem validP_iff{p:Pc}:validP p=true↔0≤p.vol∧p.vol<12∧0≤p.frag∧p.frag<8∧0≤p.stripe∧p.stripe<4∧1≤p.gen∧p.gen≤1099511627775∧1≤p.ver∧p.ver≤1099511627775∧p.data.length=16:=by
 unfold validP;exact decide_eq_true_iff
def PcV(p:Pc):Value:=.agg #[.int .i64 p.vol,.int .i64 p.frag,.int .i64 p.stripe,.int .i64 p.gen,.int .i64 p.ver,.string ⟨p.data.toArray⟩]
def PcI(p:Pc):Prop:=I64 p.vol∧I64 p.frag∧I64 p.stripe∧I64 p.gen∧I64 p.ver∧p.data.length≤maxLen
theorem size_of(l:List UInt8):(⟨l.toArray⟩:ByteArray).size=l.length:=by show l.toArray.size=_;simp
theorem refsvalid_any(p:Pc) (w:World) (hp:PcI p) :
  Calls Tryz.prog 87 #[PcV p] w fun e w'=>e=.returned (.bool (validP p))∧Below w.heap.size w w':=by
 obtain⟨a,b,c,g,r,l⟩:=p;obtain⟨⟨a0,a1⟩,⟨b0,b1⟩,⟨c0,c1⟩,⟨g0,g1⟩,⟨r0,r1⟩,hl⟩:=hp;unfold PcV;simp only at a0 a1 b0 b1 c0 c1 g0 g1 r0 r1 hl ⊢;have hz:=size_of l;generalize (⟨l.toArray⟩:ByteArray)=s at *;unfold maxLen at hl
 have hs:s.size≤9223372036854775807:=by omega
 by_cases h1:0≤a;rotate_left
 ·rw[validP_no (fun h=>h1 (h.1))]
  skip
  clear hz hl;go_enter Tryz.func87,Tryz.ntmps87;go_wp2;go_ret;exact⟨rfl,(Below.refl _ _).alloc (Nat.le_refl _) _⟩
 by_cases h2:a<12;rotate_left
 ·rw[validP_no (fun h=>h2 (h.2.1))]
  skip
  clear hz hl;go_enter Tryz.func87,Tryz.ntmps87;go_wp2;go_ret;exact⟨rfl,(Below.refl _ _).alloc (Nat.le_refl _) _⟩
 by_cases h3:0≤b;rotate_left
 ·rw[validP_no (fun h=>h3 (h.2.2.1))]
  skip
  clear hz hl;go_enter Tryz.func87,Tryz.ntmps87;go_wp2;go_ret;exact⟨rfl,(Below.refl _ _).alloc (Nat.le_refl _) _⟩
 by_cases h4:b<8;rotate_left
 ·rw[validP_no (fun h=>h4 (h.2.2.2.1))]
  skip
  clear hz hl;go_enter Tryz.func87,Tryz.ntmps87;go_wp2;go_ret;exact⟨rfl,(Below.refl _ _).alloc (Nat.le_refl _) _⟩
 by_cases h5:0≤c;rotate_left
 ·rw[validP_no (fun h=>h5 (h.2.2.2.2.1))]
  skip
  clear hz hl;go_enter Tryz.func87,Tryz.ntmps87;go_wp2;go_ret;exact⟨rfl,(Below.refl _ _).alloc (Nat.le_refl _) _⟩
 by_cases h6:c<4;rotate_left
 ·rw[validP_no (fun h=>h6 (h.2.2.2.2.2.1))]
  skip
  clear hz hl;go_enter Tryz.func87,Tryz.ntmps87;go_wp2;go_ret;exact⟨rfl,(Below.refl _ _).alloc (Nat.le_refl _) _⟩
 by_cases h7:1≤g;rotate_left
 ·rw[validP_no (fun h=>h7 (h.2.2.2.2.2.2.1))]
  skip
  clear hz hl;go_enter Tryz.func87,Tryz.ntmps87;go_wp2;go_ret;exact⟨rfl,(Below.refl _ _).alloc (Nat.le_refl _) _⟩
 by_cases h8:g≤1099511627775;rotate_left
 ·rw[validP_no (fun h=>h8 (h.2.2.2.2.2.2.2.1))]
  skip
  clear hz hl;go_enter Tryz.func87,Tryz.ntmps87;go_wp2;go_ret;exact⟨rfl,(Below.refl _ _).alloc (Nat.le_refl _) _⟩
 by_cases h9:1≤r;rotate_left
 ·rw[validP_no (fun h=>h9 (h.2.2.2.2.2.2.2.2.1))]
  skip
  clear hz hl;go_enter Tryz.func87,Tryz.ntmps87;go_wp2;go_ret;exact⟨rfl,(Below.refl _ _).alloc (Nat.le_refl _) _⟩
 by_cases h10:r≤1099511627775;rotate_left
 ·rw[validP_no (fun h=>h10 (h.2.2.2.2.2.2.2.2.2.1))]
  skip
  clear hz hl;go_enter Tryz.func87,Tryz.ntmps87;go_wp2;go_ret;exact⟨rfl,(Below.refl _ _).alloc (Nat.le_refl _) _⟩
 by_cases h11:l.length=16;rotate_left
 ·rw[validP_no (fun h=>h11 (h.2.2.2.2.2.2.2.2.2.2))]
  have e16:((s.size:Int)==16)=false:=by simp;omega
  clear h11;clear hz hl;go_enter Tryz.func87,Tryz.ntmps87;go_wp2;go_ret;exact⟨rfl,(Below.refl _ _).alloc (Nat.le_refl _) _⟩
 rw[validP_yes ⟨h1,h2,h3,h4,h5,h6,h7,h8,h9,h10,h11⟩]
 have e16:s.size=16:=by omega
 clear h11;clear hz hl;go_enter Tryz.func87,Tryz.ntmps87;go_wp2;go_ret;exact⟨rfl,(Below.refl _ _).alloc (Nat.le_refl _) _⟩
end Go.Proofs.YtcfkllnpkmebpaaGreatDoor

namespace Go.Proofs.YtcfkllnpkmebpaaGreatDoor
open Go.RowKit
set_option linter.unusedVariables false
set_option linter.unusedSimpArgs false
def headB(p:Pc):List UInt8:=[93,UInt8.ofNat p.vol.toNat,UInt8.ofNat p.frag.toNat,UInt8.ofNat p.stripe.toNat]++beTo p.gen.toNat 5 5++beTo p.ver.toNat 5 5++[0,0]++p.data
def encB(p:Pc):List UInt8:=sealB (headB p)
def encS(p:Pc):List UInt8:=if validP p then encB p else []
def encE(p:Pc):Int:=if validP p then 0 else 100
theorem sealed_str(s:ByteArray) (w:World) (hl:s.size≤65536) :
  Calls Tryz.prog 89 #[.string s] w fun e w'=>e=.returned (.string ⟨(sealB s.data.toList).toArray⟩)∧Below w.heap.size w w':=by
 have h:=sealed_any s.data.toList w (by rw[Array.length_toList];exact hl)
 rwa [Array.toArray_toList] at h
def Held6(W:World) (q:Nat) (v0 v1 v2 v3 v4 v5:Value) (w':World):Prop :=
 w'.cell? ⟨q,0,none⟩=some v0∧w'.cell? ⟨q,1,none⟩=some v1∧w'.cell? ⟨q,2,none⟩=some v2∧w'.cell? ⟨q,3,none⟩=some v3∧w'.cell? ⟨q,4,none⟩=some v4∧w'.cell? ⟨q,5,none⟩=some v5∧Below W.heap.size W w'
theorem Held6.below{W wc w2:World} {q:Nat} {v0 v1 v2 v3 v4 v5:Value} (h:Held6 W q v0 v1 v2 v3 v4 v5 wc) (hb:Below wc.heap.size wc w2) (hq:q<W.heap.size):Held6 W q v0 v1 v2 v3 v4 v5 w2:=by
 obtain⟨h0,h1,h2,h3,h4,h5,h6⟩:=h;have hs:=h6.size
 have k:∀i,w2.cell? ⟨q,i,none⟩=wc.cell? ⟨q,i,none⟩:=fun i=>hb.cell (p:=⟨q,i,none⟩) (Nat.lt_of_lt_of_le hq hs)
 exact⟨(k 0).trans h0,(k 1).trans h1,(k 2).trans h2,(k 3).trans h3,(k 4).trans h4,(k 5).trans h5,h6.trans (hb.mono hs)⟩
theorem Held6.alloc{W wc:World} {q:Nat} {v0 v1 v2 v3 v4 v5:Value} {o:Obj} (h:Held6 W q v0 v1 v2 v3 v4 v5 wc) (hq:q<W.heap.size):Held6 W q v0 v1 v2 v3 v4 v5 (wc.alloc o):=h.below ((Below.refl _ _).alloc (Nat.le_refl _) o) hq
theorem conv4(a b c d:UInt8) (W:World) (q:Nat) (h0:W.cell? ⟨q,0,none⟩=some (.int .u8 (a.toNat:Int))) (h1:W.cell? ⟨q,1,none⟩=some (.int .u8 (b.toNat:Int))) (h2:W.cell? ⟨q,2,none⟩=some (.int .u8 (c.toNat:Int))) (h3:W.cell? ⟨q,3,none⟩=some (.int .u8 (d.toNat:Int))) :
  (convert 53 9 (.slice (some ⟨q,0,none⟩) 4 4)).run Tryz.prog W=.ok (.string ⟨[a,b,c,d].toArray⟩) W:=by
 refine conv_bytes (R:=fun _=>True) ⟨_,4,rfl,Nat.le_refl _,by unfold maxLen;simp,fun _=>⟨q,0,rfl,trivial,fun k x hx=>?_⟩⟩;have hk:k<4:=(List.getElem?_eq_some_iff.1 hx).1
 match k,hk with
 | 0,_=>simp at hx;subst hx;exact h0
 | 1,_=>simp at hx;subst hx;exact h1
 | 2,_=>simp at hx;subst hx;exact h2
 | 3,_=>simp at hx;subst hx;exact h3
theorem refsenc_any(p:Pc) (w:World) (hp:PcI p) (hd:p.data.length≤60000) :
  Calls Tryz.prog 34 #[PcV p] w fun e w'=>e=.returned (.tuple #[.string ⟨(encS p).toArray⟩,.int .i64 (encE p)])∧Below w.heap.size w w':=by
 have HV:=zh (fun w=>refsvalid_any p w hp);unfold PcV at HV ⊢
 cases hv:validP p with
 | false =>
  have h1:encS p=[]:=by unfold encS;rw[hv];rfl
  have h2:encE p=100:=by unfold encE;rw[hv];rfl
  rw[hv] at HV;rw[h1,h2];clear h1 h2 hv;go_enter Tryz.func34,Tryz.ntmps34;go_wp2_with fail;refine(HV.out _).mono ?_;rintro e w' ⟨rfl,hb⟩;have hb2:=below_box hb;go_wp2;go_ret2;exact⟨rfl,hb2⟩
 | true =>
  have h1:encS p=encB p:=by unfold encS;rw[hv];rfl
  have h2:encE p=0:=by unfold encE;rw[hv];rfl
  obtain⟨a0,a1,b0,b1,c0,c1,g0,g1,r0,r1,hl⟩:=validP_iff.1 hv;rw[hv] at HV;rw[h1,h2];obtain⟨a,b,c,g,r,l⟩:=p;simp only at *;obtain⟨a,rfl⟩:∃n:Nat,a=(n:Int):=⟨a.toNat,by omega⟩;obtain⟨b,rfl⟩:∃n:Nat,b=(n:Int):=⟨b.toNat,by omega⟩;obtain⟨c,rfl⟩:∃n:Nat,c=(n:Int):=⟨c.toNat,by omega⟩;obtain⟨g,rfl⟩:∃n:Nat,g=(n:Int):=⟨g.toNat,by omega⟩;obtain⟨r,rfl⟩:∃n:Nat,r=(n:Int):=⟨r.toNat,by omega⟩;have hz:=size_of l
  have hd':(⟨l.toArray⟩:ByteArray).data.toList=l:=by simp
  have HD:=zh hd';generalize (⟨l.toArray⟩:ByteArray)=s at *;have HZ:=zh (hz.trans hl);have HB1:=zh (fun w=>big_any g 5 w (by omega) (by omega));have HB2:=zh (fun w=>big_any r 5 w (by omega) (by omega))
  have ha:((UInt8.ofNat a).toNat:Int)=(a:Int):=by rw[UInt8.toNat_ofNat'];omega
  have hb:((UInt8.ofNat b).toNat:Int)=(b:Int):=by rw[UInt8.toNat_ofNat'];omega
  have hc:((UInt8.ofNat c).toNat:Int)=(c:Int):=by rw[UInt8.toNat_ofNat'];omega
  have hcv:=fun W q=>conv4 93 (UInt8.ofNat a) (UInt8.ofNat b) (UInt8.ofNat c) W q
  rw[ha,hb,hc] at hcv;have HCV:=zh hcv;clear h1 h2 hv hp hd hz hl hd' ha hb hc hcv;go_enter Tryz.func34,Tryz.ntmps34;go_wp2_with fail;refine(HV.out _).mono ?_;rintro e w1 ⟨rfl,hbv⟩;obtain⟨q,hq⟩:=zx w.heap.size;have hbw:=below_box hbv;obtain⟨hc0,hf0⟩:=bcell hbv
  have k0:w1.cell? ⟨q,0,none⟩=some (.int .i64 (a:Int)):=by rw[hq,hc0 _ _ (by simp)];simp
  have k1:w1.cell? ⟨q,1,none⟩=some (.int .i64 (b:Int)):=by rw[hq,hc0 _ _ (by simp)];simp
  have k2:w1.cell? ⟨q,2,none⟩=some (.int .i64 (c:Int)):=by rw[hq,hc0 _ _ (by simp)];simp
  have k3:w1.cell? ⟨q,3,none⟩=some (.int .i64 (g:Int)):=by rw[hq,hc0 _ _ (by simp)];simp
  have k4:w1.cell? ⟨q,4,none⟩=some (.int .i64 (r:Int)):=by rw[hq,hc0 _ _ (by simp)];simp
  have k5:w1.cell? ⟨q,5,none⟩=some (.string s):=by rw[hq,hc0 _ _ (by simp)];simp
  have hq1:q<w1.heap.size:=by have:=hbv.size;simp at this;omega
  have hS0:Held6 w1 q (.int .i64 (a:Int)) (.int .i64 (b:Int)) (.int .i64 (c:Int)) (.int .i64 (g:Int)) (.int .i64 (r:Int)) (.string s) w1.drew:=⟨k0,k1,k2,k3,k4,k5,(Below.refl _ _).drew⟩;have HS0:=zh hS0;rw[←hq];clear hc0 hf0 hbv hS0 k0 k1 k2 k3 k4 k5 hq;go_wp2_with fail;have hcv:=HCV.out
  have wa:IntKind.u8.wrap (a:Int)=(a:Int):=by rw[IntKind.wrap_u8];omega
  have wb:IntKind.u8.wrap (b:Int)=(b:Int):=by rw[IntKind.wrap_u8];omega
  have wc:IntKind.u8.wrap (c:Int)=(c:Int):=by rw[IntKind.wrap_u8];omega
  have wg:IntKind.u64.wrap (g:Int)=(g:Int):=by simp[IntKind.wrap,IntKind.bits,IntKind.signed];omega
  have wr:IntKind.u64.wrap (r:Int)=(r:Int):=by simp[IntKind.wrap,IntKind.bits,IntKind.signed];omega
  have l1:=beTo_length g 5 5;have l2:=beTo_length r 5 5;have hz:=HZ.out;refine wp_region_held_drew (S:=(fun w'=>w'.cell? ⟨q,0,none⟩=some (.int .i64 (a:Int))∧w'.cell? ⟨q,1,none⟩=some (.int .i64 (b:Int))∧w'.cell? ⟨q,2,none⟩=some (.int .i64 (c:Int))∧w'.cell? ⟨q,3,none⟩=some (.int .i64 (g:Int))∧w'.cell? ⟨q,4,none⟩=some (.int .i64 (r:Int))∧w'.cell? ⟨q,5,none⟩=some (.string s)∧Below w1.heap.size w1 w')) (by kernel_rfl) HS0.out (fun hHeld=>?_);refine tkd 0 _ ?_;refine tkd 1 _ ?_;refine tkd 2 _ ?_;refine tkd 3 _ ?_;refine tkd 4 _ ?_;refine tkd 5 _ ?_;refine tkd 6 _ ?_;refine tkd 7 _ ?_;refine tkd 8 _ ?_;refine tkd 11 _ ?_;refine tkd 12 _ ?_;refine tkd 13 _ ?_;refine tkd 16 _ ?_;refine tkd 17 _ ?_;refine tkd 18 _ ?_;refine tkd 22 _ ?_;refine tkd 23 _ ?_;refine wpAnyH_ready (rs:=[9,14]) (by kernel_rfl) (by simp) ?_;refine AllReadyH.cons rfl (fun K hK=>?_) ?_
  ·go_simp;refine hK.out _ _ ?_ (fun hHeld=>?_)
   ·(first|assumption|exact HS0.out|exact Held6.alloc (by assumption) hq1|exact Held6.below (by assumption) hb2 hq1|exact Held6.below (by assumption) hb3 hq1)
   clear hK K;(try simp only[Act.put,z1,z2,z3]);refine wpAnyH_ready (rs:=[10,14]) (by kernel_rfl) (by simp) ?_;refine AllReadyH.cons rfl (fun K hK=>?_) ?_
   ·go_simp;refine hK.out _ _ ?_ (fun hHeld=>?_)
    ·(first|assumption|exact HS0.out|exact Held6.alloc (by assumption) hq1|exact Held6.below (by assumption) hb2 hq1|exact Held6.below (by assumption) hb3 hq1)
    clear hK K;(try simp only[Act.put,z1,z2,z3]);refine wpAnyH_ready (rs:=[14]) (by kernel_rfl) (by simp) ?_;refine AllReadyH.cons rfl (fun K hK=>?_) ?_
    ·go_simp
     (go_at_call_of 88 (Value.int .u64 (g:Int));refine(HB1.out _).mono ?_;rintro e w2 ⟨rfl,hb2⟩;obtain⟨hc2,hf2⟩:=bcell hb2;(try have hz2:w1.heap.size<w2.heap.size:=by have:=hb2.size;simp at this;omega))
     go_wp2_with fail;refine hK.out _ _ ?_ (fun hHeld=>?_)
     ·(first|assumption|exact HS0.out|exact Held6.alloc (by assumption) hq1|exact Held6.below (by assumption) hb2 hq1|exact Held6.below (by assumption) hb3 hq1)
     clear hK K;(try simp only[Act.put,z1,z2,z3]);refine tkd 15 _ ?_;refine wpAnyH_ready (rs:=[19]) (by kernel_rfl) (by simp) ?_;refine AllReadyH.cons rfl (fun K hK=>?_) ?_
     ·go_simp
      (go_at_call_of 88 (Value.int .u64 (r:Int));refine(HB2.out _).mono ?_;rintro e w3 ⟨rfl,hb3⟩;obtain⟨hc3,hf3⟩:=bcell hb3;(try have hz3:w1.heap.size<w3.heap.size:=by have:=hb3.size;simp at this;omega))
      go_wp2_with fail;refine hK.out _ _ ?_ (fun hHeld=>?_)
      ·(first|assumption|exact HS0.out|exact Held6.alloc (by assumption) hq1|exact Held6.below (by assumption) hb2 hq1|exact Held6.below (by assumption) hb3 hq1)
      clear hK K;(try simp only[Act.put,z1,z2,z3]);refine tkd 20 _ ?_;refine tkd 21 _ ?_;refine tkd 24 _ ?_;refine tkd 25 _ ?_;refine wpAnyH_done (by kernel_rfl) ?_ _;have hbx:Below w.heap.size w _:=hbw.trans ((by assumption:_∧_∧_∧_∧_∧_∧Below w1.heap.size w1 _).2.2.2.2.2.2.mono hbw.size);obtain⟨x,hx⟩:=zx ((⟨#[93,UInt8.ofNat a,UInt8.ofNat b,UInt8.ofNat c]⟩++⟨(beTo g 5 5).toArray⟩++⟨(beTo r 5 5).toArray⟩++⟨#[0,0]⟩++s:ByteArray))
      have hxl:x.data.toList=headB ⟨a,b,c,g,r,l⟩:=by
       rw[hx,←HD.out];simp[headB]
      have hxs:x.size≤65536:=by
       show x.data.size≤_
       rw[←Array.length_toList,hxl];have:=HZ.out
       have h2:l.length=16:=by rw[←HD.out,Array.length_toList];exact this
       simp[headB,beTo_length,h2]
      have HX:=zh hxl;rw[←hx];clear hx hxl wa wb wc wg wr l1 l2 hz hcv;have HSE:=zh (fun w=>sealed_str x w hxs);rw[HX.out] at HSE;clear hxs;go_wp2_with fail;refine(HSE.out _).mono ?_;rintro e w9 ⟨rfl,hb9⟩;have hb10:=hbx.trans (hb9.mono hbx.size);go_wp2;go_ret2;exact⟨rfl,hb10⟩
     exact AllReadyH.nil
    exact AllReadyH.nil
   refine AllReadyH.cons rfl (fun K hK=>?_) ?_
   ·go_simp
    (go_at_call_of 88 (Value.int .u64 (g:Int));refine(HB1.out _).mono ?_;rintro e w2 ⟨rfl,hb2⟩;obtain⟨hc2,hf2⟩:=bcell hb2;(try have hz2:w1.heap.size<w2.heap.size:=by have:=hb2.size;simp at this;omega))
    go_wp2_with fail;refine hK.out _ _ ?_ (fun hHeld=>?_)
    ·(first|assumption|exact HS0.out|exact Held6.alloc (by assumption) hq1|exact Held6.below (by assumption) hb2 hq1|exact Held6.below (by assumption) hb3 hq1)
    clear hK K;(try simp only[Act.put,z1,z2,z3]);refine wpAnyH_ready (rs:=[10,19]) (by kernel_rfl) (by simp) ?_;refine AllReadyH.cons rfl (fun K hK=>?_) ?_
    ·go_simp;refine hK.out _ _ ?_ (fun hHeld=>?_)
     ·(first|assumption|exact HS0.out|exact Held6.alloc (by assumption) hq1|exact Held6.below (by assumption) hb2 hq1|exact Held6.below (by assumption) hb3 hq1)
     clear hK K;(try simp only[Act.put,z1,z2,z3]);refine tkd 15 _ ?_;refine wpAnyH_ready (rs:=[19]) (by kernel_rfl) (by simp) ?_;refine AllReadyH.cons rfl (fun K hK=>?_) ?_
     ·go_simp
      (go_at_call_of 88 (Value.int .u64 (r:Int));refine(HB2.out _).mono ?_;rintro e w3 ⟨rfl,hb3⟩;obtain⟨hc3,hf3⟩:=bcell hb3;(try have hz3:w1.heap.size<w3.heap.size:=by have:=hb3.size;simp at this;omega))
      go_wp2_with fail;refine hK.out _ _ ?_ (fun hHeld=>?_)
      ·(first|assumption|exact HS0.out|exact Held6.alloc (by assumption) hq1|exact Held6.below (by assumption) hb2 hq1|exact Held6.below (by assumption) hb3 hq1)
      clear hK K;(try simp only[Act.put,z1,z2,z3]);refine tkd 20 _ ?_;refine tkd 21 _ ?_;refine tkd 24 _ ?_;refine tkd 25 _ ?_;refine wpAnyH_done (by kernel_rfl) ?_ _;have hbx:Below w.heap.size w _:=hbw.trans ((by assumption:_∧_∧_∧_∧_∧_∧Below w1.heap.size w1 _).2.2.2.2.2.2.mono hbw.size);obtain⟨x,hx⟩:=zx ((⟨#[93,UInt8.ofNat a,UInt8.ofNat b,UInt8.ofNat c]⟩++⟨(beTo g 5 5).toArray⟩++⟨(beTo r 5 5).toArray⟩++⟨#[0,0]⟩++s:ByteArray))
      have hxl:x.data.toList=headB ⟨a,b,c,g,r,l⟩:=by
       rw[hx,←HD.out];simp[headB]
      have hxs:x.size≤65536:=by
       show x.data.size≤_
       rw[←Array.length_toList,hxl];have:=HZ.out
       have h2:l.length=16:=by rw[←HD.out,Array.length_toList];exact this
       simp[headB,beTo_length,h2]
      have HX:=zh hxl;rw[←hx];clear hx hxl wa wb wc wg wr l1 l2 hz hcv;have HSE:=zh (fun w=>sealed_str x w hxs);rw[HX.out] at HSE;clear hxs;go_wp2_with fail;refine(HSE.out _).mono ?_;rintro e w9 ⟨rfl,hb9⟩;have hb10:=hbx.trans (hb9.mono hbx.size);go_wp2;go_ret2;exact⟨rfl,hb10⟩
     exact AllReadyH.nil
    refine AllReadyH.cons rfl (fun K hK=>?_) ?_
    ·go_simp
     (go_at_call_of 88 (Value.int .u64 (r:Int));refine(HB2.out _).mono ?_;rintro e w3 ⟨rfl,hb3⟩;obtain⟨hc3,hf3⟩:=bcell hb3;(try have hz3:w1.heap.size<w3.heap.size:=by have:=hb3.size;simp at this;omega))
     go_wp2_with fail;refine hK.out _ _ ?_ (fun hHeld=>?_)
     ·(first|assumption|exact HS0.out|exact Held6.alloc (by assumption) hq1|exact Held6.below (by assumption) hb2 hq1|exact Held6.below (by assumption) hb3 hq1)
     clear hK K;(try simp only[Act.put,z1,z2,z3]);refine wpAnyH_ready (rs:=[10]) (by kernel_rfl) (by simp) ?_;refine AllReadyH.cons rfl (fun K hK=>?_) ?_
     ·go_simp;refine hK.out _ _ ?_ (fun hHeld=>?_)
      ·(first|assumption|exact HS0.out|exact Held6.alloc (by assumption) hq1|exact Held6.below (by assumption) hb2 hq1|exact Held6.below (by assumption) hb3 hq1)
      clear hK K;(try simp only[Act.put,z1,z2,z3]);refine tkd 15 _ ?_;refine tkd 20 _ ?_;refine tkd 21 _ ?_;refine tkd 24 _ ?_;refine tkd 25 _ ?_;refine wpAnyH_done (by kernel_rfl) ?_ _;have hbx:Below w.heap.size w _:=hbw.trans ((by assumption:_∧_∧_∧_∧_∧_∧Below w1.heap.size w1 _).2.2.2.2.2.2.mono hbw.size);obtain⟨x,hx⟩:=zx ((⟨#[93,UInt8.ofNat a,UInt8.ofNat b,UInt8.ofNat c]⟩++⟨(beTo g 5 5).toArray⟩++⟨(beTo r 5 5).toArray⟩++⟨#[0,0]⟩++s:ByteArray))
      have hxl:x.data.toList=headB ⟨a,b,c,g,r,l⟩:=by
       rw[hx,←HD.out];simp[headB]
      have hxs:x.size≤65536:=by
       show x.data.size≤_
       rw[←Array.length_toList,hxl];have:=HZ.out
       have h2:l.length=16:=by rw[←HD.out,Array.length_toList];exact this
       simp[headB,beTo_length,h2]
      have HX:=zh hxl;rw[←hx];clear hx hxl wa wb wc wg wr l1 l2 hz hcv;have HSE:=zh (fun w=>sealed_str x w hxs);rw[HX.out] at HSE;clear hxs;go_wp2_with fail;refine(HSE.out _).mono ?_;rintro e w9 ⟨rfl,hb9⟩;have hb10:=hbx.trans (hb9.mono hbx.size);go_wp2;go_ret2;exact⟨rfl,hb10⟩
     exact AllReadyH.nil
    exact AllReadyH.nil
   exact AllReadyH.nil
  refine AllReadyH.cons rfl (fun K hK=>?_) ?_
  ·go_simp
   (go_at_call_of 88 (Value.int .u64 (g:Int));refine(HB1.out _).mono ?_;rintro e w2 ⟨rfl,hb2⟩;obtain⟨hc2,hf2⟩:=bcell hb2;(try have hz2:w1.heap.size<w2.heap.size:=by have:=hb2.size;simp at this;omega))
   go_wp2_with fail;refine hK.out _ _ ?_ (fun hHeld=>?_)
   ·(first|assumption|exact HS0.out|exact Held6.alloc (by assumption) hq1|exact Held6.below (by assumption) hb2 hq1|exact Held6.below (by assumption) hb3 hq1)
   clear hK K;(try simp only[Act.put,z1,z2,z3]);refine wpAnyH_ready (rs:=[9,19]) (by kernel_rfl) (by simp) ?_;refine AllReadyH.cons rfl (fun K hK=>?_) ?_
   ·go_simp;refine hK.out _ _ ?_ (fun hHeld=>?_)
    ·(first|assumption|exact HS0.out|exact Held6.alloc (by assumption) hq1|exact Held6.below (by assumption) hb2 hq1|exact Held6.below (by assumption) hb3 hq1)
    clear hK K;(try simp only[Act.put,z1,z2,z3]);refine wpAnyH_ready (rs:=[10,19]) (by kernel_rfl) (by simp) ?_;refine AllReadyH.cons rfl (fun K hK=>?_) ?_
    ·go_simp;refine hK.out _ _ ?_ (fun hHeld=>?_)
     ·(first|assumption|exact HS0.out|exact Held6.alloc (by assumption) hq1|exact Held6.below (by assumption) hb2 hq1|exact Held6.below (by assumption) hb3 hq1)
     clear hK K;(try simp only[Act.put,z1,z2,z3]);refine tkd 15 _ ?_;refine wpAnyH_ready (rs:=[19]) (by kernel_rfl) (by simp) ?_;refine AllReadyH.cons rfl (fun K hK=>?_) ?_
     ·go_simp
      (go_at_call_of 88 (Value.int .u64 (r:Int));refine(HB2.out _).mono ?_;rintro e w3 ⟨rfl,hb3⟩;obtain⟨hc3,hf3⟩:=bcell hb3;(try have hz3:w1.heap.size<w3.heap.size:=by have:=hb3.size;simp at this;omega))
      go_wp2_with fail;refine hK.out _ _ ?_ (fun hHeld=>?_)
      ·(first|assumption|exact HS0.out|exact Held6.alloc (by assumption) hq1|exact Held6.below (by assumption) hb2 hq1|exact Held6.below (by assumption) hb3 hq1)
      clear hK K;(try simp only[Act.put,z1,z2,z3]);refine tkd 20 _ ?_;refine tkd 21 _ ?_;refine tkd 24 _ ?_;refine tkd 25 _ ?_;refine wpAnyH_done (by kernel_rfl) ?_ _;have hbx:Below w.heap.size w _:=hbw.trans ((by assumption:_∧_∧_∧_∧_∧_∧Below w1.heap.size w1 _).2.2.2.2.2.2.mono hbw.size);obtain⟨x,hx⟩:=zx ((⟨#[93,UInt8.ofNat a,UInt8.ofNat b,UInt8.ofNat c]⟩++⟨(beTo g 5 5).toArray⟩++⟨(beTo r 5 5).toArray⟩++⟨#[0,0]⟩++s:ByteArray))
      have hxl:x.data.toList=headB ⟨a,b,c,g,r,l⟩:=by
       rw[hx,←HD.out];simp[headB]
      have hxs:x.size≤65536:=by
       show x.data.size≤_
       rw[←Array.length_toList,hxl];have:=HZ.out
       have h2:l.length=16:=by rw[←HD.out,Array.length_toList];exact this
       simp[headB,beTo_length,h2]
      have HX:=zh hxl;rw[←hx];clear hx hxl wa wb wc wg wr l1 l2 hz hcv;have HSE:=zh (fun w=>sealed_str x w hxs);rw[HX.out] at HSE;clear hxs;go_wp2_with fail;refine(HSE.out _).mono ?_;rintro e w9 ⟨rfl,hb9⟩;have hb10:=hbx.trans (hb9.mono hbx.size);go_wp2;go_ret2;exact⟨rfl,hb10⟩
     exact AllReadyH.nil
    refine AllReadyH.cons rfl (fun K hK=>?_) ?_
    ·go_simp
     (go_at_call_of 88 (Value.int .u64 (r:Int));refine(HB2.out _).mono ?_;rintro e w3 ⟨rfl,hb3⟩;obtain⟨hc3,hf3⟩:=bcell hb3;(try have hz3:w1.heap.size<w3.heap.size:=by have:=hb3.size;simp at this;omega))
     go_wp2_with fail;refine hK.out _ _ ?_ (fun hHeld=>?_)
     ·(first|assumption|exact HS0.out|exact Held6.alloc (by assumption) hq1|exact Held6.below (by assumption) hb2 hq1|exact Held6.below (by assumption) hb3 hq1)
     clear hK K;(try simp only[Act.put,z1,z2,z3]);refine wpAnyH_ready (rs:=[10]) (by kernel_rfl) (by simp) ?_;refine AllReadyH.cons rfl (fun K hK=>?_) ?_
     ·go_simp;refine hK.out _ _ ?_ (fun hHeld=>?_)
      ·(first|assumption|exact HS0.out|exact Held6.alloc (by assumption) hq1|exact Held6.below (by assumption) hb2 hq1|exact Held6.below (by assumption) hb3 hq1)
      clear hK K;(try simp only[Act.put,z1,z2,z3]);refine tkd 15 _ ?_;refine tkd 20 _ ?_;refine tkd 21 _ ?_;refine tkd 24 _ ?_;refine tkd 25 _ ?_;refine wpAnyH_done (by kernel_rfl) ?_ _;have hbx:Below w.heap.size w _:=hbw.trans ((by assumption:_∧_∧_∧_∧_∧_∧Below w1.heap.size w1 _).2.2.2.2.2.2.mono hbw.size);obtain⟨x,hx⟩:=zx ((⟨#[93,UInt8.ofNat a,UInt8.ofNat b,UInt8.ofNat c]⟩++⟨(beTo g 5 5).toArray⟩++⟨(beTo r 5 5).toArray⟩++⟨#[0,0]⟩++s:ByteArray))
      have hxl:x.data.toList=headB ⟨a,b,c,g,r,l⟩:=by
       rw[hx,←HD.out];simp[headB]
      have hxs:x.size≤65536:=by
       show x.data.size≤_
       rw[←Array.length_toList,hxl];have:=HZ.out
       have h2:l.length=16:=by rw[←HD.out,Array.length_toList];exact this
       simp[headB,beTo_length,h2]
      have HX:=zh hxl;rw[←hx];clear hx hxl wa wb wc wg wr l1 l2 hz hcv;have HSE:=zh (fun w=>sealed_str x w hxs);rw[HX.out] at HSE;clear hxs;go_wp2_with fail;refine(HSE.out _).mono ?_;rintro e w9 ⟨rfl,hb9⟩;have hb10:=hbx.trans (hb9.mono hbx.size);go_wp2;go_ret2;exact⟨rfl,hb10⟩
     exact AllReadyH.nil
    exact AllReadyH.nil
   refine AllReadyH.cons rfl (fun K hK=>?_) ?_
   ·go_simp
    (go_at_call_of 88 (Value.int .u64 (r:Int));refine(HB2.out _).mono ?_;rintro e w3 ⟨rfl,hb3⟩;obtain⟨hc3,hf3⟩:=bcell hb3;(try have hz3:w1.heap.size<w3.heap.size:=by have:=hb3.size;simp at this;omega))
    go_wp2_with fail;refine hK.out _ _ ?_ (fun hHeld=>?_)
    ·(first|assumption|exact HS0.out|exact Held6.alloc (by assumption) hq1|exact Held6.below (by assumption) hb2 hq1|exact Held6.below (by assumption) hb3 hq1)
    clear hK K;(try simp only[Act.put,z1,z2,z3]);refine wpAnyH_ready (rs:=[9]) (by kernel_rfl) (by simp) ?_;refine AllReadyH.cons rfl (fun K hK=>?_) ?_
    ·go_simp;refine hK.out _ _ ?_ (fun hHeld=>?_)
     ·(first|assumption|exact HS0.out|exact Held6.alloc (by assumption) hq1|exact Held6.below (by assumption) hb2 hq1|exact Held6.below (by assumption) hb3 hq1)
     clear hK K;(try simp only[Act.put,z1,z2,z3]);refine wpAnyH_ready (rs:=[10]) (by kernel_rfl) (by simp) ?_;refine AllReadyH.cons rfl (fun K hK=>?_) ?_
     ·go_simp;refine hK.out _ _ ?_ (fun hHeld=>?_)
      ·(first|assumption|exact HS0.out|exact Held6.alloc (by assumption) hq1|exact Held6.below (by assumption) hb2 hq1|exact Held6.below (by assumption) hb3 hq1)
      clear hK K;(try simp only[Act.put,z1,z2,z3]);refine tkd 15 _ ?_;refine tkd 20 _ ?_;refine tkd 21 _ ?_;refine tkd 24 _ ?_;refine tkd 25 _ ?_;refine wpAnyH_done (by kernel_rfl) ?_ _;have hbx:Below w.heap.size w _:=hbw.trans ((by assumption:_∧_∧_∧_∧_∧_∧Below w1.heap.size w1 _).2.2.2.2.2.2.mono hbw.size);obtain⟨x,hx⟩:=zx ((⟨#[93,UInt8.ofNat a,UInt8.ofNat b,UInt8.ofNat c]⟩++⟨(beTo g 5 5).toArray⟩++⟨(beTo r 5 5).toArray⟩++⟨#[0,0]⟩++s:ByteArray))
      have hxl:x.data.toList=headB ⟨a,b,c,g,r,l⟩:=by
       rw[hx,←HD.out];simp[headB]
      have hxs:x.size≤65536:=by
       show x.data.size≤_
       rw[←Array.length_toList,hxl];have:=HZ.out
       have h2:l.length=16:=by rw[←HD.out,Array.length_toList];exact this
       simp[headB,beTo_length,h2]
      have HX:=zh hxl;rw[←hx];clear hx hxl wa wb wc wg wr l1 l2 hz hcv;have HSE:=zh (fun w=>sealed_str x w hxs);rw[HX.out] at HSE;clear hxs;go_wp2_with fail;refine(HSE.out _).mono ?_;rintro e w9 ⟨rfl,hb9⟩;have hb10:=hbx.trans (hb9.mono hbx.size);go_wp2;go_ret2;exact⟨rfl,hb10⟩
     exact AllReadyH.nil
    exact AllReadyH.nil
   exact AllReadyH.nil
  exact AllReadyH.nil
end Go.Proofs.YtcfkllnpkmebpaaGreatDoor
