/- The checksum, numbers of bytes, sealed bytes, walked; a string with some bits turned. -/
import Derived.Test.YtmehadfhcdpfcaaGreatMg01
import Derived.Test.YtmehadfhcdpfcaaGreatMg02
import Derived.Deep.RegionHeld3
import Derived.StillTailTactics
set_option maxRecDepth 100000
set_option maxHeartbeats 12800000
namespace Go.Proofs.YtmehadfhcdpfcaaGreat
open Go.RowKit
set_option linter.unusedVariables false
set_option linter.unusedSimpArgs false
theorem take_snoc(s:ByteArray) (k:Nat) (h:k<s.size):s.data.toList.take (k+1)=s.data.toList.take k++[s[k]]:=by
 rw[List.take_succ_eq_append_getElem (by simpa using h)];rfl
theorem take_all(s:ByteArray):s.data.toList.take s.size=s.data.toList:=List.take_of_length_le (by rw[Array.length_toList];exact Nat.le_refl _)
def crcPart(s:ByteArray) (k:Nat):Nat:=crc (s.data.toList.take k)
theorem crcPart_lt(s:ByteArray) (k:Nat):crcPart s k<4294967296:=crc_lt _
theorem crcPart_succ(s:ByteArray) (k:Nat) (h:k<s.size):crcPart s (k+1)=crcBits 8 (crcPart s k ^^^ (s[k].toNat * 16777216)):=by
 unfold crcPart;rw[take_snoc s k h,crc_snoc];rfl
theorem crc_in(s:ByteArray) (k:Nat) (c:UInt8):bits .xor .u32 (crcPart s k:Int) ((c.toNat:Int) % 4294967296 * 16777216 % 4294967296)=((crcPart s k ^^^ (c.toNat * 16777216):Nat):Int):=by
 have hc:=c.toNat_lt
 have e:(c.toNat:Int) % 4294967296 * 16777216 % 4294967296=((c.toNat * 16777216:Nat):Int):=by
  have:=byte_top c
  omega
 rw[e]
 exact u32_xor_nat _ _ (crcPart_lt s k) (byte_top c)
theorem crc_hit(x:Nat) (h:((x:Int) / 2147483648==1)=true):bits .xor .u32 ((x:Int) * 2 % 4294967296) 517762881=(crcBit x:Int):=by
 have h':x / 2147483648=1:=by have:=eq_of_beq h;omega
 have e:(x:Int) * 2 % 4294967296=((x * 2 % 4294967296:Nat):Int):=by omega
 rw[e,show(517762881:Int)=((517762881:Nat):Int) from rfl,u32_xor_nat _ _ (by omega) (by omega)]
 unfold crcBit;rw[if_pos h']
theorem crc_miss(x:Nat) (h:((x:Int) / 2147483648==1)=false):(x:Int) * 2 % 4294967296=(crcBit x:Int):=by
 have h':¬x / 2147483648=1:=by
  intro e
  have:(x:Int) / 2147483648=1:=by omega
  rw[this] at h
  cases h
 unfold crcBit;rw[if_neg h'];omega
theorem xor_top_lt(s:ByteArray) (k:Nat) (c:UInt8):crcPart s k ^^^ (c.toNat * 16777216)<4294967296:=Nat.xor_lt_two_pow (n:=32) (crcPart_lt s k) (byte_top c)
theorem sum_any(s:ByteArray) (w:World) (hs:s.size≤maxLen) :
  Calls Tryz.prog 100 #[.string s] w fun e w'=>e=.returned (.int .u32 (crc s.data.toList:Nat))∧w=w':=by
 unfold maxLen at hs
 go_enter Tryz.func100,Tryz.ntmps100
 go_wp2
 go_loop [3,8] (fun r k=>∃j:Nat,j≤s.size∧k=.int .i64 j∧r=.int .u32 (crcPart s j:Nat)) (fun r k=>s.size - (intOf k).toNat)
 case atStart=>exact⟨0,Nat.zero_le _,rfl,rfl⟩
 case round =>
  obtain⟨j,hj,rfl,rfl⟩:=hrel
  by_cases hlt:j<s.size
  ·go_wp2
   go_loop [3,18] (fun r k=>∃i:Nat,i≤8∧k=.int .i64 i∧r=.int .u32 (crcBits i (crcPart s j ^^^ (s[j].toNat * 16777216)):Nat)) (fun r k=>8 - (intOf k).toNat)
   case atStart=>exact⟨0,by omega,rfl,by rw[crc_in];rfl⟩
   case round =>
    obtain⟨i,hi,rfl,rfl⟩:=hrel
    have hb:=crcBits_lt i _ (xor_top_lt s j s[j])
    have hsucc:=zh (crcBits_succ i (crcPart s j ^^^ (s[j].toNat * 16777216)))
    obtain⟨x,hx⟩:=zx (crcBits i (crcPart s j ^^^ (s[j].toNat * 16777216)))
    have HX:=zh hx
    rw[←hx] at hb
    by_cases hi8:i<8
    ·rw[←hx]
     clear hx
     go_wp2
     ·go_round
      case rel=>exact⟨i+1,by omega,by go_num,by rw[crc_hit x (by assumption),hsucc.out,HX.out]⟩
      case measure=>simp[intOf];omega
     ·go_round
      case rel=>exact⟨i+1,by omega,by go_num,by rw[crc_miss x (by assumption),hsucc.out,HX.out]⟩
      case measure=>simp[intOf];omega
    ·obtain rfl:i=8:=by omega
     rw[←hx]
     clear hx
     have hp:=zh (crcPart_succ s j hlt)
     go_wp2
     go_round
     case rel=>exact⟨j+1,by omega,by go_num,by rw[hp.out,HX.out]⟩
     case measure=>simp[intOf];omega
  ·obtain rfl:j=s.size:=by omega
   go_wp2
   go_ret
   exact⟨ret_int (by unfold crcPart;rw[take_all]),rfl⟩
theorem big_any(n size:Nat) (w:World) (hn:n≤18446744073709551615) (hs:size≤8) :
  Calls Tryz.prog 61 #[.int .u64 n,.int .i64 size] w fun e w'=>e=.returned (.string ⟨(beTo n size size).toArray⟩)∧Below w.heap.size w w':=by
 go_enter Tryz.func61,Tryz.ntmps61
 go_wp2
 go_loopw [5,6] (fun v i wr=>∃k:Nat,k≤size∧i=.int .i64 ((size:Int) - 1 - k)∧wr.ownsRow w.heap.size 5 1 v k (bys (beTo n size k))∧Below w.heap.size w wr) (fun _ i _=>(intOf i+1).toNat)
 case atStart=>exact⟨0,Nat.zero_le _,by go_num,World.ownsRow_nil _ _ _ _,Below.refl _ _⟩
 case round =>
  obtain⟨k,hk,rfl,hown,hb⟩:=hrel
  have hsz:=hb.size
  by_cases hlt:k<size
  ·have h0:decide ((0:Int)≤(size:Int) - 1 - k)=true:=by simp;omega
   go_wp2_with (at_builtin;refine app_u8 (.tmp 13) (.tmp 20) rfl rfl _ _ _ _ (by rfl) hown (by rfl) rfl (by omega) hsz ?_;intro v' w1 hown' hg hat)
   go_roundw
   case rel=>exact⟨k+1,by omega,by go_num,by rw[beTo_succ,bys_snoc,←byte_of];exact hown',(hb.grown hg hsz (fun b h=>(hown.lt b h).1))⟩
   case measure=>simp[intOf];omega
  ·obtain rfl:k=size:=by omega
   have h0:decide ((0:Int)≤(k:Int) - 1 - k)=false:=by simp;omega
   have hcv:=conv_bytes (ByS.own (R:=Bl wr.heap.size) hown (fun b h=>(hown.lt b h).2))
   go_wp2
   go_ret
   exact⟨rfl,hb⟩
theorem refsum_any(s:ByteArray) (w:World) (hs:s.size≤maxLen) :
  Calls Tryz.prog 85 #[.string s] w fun e w'=>e=.returned (.int .u32 (crc s.data.toList:Nat))∧w=w':=by
 unfold maxLen at hs
 go_enter Tryz.func85,Tryz.ntmps85
 go_wp2
 go_loop [3,4] (fun r k=>∃j:Nat,j≤s.size∧k=.int .i64 j∧r=.int .u32 (crcPart s j:Nat)) (fun r k=>s.size - (intOf k).toNat)
 case atStart=>exact⟨0,Nat.zero_le _,rfl,rfl⟩
 case round =>
  obtain⟨j,hj,rfl,rfl⟩:=hrel
  by_cases hlt:j<s.size
  ·go_wp2
   go_loop [3,5] (fun r k=>∃i:Nat,i≤8∧k=.int .i64 i∧r=.int .u32 (crcBits i (crcPart s j ^^^ (s[j].toNat * 16777216)):Nat)) (fun r k=>8 - (intOf k).toNat)
   case atStart=>exact⟨0,by omega,rfl,by rw[crc_in];rfl⟩
   case round =>
    obtain⟨i,hi,rfl,rfl⟩:=hrel
    have hb:=crcBits_lt i _ (xor_top_lt s j s[j])
    have hsucc:=zh (crcBits_succ i (crcPart s j ^^^ (s[j].toNat * 16777216)))
    obtain⟨x,hx⟩:=zx (crcBits i (crcPart s j ^^^ (s[j].toNat * 16777216)))
    have HX:=zh hx
    rw[←hx] at hb
    by_cases hi8:i<8
    ·rw[←hx]
     clear hx
     go_wp2
     ·go_round
      case rel=>exact⟨i+1,by omega,by go_num,by rw[crc_hit x (by assumption),hsucc.out,HX.out]⟩
      case measure=>simp[intOf];omega
     ·go_round
      case rel=>exact⟨i+1,by omega,by go_num,by rw[crc_miss x (by assumption),hsucc.out,HX.out]⟩
      case measure=>simp[intOf];omega
    ·obtain rfl:i=8:=by omega
     rw[←hx]
     clear hx
     have hp:=zh (crcPart_succ s j hlt)
     go_wp2
     go_round
     case rel=>exact⟨j+1,by omega,by go_num,by rw[hp.out,HX.out]⟩
     case measure=>simp[intOf];omega
  ·obtain rfl:j=s.size:=by omega
   go_wp2
   go_ret
   exact⟨ret_int (by unfold crcPart;rw[take_all]),rfl⟩
theorem sealed_any(l:List UInt8) (w:World) (hl:l.length≤65536) :
  Calls Tryz.prog 62 #[.string ⟨l.toArray⟩] w fun e w'=>e=.returned (.string ⟨(sealB l).toArray⟩)∧Below w.heap.size w w':=by
 have hc:=crc_lt l
 have hbl:(beTo (crc l) 4 4).length≤4:=by rw[beTo_length];omega
 have hs:((⟨l.toArray⟩:ByteArray).size:Int)≤65536:=by show((l.toArray.size:Nat):Int)≤65536;simp;omega
 have h1:=refsum_any ⟨l.toArray⟩ w (by unfold maxLen;omega)
 have h2:=big_any (crc l) 4 w (by omega) (by omega)
 have H1:=zh h1
 have H2:=zh h2
 clear h1 h2
 go_enter Tryz.func62,Tryz.ntmps62
 go_wp2_with fail
 refine H1.out.mono ?_
 rintro e w1 ⟨rfl,rfl⟩
 go_wp2_with fail
 refine H2.out.mono ?_
 rintro e w1 ⟨rfl,hb⟩
 go_wp2
 go_ret
 exact⟨by rw[ByteArray.mk_append_mk];rfl,hb⟩
theorem pow7:∀k:Nat,k<8→(128:Int) / 2 ^ k=((2 ^ (7 - k):Nat):Int)∧2 ^ (7 - k)<256:=by decide
theorem flip_byte(c:UInt8) (k:Nat) (hk:k<8):∃y:UInt8,bits .xor .u8 (c.toNat:Int) (128 / 2 ^ k)=(y.toNat:Int)∧y.toNat=c.toNat ^^^ 2 ^ (7 - k):=by
 have hc:=c.toNat_lt
 obtain⟨h1,h2⟩:=pow7 k hk
 have h:c.toNat ^^^ 2 ^ (7 - k)<256:=Nat.xor_lt_two_pow (n:=8) (by omega) (by omega)
 rw[h1]
 generalize 2 ^ (7 - k)=m at *
 refine⟨UInt8.ofNat (c.toNat ^^^ m),?_,?_⟩
 ·rw[u8_xor _ _ (by omega) (by omega) (by omega) (by omega),UInt8.toNat_ofNat',Nat.mod_eq_of_lt (by simpa using h)];simp
 ·rw[UInt8.toNat_ofNat',Nat.mod_eq_of_lt (by simpa using h)]
structure Pc where
 vol:Int
 frag:Int
 stripe:Int
 gen:Int
 ver:Int
 data:List UInt8
def validP(p:Pc):Bool:=decide (0≤p.vol∧p.vol<12∧0≤p.frag∧p.frag<8∧0≤p.stripe∧p.stripe<4∧1≤p.gen∧p.gen≤1099511627775∧1≤p.ver∧p.ver≤1099511627775∧p.data.length=16)
theorem validP_no{a b c g r:Int} {l:List UInt8} (h:¬(0≤a∧a<12∧0≤b∧b<8∧0≤c∧c<4∧1≤g∧g≤1099511627775∧1≤r∧r≤1099511627775∧l.length=16)):validP ⟨a,b,c,g,r,l⟩=false:=by
 unfold validP;exact decide_eq_false h
theorem validP_yes{a b c g r:Int} {l:List UInt8} (h:0≤a∧a<12∧0≤b∧b<8∧0≤c∧c<4∧1≤g∧g≤1099511627775∧1≤r∧r≤1099511627775∧l.length=16):validP ⟨a,b,c,g,r,l⟩=true:=by
 unfold validP;exact decide_eq_true h
theorem validP_iff{p:Pc}:validP p=true↔0≤p.vol∧p.vol<12∧0≤p.frag∧p.frag<8∧0≤p.stripe∧p.stripe<4∧1≤p.gen∧p.gen≤1099511627775∧1≤p.ver∧p.ver≤1099511627775∧p.data.length=16:=by
 unfold validP;exact decide_eq_true_iff
def PcV(p:Pc):Value:=.agg #[.int .i64 p.vol,.int .i64 p.frag,.int .i64 p.stripe,.int .i64 p.gen,.int .i64 p.ver,.string ⟨p.data.toArray⟩]
def PcI(p:Pc):Prop:=I64 p.vol∧I64 p.frag∧I64 p.stripe∧I64 p.gen∧I64 p.ver∧p.data.length≤maxLen
theorem size_of(l:List UInt8):(⟨l.toArray⟩:ByteArray).size=l.length:=by show l.toArray.size=_;simp
theorem svalid_any(p:Pc) (w:World) (hp:PcI p) :
  Calls Tryz.prog 145 #[PcV p] w fun e w'=>e=.returned (.bool (validP p))∧Below w.heap.size w w':=by
 obtain⟨a,b,c,g,r,l⟩:=p
 obtain⟨⟨a0,a1⟩,⟨b0,b1⟩,⟨c0,c1⟩,⟨g0,g1⟩,⟨r0,r1⟩,hl⟩:=hp
 unfold PcV
 simp only at a0 a1 b0 b1 c0 c1 g0 g1 r0 r1 hl ⊢
 have hz:=size_of l
 generalize (⟨l.toArray⟩:ByteArray)=s at *
 unfold maxLen at hl
 have hs:s.size≤9223372036854775807:=by omega
 by_cases h1:0≤a
 rotate_left
 ·rw[validP_no (fun h=>h1 (h.1))]
  skip
  clear hz hl
  go_enter Tryz.func145,Tryz.ntmps145
  go_wp2
  go_ret
  exact⟨rfl,(Below.refl _ _).alloc (Nat.le_refl _) _⟩
 by_cases h2:a<12
 rotate_left
 ·rw[validP_no (fun h=>h2 (h.2.1))]
  skip
  clear hz hl
  go_enter Tryz.func145,Tryz.ntmps145
  go_wp2
  go_ret
  exact⟨rfl,(Below.refl _ _).alloc (Nat.le_refl _) _⟩
 by_cases h3:0≤b
 rotate_left
 ·rw[validP_no (fun h=>h3 (h.2.2.1))]
  skip
  clear hz hl
  go_enter Tryz.func145,Tryz.ntmps145
  go_wp2
  go_ret
  exact⟨rfl,(Below.refl _ _).alloc (Nat.le_refl _) _⟩
 by_cases h4:b<8
 rotate_left
 ·rw[validP_no (fun h=>h4 (h.2.2.2.1))]
  skip
  clear hz hl
  go_enter Tryz.func145,Tryz.ntmps145
  go_wp2
  go_ret
  exact⟨rfl,(Below.refl _ _).alloc (Nat.le_refl _) _⟩
 by_cases h5:0≤c
 rotate_left
 ·rw[validP_no (fun h=>h5 (h.2.2.2.2.1))]
  skip
  clear hz hl
  go_enter Tryz.func145,Tryz.ntmps145
  go_wp2
  go_ret
  exact⟨rfl,(Below.refl _ _).alloc (Nat.le_refl _) _⟩
 by_cases h6:c<4
 rotate_left
 ·rw[validP_no (fun h=>h6 (h.2.2.2.2.2.1))]
  skip
  clear hz hl
  go_enter Tryz.func145,Tryz.ntmps145
  go_wp2
  go_ret
  exact⟨rfl,(Below.refl _ _).alloc (Nat.le_refl _) _⟩
 by_cases h7:1≤g
 rotate_left
 ·rw[validP_no (fun h=>h7 (h.2.2.2.2.2.2.1))]
  skip
  clear hz hl
  go_enter Tryz.func145,Tryz.ntmps145
  go_wp2
  go_ret
  exact⟨rfl,(Below.refl _ _).alloc (Nat.le_refl _) _⟩
 by_cases h8:g≤1099511627775
 rotate_left
 ·rw[validP_no (fun h=>h8 (h.2.2.2.2.2.2.2.1))]
  skip
  clear hz hl
  go_enter Tryz.func145,Tryz.ntmps145
  go_wp2
  go_ret
  exact⟨rfl,(Below.refl _ _).alloc (Nat.le_refl _) _⟩
 by_cases h9:1≤r
 rotate_left
 ·rw[validP_no (fun h=>h9 (h.2.2.2.2.2.2.2.2.1))]
  skip
  clear hz hl
  go_enter Tryz.func145,Tryz.ntmps145
  go_wp2
  go_ret
  exact⟨rfl,(Below.refl _ _).alloc (Nat.le_refl _) _⟩
 by_cases h10:r≤1099511627775
 rotate_left
 ·rw[validP_no (fun h=>h10 (h.2.2.2.2.2.2.2.2.2.1))]
  skip
  clear hz hl
  go_enter Tryz.func145,Tryz.ntmps145
  go_wp2
  go_ret
  exact⟨rfl,(Below.refl _ _).alloc (Nat.le_refl _) _⟩
 by_cases h11:l.length=16
 rotate_left
 ·rw[validP_no (fun h=>h11 (h.2.2.2.2.2.2.2.2.2.2))]
  have e16:((s.size:Int)==16)=false:=by simp;omega
  clear h11
  clear hz hl
  go_enter Tryz.func145,Tryz.ntmps145
  go_wp2
  go_ret
  exact⟨rfl,(Below.refl _ _).alloc (Nat.le_refl _) _⟩
 rw[validP_yes ⟨h1,h2,h3,h4,h5,h6,h7,h8,h9,h10,h11⟩]
 have e16:s.size=16:=by omega
 clear h11
 clear hz hl
 go_enter Tryz.func145,Tryz.ntmps145
 go_wp2
 go_ret
 exact⟨rfl,(Below.refl _ _).alloc (Nat.le_refl _) _⟩
theorem refsvalid_any(p:Pc) (w:World) (hp:PcI p) :
  Calls Tryz.prog 60 #[PcV p] w fun e w'=>e=.returned (.bool (validP p))∧Below w.heap.size w w':=by
 obtain⟨a,b,c,g,r,l⟩:=p
 obtain⟨⟨a0,a1⟩,⟨b0,b1⟩,⟨c0,c1⟩,⟨g0,g1⟩,⟨r0,r1⟩,hl⟩:=hp
 unfold PcV
 simp only at a0 a1 b0 b1 c0 c1 g0 g1 r0 r1 hl ⊢
 have hz:=size_of l
 generalize (⟨l.toArray⟩:ByteArray)=s at *
 unfold maxLen at hl
 have hs:s.size≤9223372036854775807:=by omega
 by_cases h1:0≤a
 rotate_left
 ·rw[validP_no (fun h=>h1 (h.1))]
  skip
  clear hz hl
  go_enter Tryz.func60,Tryz.ntmps60
  go_wp2
  go_ret
  exact⟨rfl,(Below.refl _ _).alloc (Nat.le_refl _) _⟩
 by_cases h2:a<12
 rotate_left
 ·rw[validP_no (fun h=>h2 (h.2.1))]
  skip
  clear hz hl
  go_enter Tryz.func60,Tryz.ntmps60
  go_wp2
  go_ret
  exact⟨rfl,(Below.refl _ _).alloc (Nat.le_refl _) _⟩
 by_cases h3:0≤b
 rotate_left
 ·rw[validP_no (fun h=>h3 (h.2.2.1))]
  skip
  clear hz hl
  go_enter Tryz.func60,Tryz.ntmps60
  go_wp2
  go_ret
  exact⟨rfl,(Below.refl _ _).alloc (Nat.le_refl _) _⟩
 by_cases h4:b<8
 rotate_left
 ·rw[validP_no (fun h=>h4 (h.2.2.2.1))]
  skip
  clear hz hl
  go_enter Tryz.func60,Tryz.ntmps60
  go_wp2
  go_ret
  exact⟨rfl,(Below.refl _ _).alloc (Nat.le_refl _) _⟩
 by_cases h5:0≤c
 rotate_left
 ·rw[validP_no (fun h=>h5 (h.2.2.2.2.1))]
  skip
  clear hz hl
  go_enter Tryz.func60,Tryz.ntmps60
  go_wp2
  go_ret
  exact⟨rfl,(Below.refl _ _).alloc (Nat.le_refl _) _⟩
 by_cases h6:c<4
 rotate_left
 ·rw[validP_no (fun h=>h6 (h.2.2.2.2.2.1))]
  skip
  clear hz hl
  go_enter Tryz.func60,Tryz.ntmps60
  go_wp2
  go_ret
  exact⟨rfl,(Below.refl _ _).alloc (Nat.le_refl _) _⟩
 by_cases h7:1≤g
 rotate_left
 ·rw[validP_no (fun h=>h7 (h.2.2.2.2.2.2.1))]
  skip
  clear hz hl
  go_enter Tryz.func60,Tryz.ntmps60
  go_wp2
  go_ret
  exact⟨rfl,(Below.refl _ _).alloc (Nat.le_refl _) _⟩
 by_cases h8:g≤1099511627775
 rotate_left
 ·rw[validP_no (fun h=>h8 (h.2.2.2.2.2.2.2.1))]
  skip
  clear hz hl
  go_enter Tryz.func60,Tryz.ntmps60
  go_wp2
  go_ret
  exact⟨rfl,(Below.refl _ _).alloc (Nat.le_refl _) _⟩
 by_cases h9:1≤r
 rotate_left
 ·rw[validP_no (fun h=>h9 (h.2.2.2.2.2.2.2.2.1))]
  skip
  clear hz hl
  go_enter Tryz.func60,Tryz.ntmps60
  go_wp2
  go_ret
  exact⟨rfl,(Below.refl _ _).alloc (Nat.le_refl _) _⟩
 by_cases h10:r≤1099511627775
 rotate_left
 ·rw[validP_no (fun h=>h10 (h.2.2.2.2.2.2.2.2.2.1))]
  skip
  clear hz hl
  go_enter Tryz.func60,Tryz.ntmps60
  go_wp2
  go_ret
  exact⟨rfl,(Below.refl _ _).alloc (Nat.le_refl _) _⟩
 by_cases h11:l.length=16
 rotate_left
 ·rw[validP_no (fun h=>h11 (h.2.2.2.2.2.2.2.2.2.2))]
  have e16:((s.size:Int)==16)=false:=by simp;omega
  clear h11
  clear hz hl
  go_enter Tryz.func60,Tryz.ntmps60
  go_wp2
  go_ret
  exact⟨rfl,(Below.refl _ _).alloc (Nat.le_refl _) _⟩
 rw[validP_yes ⟨h1,h2,h3,h4,h5,h6,h7,h8,h9,h10,h11⟩]
 have e16:s.size=16:=by omega
 clear h11
 clear hz hl
 go_enter Tryz.func60,Tryz.ntmps60
 go_wp2
 go_ret
 exact⟨rfl,(Below.refl _ _).alloc (Nat.le_refl _) _⟩
def headB(p:Pc):List UInt8:=[93,UInt8.ofNat p.vol.toNat,UInt8.ofNat p.frag.toNat,UInt8.ofNat p.stripe.toNat]++beTo p.gen.toNat 5 5++beTo p.ver.toNat 5 5++[0,0]++p.data
def encB(p:Pc):List UInt8:=sealB (headB p)
def encS(p:Pc):List UInt8:=if validP p then encB p else []
def encE(p:Pc):Int:=if validP p then 0 else 100
theorem sealed_str(s:ByteArray) (w:World) (hl:s.size≤65536) :
  Calls Tryz.prog 62 #[.string s] w fun e w'=>e=.returned (.string ⟨(sealB s.data.toList).toArray⟩)∧Below w.heap.size w w':=by
 have h:=sealed_any s.data.toList w (by rw[Array.length_toList];exact hl)
 rwa [Array.toArray_toList] at h
def Held6(W:World) (q:Nat) (v0 v1 v2 v3 v4 v5:Value) (w':World):Prop :=
 w'.cell? ⟨q,0,none⟩=some v0∧w'.cell? ⟨q,1,none⟩=some v1∧w'.cell? ⟨q,2,none⟩=some v2∧w'.cell? ⟨q,3,none⟩=some v3∧w'.cell? ⟨q,4,none⟩=some v4∧w'.cell? ⟨q,5,none⟩=some v5∧Below W.heap.size W w'
theorem Held6.below{W wc w2:World} {q:Nat} {v0 v1 v2 v3 v4 v5:Value} (h:Held6 W q v0 v1 v2 v3 v4 v5 wc) (hb:Below wc.heap.size wc w2) (hq:q<W.heap.size):Held6 W q v0 v1 v2 v3 v4 v5 w2:=by
 obtain⟨h0,h1,h2,h3,h4,h5,h6⟩:=h
 have hs:=h6.size
 have k:∀i,w2.cell? ⟨q,i,none⟩=wc.cell? ⟨q,i,none⟩:=fun i=>hb.cell (p:=⟨q,i,none⟩) (Nat.lt_of_lt_of_le hq hs)
 exact⟨(k 0).trans h0,(k 1).trans h1,(k 2).trans h2,(k 3).trans h3,(k 4).trans h4,(k 5).trans h5,h6.trans (hb.mono hs)⟩
theorem Held6.alloc{W wc:World} {q:Nat} {v0 v1 v2 v3 v4 v5:Value} {o:Obj} (h:Held6 W q v0 v1 v2 v3 v4 v5 wc) (hq:q<W.heap.size):Held6 W q v0 v1 v2 v3 v4 v5 (wc.alloc o):=h.below ((Below.refl _ _).alloc (Nat.le_refl _) o) hq
theorem conv4(a b c d:UInt8) (W:World) (q:Nat) (h0:W.cell? ⟨q,0,none⟩=some (.int .u8 (a.toNat:Int))) (h1:W.cell? ⟨q,1,none⟩=some (.int .u8 (b.toNat:Int))) (h2:W.cell? ⟨q,2,none⟩=some (.int .u8 (c.toNat:Int))) (h3:W.cell? ⟨q,3,none⟩=some (.int .u8 (d.toNat:Int))) :
  (convert 88 9 (.slice (some ⟨q,0,none⟩) 4 4)).run Tryz.prog W=.ok (.string ⟨[a,b,c,d].toArray⟩) W:=by
 refine conv_bytes (R:=fun _=>True) ⟨_,4,rfl,Nat.le_refl _,by unfold maxLen;simp,fun _=>⟨q,0,rfl,trivial,fun k x hx=>?_⟩⟩
 have hk:k<4:=(List.getElem?_eq_some_iff.1 hx).1
 match k,hk with
 | 0,_=>simp at hx;subst hx;exact h0
 | 1,_=>simp at hx;subst hx;exact h1
 | 2,_=>simp at hx;subst hx;exact h2
 | 3,_=>simp at hx;subst hx;exact h3
theorem refsenc_any(p:Pc) (w:World) (hp:PcI p) (hd:p.data.length≤60000) :
  Calls Tryz.prog 27 #[PcV p] w fun e w'=>e=.returned (.tuple #[.string ⟨(encS p).toArray⟩,.int .i64 (encE p)])∧Below w.heap.size w w':=by
 have HV:=zh (fun w=>refsvalid_any p w hp)
 unfold PcV at HV ⊢
 cases hv:validP p with
 | false =>
  have h1:encS p=[]:=by unfold encS;rw[hv];rfl
  have h2:encE p=100:=by unfold encE;rw[hv];rfl
  rw[hv] at HV
  rw[h1,h2]
  clear h1 h2 hv
  go_enter Tryz.func27,Tryz.ntmps27
  go_wp2_with fail
  refine(HV.out _).mono ?_
  rintro e w' ⟨rfl,hb⟩
  have hb2:=below_box hb
  go_wp2
  go_ret2
  exact⟨rfl,hb2⟩
 | true =>
  have h1:encS p=encB p:=by unfold encS;rw[hv];rfl
  have h2:encE p=0:=by unfold encE;rw[hv];rfl
  obtain⟨a0,a1,b0,b1,c0,c1,g0,g1,r0,r1,hl⟩:=validP_iff.1 hv
  rw[hv] at HV
  rw[h1,h2]
  obtain⟨a,b,c,g,r,l⟩:=p
  simp only at *
  obtain⟨a,rfl⟩:∃n:Nat,a=(n:Int):=⟨a.toNat,by omega⟩
  obtain⟨b,rfl⟩:∃n:Nat,b=(n:Int):=⟨b.toNat,by omega⟩
  obtain⟨c,rfl⟩:∃n:Nat,c=(n:Int):=⟨c.toNat,by omega⟩
  obtain⟨g,rfl⟩:∃n:Nat,g=(n:Int):=⟨g.toNat,by omega⟩
  obtain⟨r,rfl⟩:∃n:Nat,r=(n:Int):=⟨r.toNat,by omega⟩
  have hz:=size_of l
  have hd':(⟨l.toArray⟩:ByteArray).data.toList=l:=by simp
  have HD:=zh hd'
  generalize (⟨l.toArray⟩:ByteArray)=s at *
  have HZ:=zh (hz.trans hl)
  have HB1:=zh (fun w=>big_any g 5 w (by omega) (by omega))
  have HB2:=zh (fun w=>big_any r 5 w (by omega) (by omega))
  have ha:((UInt8.ofNat a).toNat:Int)=(a:Int):=by rw[UInt8.toNat_ofNat'];omega
  have hb:((UInt8.ofNat b).toNat:Int)=(b:Int):=by rw[UInt8.toNat_ofNat'];omega
  have hc:((UInt8.ofNat c).toNat:Int)=(c:Int):=by rw[UInt8.toNat_ofNat'];omega
  have hcv:=fun W q=>conv4 93 (UInt8.ofNat a) (UInt8.ofNat b) (UInt8.ofNat c) W q
  rw[ha,hb,hc] at hcv
  have HCV:=zh hcv
  clear h1 h2 hv hp hd hz hl hd' ha hb hc hcv
  go_enter Tryz.func27,Tryz.ntmps27
  go_wp2_with fail
  refine(HV.out _).mono ?_
  rintro e w1 ⟨rfl,hbv⟩
  obtain⟨q,hq⟩:=zx w.heap.size
  have hbw:=below_box hbv
  obtain⟨hc0,hf0⟩:=bcell hbv
  have k0:w1.cell? ⟨q,0,none⟩=some (.int .i64 (a:Int)):=by rw[hq,hc0 _ _ (by simp)];simp
  have k1:w1.cell? ⟨q,1,none⟩=some (.int .i64 (b:Int)):=by rw[hq,hc0 _ _ (by simp)];simp
  have k2:w1.cell? ⟨q,2,none⟩=some (.int .i64 (c:Int)):=by rw[hq,hc0 _ _ (by simp)];simp
  have k3:w1.cell? ⟨q,3,none⟩=some (.int .i64 (g:Int)):=by rw[hq,hc0 _ _ (by simp)];simp
  have k4:w1.cell? ⟨q,4,none⟩=some (.int .i64 (r:Int)):=by rw[hq,hc0 _ _ (by simp)];simp
  have k5:w1.cell? ⟨q,5,none⟩=some (.string s):=by rw[hq,hc0 _ _ (by simp)];simp
  have hq1:q<w1.heap.size:=by have:=hbv.size;simp at this;omega
  have hS0:Held6 w1 q (.int .i64 (a:Int)) (.int .i64 (b:Int)) (.int .i64 (c:Int)) (.int .i64 (g:Int)) (.int .i64 (r:Int)) (.string s) w1.drew:=⟨k0,k1,k2,k3,k4,k5,(Below.refl _ _).drew⟩
  have HS0:=zh hS0
  rw[←hq]
  clear hc0 hf0 hbv hS0 k0 k1 k2 k3 k4 k5 hq
  go_wp2_with fail
  have hcv:=HCV.out
  have wa:IntKind.u8.wrap (a:Int)=(a:Int):=by rw[IntKind.wrap_u8];omega
  have wb:IntKind.u8.wrap (b:Int)=(b:Int):=by rw[IntKind.wrap_u8];omega
  have wc:IntKind.u8.wrap (c:Int)=(c:Int):=by rw[IntKind.wrap_u8];omega
  have wg:IntKind.u64.wrap (g:Int)=(g:Int):=by simp[IntKind.wrap,IntKind.bits,IntKind.signed];omega
  have wr:IntKind.u64.wrap (r:Int)=(r:Int):=by simp[IntKind.wrap,IntKind.bits,IntKind.signed];omega
  have l1:=beTo_length g 5 5
  have l2:=beTo_length r 5 5
  have hz:=HZ.out
  refine wp_region_held_drew (S:=(fun w'=>w'.cell? ⟨q,0,none⟩=some (.int .i64 (a:Int))∧w'.cell? ⟨q,1,none⟩=some (.int .i64 (b:Int))∧w'.cell? ⟨q,2,none⟩=some (.int .i64 (c:Int))∧w'.cell? ⟨q,3,none⟩=some (.int .i64 (g:Int))∧w'.cell? ⟨q,4,none⟩=some (.int .i64 (r:Int))∧w'.cell? ⟨q,5,none⟩=some (.string s)∧Below w1.heap.size w1 w')) (by kernel_rfl) HS0.out (fun hHeld=>?_)
  refine tkd 0 _ ?_
  refine tkd 1 _ ?_
  refine tkd 2 _ ?_
  refine tkd 3 _ ?_
  refine tkd 4 _ ?_
  refine tkd 5 _ ?_
  refine tkd 6 _ ?_
  refine tkd 7 _ ?_
  refine tkd 8 _ ?_
  refine tkd 11 _ ?_
  refine tkd 12 _ ?_
  refine tkd 13 _ ?_
  refine tkd 16 _ ?_
  refine tkd 17 _ ?_
  refine tkd 18 _ ?_
  refine tkd 22 _ ?_
  refine tkd 23 _ ?_
  refine wpAnyH_ready (rs:=[9,14]) (by kernel_rfl) (by simp) ?_
  refine AllReadyH.cons rfl (fun K hK=>?_) ?_
  ·go_simp
   refine hK.out _ _ ?_ (fun hHeld=>?_)
   ·(first|assumption|exact HS0.out|exact Held6.alloc (by assumption) hq1|exact Held6.below (by assumption) hb2 hq1|exact Held6.below (by assumption) hb3 hq1)
   clear hK K
   (try simp only[Act.put,z1,z2,z3])
   refine wpAnyH_ready (rs:=[10,14]) (by kernel_rfl) (by simp) ?_
   refine AllReadyH.cons rfl (fun K hK=>?_) ?_
   ·go_simp
    refine hK.out _ _ ?_ (fun hHeld=>?_)
    ·(first|assumption|exact HS0.out|exact Held6.alloc (by assumption) hq1|exact Held6.below (by assumption) hb2 hq1|exact Held6.below (by assumption) hb3 hq1)
    clear hK K
    (try simp only[Act.put,z1,z2,z3])
    refine wpAnyH_ready (rs:=[14]) (by kernel_rfl) (by simp) ?_
    refine AllReadyH.cons rfl (fun K hK=>?_) ?_
    ·go_simp
     (go_at_call_of 61 (Value.int .u64 (g:Int));refine(HB1.out _).mono ?_;rintro e w2 ⟨rfl,hb2⟩;obtain⟨hc2,hf2⟩:=bcell hb2;(try have hz2:w1.heap.size<w2.heap.size:=by have:=hb2.size;simp at this;omega))
     go_wp2_with fail
     refine hK.out _ _ ?_ (fun hHeld=>?_)
     ·(first|assumption|exact HS0.out|exact Held6.alloc (by assumption) hq1|exact Held6.below (by assumption) hb2 hq1|exact Held6.below (by assumption) hb3 hq1)
     clear hK K
     (try simp only[Act.put,z1,z2,z3])
     refine tkd 15 _ ?_
     refine wpAnyH_ready (rs:=[19]) (by kernel_rfl) (by simp) ?_
     refine AllReadyH.cons rfl (fun K hK=>?_) ?_
     ·go_simp
      (go_at_call_of 61 (Value.int .u64 (r:Int));refine(HB2.out _).mono ?_;rintro e w3 ⟨rfl,hb3⟩;obtain⟨hc3,hf3⟩:=bcell hb3;(try have hz3:w1.heap.size<w3.heap.size:=by have:=hb3.size;simp at this;omega))
      go_wp2_with fail
      refine hK.out _ _ ?_ (fun hHeld=>?_)
      ·(first|assumption|exact HS0.out|exact Held6.alloc (by assumption) hq1|exact Held6.below (by assumption) hb2 hq1|exact Held6.below (by assumption) hb3 hq1)
      clear hK K
      (try simp only[Act.put,z1,z2,z3])
      refine tkd 20 _ ?_
      refine tkd 21 _ ?_
      refine tkd 24 _ ?_
      refine tkd 25 _ ?_
      refine wpAnyH_done (by kernel_rfl) ?_ _
      have hbx:Below w.heap.size w _:=hbw.trans ((by assumption:_∧_∧_∧_∧_∧_∧Below w1.heap.size w1 _).2.2.2.2.2.2.mono hbw.size)
      obtain⟨x,hx⟩:=zx ((⟨#[93,UInt8.ofNat a,UInt8.ofNat b,UInt8.ofNat c]⟩++⟨(beTo g 5 5).toArray⟩++⟨(beTo r 5 5).toArray⟩++⟨#[0,0]⟩++s:ByteArray))
      have hxl:x.data.toList=headB ⟨a,b,c,g,r,l⟩:=by
       rw[hx,←HD.out]
       simp[headB]
      have hxs:x.size≤65536:=by
       show x.data.size≤_
       rw[←Array.length_toList,hxl]
       have:=HZ.out
       have h2:l.length=16:=by rw[←HD.out,Array.length_toList];exact this
       simp[headB,beTo_length,h2]
      have HX:=zh hxl
      rw[←hx]
      clear hx hxl wa wb wc wg wr l1 l2 hz hcv
      have HSE:=zh (fun w=>sealed_str x w hxs)
      rw[HX.out] at HSE
      clear hxs
      go_wp2_with fail
      refine(HSE.out _).mono ?_
      rintro e w9 ⟨rfl,hb9⟩
      have hb10:=hbx.trans (hb9.mono hbx.size)
      go_wp2
      go_ret2
      exact⟨rfl,hb10⟩
     exact AllReadyH.nil
    exact AllReadyH.nil
   refine AllReadyH.cons rfl (fun K hK=>?_) ?_
   ·go_simp
    (go_at_call_of 61 (Value.int .u64 (g:Int));refine(HB1.out _).mono ?_;rintro e w2 ⟨rfl,hb2⟩;obtain⟨hc2,hf2⟩:=bcell hb2;(try have hz2:w1.heap.size<w2.heap.size:=by have:=hb2.size;simp at this;omega))
    go_wp2_with fail
    refine hK.out _ _ ?_ (fun hHeld=>?_)
    ·(first|assumption|exact HS0.out|exact Held6.alloc (by assumption) hq1|exact Held6.below (by assumption) hb2 hq1|exact Held6.below (by assumption) hb3 hq1)
    clear hK K
    (try simp only[Act.put,z1,z2,z3])
    refine wpAnyH_ready (rs:=[10,19]) (by kernel_rfl) (by simp) ?_
    refine AllReadyH.cons rfl (fun K hK=>?_) ?_
    ·go_simp
     refine hK.out _ _ ?_ (fun hHeld=>?_)
     ·(first|assumption|exact HS0.out|exact Held6.alloc (by assumption) hq1|exact Held6.below (by assumption) hb2 hq1|exact Held6.below (by assumption) hb3 hq1)
     clear hK K
     (try simp only[Act.put,z1,z2,z3])
     refine tkd 15 _ ?_
     refine wpAnyH_ready (rs:=[19]) (by kernel_rfl) (by simp) ?_
     refine AllReadyH.cons rfl (fun K hK=>?_) ?_
     ·go_simp
      (go_at_call_of 61 (Value.int .u64 (r:Int));refine(HB2.out _).mono ?_;rintro e w3 ⟨rfl,hb3⟩;obtain⟨hc3,hf3⟩:=bcell hb3;(try have hz3:w1.heap.size<w3.heap.size:=by have:=hb3.size;simp at this;omega))
      go_wp2_with fail
      refine hK.out _ _ ?_ (fun hHeld=>?_)
      ·(first|assumption|exact HS0.out|exact Held6.alloc (by assumption) hq1|exact Held6.below (by assumption) hb2 hq1|exact Held6.below (by assumption) hb3 hq1)
      clear hK K
      (try simp only[Act.put,z1,z2,z3])
      refine tkd 20 _ ?_
      refine tkd 21 _ ?_
      refine tkd 24 _ ?_
      refine tkd 25 _ ?_
      refine wpAnyH_done (by kernel_rfl) ?_ _
      have hbx:Below w.heap.size w _:=hbw.trans ((by assumption:_∧_∧_∧_∧_∧_∧Below w1.heap.size w1 _).2.2.2.2.2.2.mono hbw.size)
      obtain⟨x,hx⟩:=zx ((⟨#[93,UInt8.ofNat a,UInt8.ofNat b,UInt8.ofNat c]⟩++⟨(beTo g 5 5).toArray⟩++⟨(beTo r 5 5).toArray⟩++⟨#[0,0]⟩++s:ByteArray))
      have hxl:x.data.toList=headB ⟨a,b,c,g,r,l⟩:=by
       rw[hx,←HD.out]
       simp[headB]
      have hxs:x.size≤65536:=by
       show x.data.size≤_
       rw[←Array.length_toList,hxl]
       have:=HZ.out
       have h2:l.length=16:=by rw[←HD.out,Array.length_toList];exact this
       simp[headB,beTo_length,h2]
      have HX:=zh hxl
      rw[←hx]
      clear hx hxl wa wb wc wg wr l1 l2 hz hcv
      have HSE:=zh (fun w=>sealed_str x w hxs)
      rw[HX.out] at HSE
      clear hxs
      go_wp2_with fail
      refine(HSE.out _).mono ?_
      rintro e w9 ⟨rfl,hb9⟩
      have hb10:=hbx.trans (hb9.mono hbx.size)
      go_wp2
      go_ret2
      exact⟨rfl,hb10⟩
     exact AllReadyH.nil
    refine AllReadyH.cons rfl (fun K hK=>?_) ?_
    ·go_simp
     (go_at_call_of 61 (Value.int .u64 (r:Int));refine(HB2.out _).mono ?_;rintro e w3 ⟨rfl,hb3⟩;obtain⟨hc3,hf3⟩:=bcell hb3;(try have hz3:w1.heap.size<w3.heap.size:=by have:=hb3.size;simp at this;omega))
     go_wp2_with fail
     refine hK.out _ _ ?_ (fun hHeld=>?_)
     ·(first|assumption|exact HS0.out|exact Held6.alloc (by assumption) hq1|exact Held6.below (by assumption) hb2 hq1|exact Held6.below (by assumption) hb3 hq1)
     clear hK K
     (try simp only[Act.put,z1,z2,z3])
     refine wpAnyH_ready (rs:=[10]) (by kernel_rfl) (by simp) ?_
     refine AllReadyH.cons rfl (fun K hK=>?_) ?_
     ·go_simp
      refine hK.out _ _ ?_ (fun hHeld=>?_)
      ·(first|assumption|exact HS0.out|exact Held6.alloc (by assumption) hq1|exact Held6.below (by assumption) hb2 hq1|exact Held6.below (by assumption) hb3 hq1)
      clear hK K
      (try simp only[Act.put,z1,z2,z3])
      refine tkd 15 _ ?_
      refine tkd 20 _ ?_
      refine tkd 21 _ ?_
      refine tkd 24 _ ?_
      refine tkd 25 _ ?_
      refine wpAnyH_done (by kernel_rfl) ?_ _
      have hbx:Below w.heap.size w _:=hbw.trans ((by assumption:_∧_∧_∧_∧_∧_∧Below w1.heap.size w1 _).2.2.2.2.2.2.mono hbw.size)
      obtain⟨x,hx⟩:=zx ((⟨#[93,UInt8.ofNat a,UInt8.ofNat b,UInt8.ofNat c]⟩++⟨(beTo g 5 5).toArray⟩++⟨(beTo r 5 5).toArray⟩++⟨#[0,0]⟩++s:ByteArray))
      have hxl:x.data.toList=headB ⟨a,b,c,g,r,l⟩:=by
       rw[hx,←HD.out]
       simp[headB]
      have hxs:x.size≤65536:=by
       show x.data.size≤_
       rw[←Array.length_toList,hxl]
       have:=HZ.out
       have h2:l.length=16:=by rw[←HD.out,Array.length_toList];exact this
       simp[headB,beTo_length,h2]
      have HX:=zh hxl
      rw[←hx]
      clear hx hxl wa wb wc wg wr l1 l2 hz hcv
      have HSE:=zh (fun w=>sealed_str x w hxs)
      rw[HX.out] at HSE
      clear hxs
      go_wp2_with fail
      refine(HSE.out _).mono ?_
      rintro e w9 ⟨rfl,hb9⟩
      have hb10:=hbx.trans (hb9.mono hbx.size)
      go_wp2
      go_ret2
      exact⟨rfl,hb10⟩
     exact AllReadyH.nil
    exact AllReadyH.nil
   exact AllReadyH.nil
  refine AllReadyH.cons rfl (fun K hK=>?_) ?_
  ·go_simp
   (go_at_call_of 61 (Value.int .u64 (g:Int));refine(HB1.out _).mono ?_;rintro e w2 ⟨rfl,hb2⟩;obtain⟨hc2,hf2⟩:=bcell hb2;(try have hz2:w1.heap.size<w2.heap.size:=by have:=hb2.size;simp at this;omega))
   go_wp2_with fail
   refine hK.out _ _ ?_ (fun hHeld=>?_)
   ·(first|assumption|exact HS0.out|exact Held6.alloc (by assumption) hq1|exact Held6.below (by assumption) hb2 hq1|exact Held6.below (by assumption) hb3 hq1)
   clear hK K
   (try simp only[Act.put,z1,z2,z3])
   refine wpAnyH_ready (rs:=[9,19]) (by kernel_rfl) (by simp) ?_
   refine AllReadyH.cons rfl (fun K hK=>?_) ?_
   ·go_simp
    refine hK.out _ _ ?_ (fun hHeld=>?_)
    ·(first|assumption|exact HS0.out|exact Held6.alloc (by assumption) hq1|exact Held6.below (by assumption) hb2 hq1|exact Held6.below (by assumption) hb3 hq1)
    clear hK K
    (try simp only[Act.put,z1,z2,z3])
    refine wpAnyH_ready (rs:=[10,19]) (by kernel_rfl) (by simp) ?_
    refine AllReadyH.cons rfl (fun K hK=>?_) ?_
    ·go_simp
     refine hK.out _ _ ?_ (fun hHeld=>?_)
     ·(first|assumption|exact HS0.out|exact Held6.alloc (by assumption) hq1|exact Held6.below (by assumption) hb2 hq1|exact Held6.below (by assumption) hb3 hq1)
     clear hK K
     (try simp only[Act.put,z1,z2,z3])
     refine tkd 15 _ ?_
     refine wpAnyH_ready (rs:=[19]) (by kernel_rfl) (by simp) ?_
     refine AllReadyH.cons rfl (fun K hK=>?_) ?_
     ·go_simp
      (go_at_call_of 61 (Value.int .u64 (r:Int));refine(HB2.out _).mono ?_;rintro e w3 ⟨rfl,hb3⟩;obtain⟨hc3,hf3⟩:=bcell hb3;(try have hz3:w1.heap.size<w3.heap.size:=by have:=hb3.size;simp at this;omega))
      go_wp2_with fail
      refine hK.out _ _ ?_ (fun hHeld=>?_)
      ·(first|assumption|exact HS0.out|exact Held6.alloc (by assumption) hq1|exact Held6.below (by assumption) hb2 hq1|exact Held6.below (by assumption) hb3 hq1)
      clear hK K
      (try simp only[Act.put,z1,z2,z3])
      refine tkd 20 _ ?_
      refine tkd 21 _ ?_
      refine tkd 24 _ ?_
      refine tkd 25 _ ?_
      refine wpAnyH_done (by kernel_rfl) ?_ _
      have hbx:Below w.heap.size w _:=hbw.trans ((by assumption:_∧_∧_∧_∧_∧_∧Below w1.heap.size w1 _).2.2.2.2.2.2.mono hbw.size)
      obtain⟨x,hx⟩:=zx ((⟨#[93,UInt8.ofNat a,UInt8.ofNat b,UInt8.ofNat c]⟩++⟨(beTo g 5 5).toArray⟩++⟨(beTo r 5 5).toArray⟩++⟨#[0,0]⟩++s:ByteArray))
      have hxl:x.data.toList=headB ⟨a,b,c,g,r,l⟩:=by
       rw[hx,←HD.out]
       simp[headB]
      have hxs:x.size≤65536:=by
       show x.data.size≤_
       rw[←Array.length_toList,hxl]
       have:=HZ.out
       have h2:l.length=16:=by rw[←HD.out,Array.length_toList];exact this
       simp[headB,beTo_length,h2]
      have HX:=zh hxl
      rw[←hx]
      clear hx hxl wa wb wc wg wr l1 l2 hz hcv
      have HSE:=zh (fun w=>sealed_str x w hxs)
      rw[HX.out] at HSE
      clear hxs
      go_wp2_with fail
      refine(HSE.out _).mono ?_
      rintro e w9 ⟨rfl,hb9⟩
      have hb10:=hbx.trans (hb9.mono hbx.size)
      go_wp2
      go_ret2
      exact⟨rfl,hb10⟩
     exact AllReadyH.nil
    refine AllReadyH.cons rfl (fun K hK=>?_) ?_
    ·go_simp
     (go_at_call_of 61 (Value.int .u64 (r:Int));refine(HB2.out _).mono ?_;rintro e w3 ⟨rfl,hb3⟩;obtain⟨hc3,hf3⟩:=bcell hb3;(try have hz3:w1.heap.size<w3.heap.size:=by have:=hb3.size;simp at this;omega))
     go_wp2_with fail
     refine hK.out _ _ ?_ (fun hHeld=>?_)
     ·(first|assumption|exact HS0.out|exact Held6.alloc (by assumption) hq1|exact Held6.below (by assumption) hb2 hq1|exact Held6.below (by assumption) hb3 hq1)
     clear hK K
     (try simp only[Act.put,z1,z2,z3])
     refine wpAnyH_ready (rs:=[10]) (by kernel_rfl) (by simp) ?_
     refine AllReadyH.cons rfl (fun K hK=>?_) ?_
     ·go_simp
      refine hK.out _ _ ?_ (fun hHeld=>?_)
      ·(first|assumption|exact HS0.out|exact Held6.alloc (by assumption) hq1|exact Held6.below (by assumption) hb2 hq1|exact Held6.below (by assumption) hb3 hq1)
      clear hK K
      (try simp only[Act.put,z1,z2,z3])
      refine tkd 15 _ ?_
      refine tkd 20 _ ?_
      refine tkd 21 _ ?_
      refine tkd 24 _ ?_
      refine tkd 25 _ ?_
      refine wpAnyH_done (by kernel_rfl) ?_ _
      have hbx:Below w.heap.size w _:=hbw.trans ((by assumption:_∧_∧_∧_∧_∧_∧Below w1.heap.size w1 _).2.2.2.2.2.2.mono hbw.size)
      obtain⟨x,hx⟩:=zx ((⟨#[93,UInt8.ofNat a,UInt8.ofNat b,UInt8.ofNat c]⟩++⟨(beTo g 5 5).toArray⟩++⟨(beTo r 5 5).toArray⟩++⟨#[0,0]⟩++s:ByteArray))
      have hxl:x.data.toList=headB ⟨a,b,c,g,r,l⟩:=by
       rw[hx,←HD.out]
       simp[headB]
      have hxs:x.size≤65536:=by
       show x.data.size≤_
       rw[←Array.length_toList,hxl]
       have:=HZ.out
       have h2:l.length=16:=by rw[←HD.out,Array.length_toList];exact this
       simp[headB,beTo_length,h2]
      have HX:=zh hxl
      rw[←hx]
      clear hx hxl wa wb wc wg wr l1 l2 hz hcv
      have HSE:=zh (fun w=>sealed_str x w hxs)
      rw[HX.out] at HSE
      clear hxs
      go_wp2_with fail
      refine(HSE.out _).mono ?_
      rintro e w9 ⟨rfl,hb9⟩
      have hb10:=hbx.trans (hb9.mono hbx.size)
      go_wp2
      go_ret2
      exact⟨rfl,hb10⟩
     exact AllReadyH.nil
    exact AllReadyH.nil
   refine AllReadyH.cons rfl (fun K hK=>?_) ?_
   ·go_simp
    (go_at_call_of 61 (Value.int .u64 (r:Int));refine(HB2.out _).mono ?_;rintro e w3 ⟨rfl,hb3⟩;obtain⟨hc3,hf3⟩:=bcell hb3;(try have hz3:w1.heap.size<w3.heap.size:=by have:=hb3.size;simp at this;omega))
    go_wp2_with fail
    refine hK.out _ _ ?_ (fun hHeld=>?_)
    ·(first|assumption|exact HS0.out|exact Held6.alloc (by assumption) hq1|exact Held6.below (by assumption) hb2 hq1|exact Held6.below (by assumption) hb3 hq1)
    clear hK K
    (try simp only[Act.put,z1,z2,z3])
    refine wpAnyH_ready (rs:=[9]) (by kernel_rfl) (by simp) ?_
    refine AllReadyH.cons rfl (fun K hK=>?_) ?_
    ·go_simp
     refine hK.out _ _ ?_ (fun hHeld=>?_)
     ·(first|assumption|exact HS0.out|exact Held6.alloc (by assumption) hq1|exact Held6.below (by assumption) hb2 hq1|exact Held6.below (by assumption) hb3 hq1)
     clear hK K
     (try simp only[Act.put,z1,z2,z3])
     refine wpAnyH_ready (rs:=[10]) (by kernel_rfl) (by simp) ?_
     refine AllReadyH.cons rfl (fun K hK=>?_) ?_
     ·go_simp
      refine hK.out _ _ ?_ (fun hHeld=>?_)
      ·(first|assumption|exact HS0.out|exact Held6.alloc (by assumption) hq1|exact Held6.below (by assumption) hb2 hq1|exact Held6.below (by assumption) hb3 hq1)
      clear hK K
      (try simp only[Act.put,z1,z2,z3])
      refine tkd 15 _ ?_
      refine tkd 20 _ ?_
      refine tkd 21 _ ?_
      refine tkd 24 _ ?_
      refine tkd 25 _ ?_
      refine wpAnyH_done (by kernel_rfl) ?_ _
      have hbx:Below w.heap.size w _:=hbw.trans ((by assumption:_∧_∧_∧_∧_∧_∧Below w1.heap.size w1 _).2.2.2.2.2.2.mono hbw.size)
      obtain⟨x,hx⟩:=zx ((⟨#[93,UInt8.ofNat a,UInt8.ofNat b,UInt8.ofNat c]⟩++⟨(beTo g 5 5).toArray⟩++⟨(beTo r 5 5).toArray⟩++⟨#[0,0]⟩++s:ByteArray))
      have hxl:x.data.toList=headB ⟨a,b,c,g,r,l⟩:=by
       rw[hx,←HD.out]
       simp[headB]
      have hxs:x.size≤65536:=by
       show x.data.size≤_
       rw[←Array.length_toList,hxl]
       have:=HZ.out
       have h2:l.length=16:=by rw[←HD.out,Array.length_toList];exact this
       simp[headB,beTo_length,h2]
      have HX:=zh hxl
      rw[←hx]
      clear hx hxl wa wb wc wg wr l1 l2 hz hcv
      have HSE:=zh (fun w=>sealed_str x w hxs)
      rw[HX.out] at HSE
      clear hxs
      go_wp2_with fail
      refine(HSE.out _).mono ?_
      rintro e w9 ⟨rfl,hb9⟩
      have hb10:=hbx.trans (hb9.mono hbx.size)
      go_wp2
      go_ret2
      exact⟨rfl,hb10⟩
     exact AllReadyH.nil
    exact AllReadyH.nil
   exact AllReadyH.nil
  exact AllReadyH.nil
def decP(l:List UInt8):Pc:=⟨((l.getD 1 0).toNat:Int),((l.getD 2 0).toNat:Int),((l.getD 3 0).toNat:Int),(num ((l.drop 4).take 5):Int),(num ((l.drop 9).take 5):Int),(l.drop 16).take 16⟩
def decEr(l:List UInt8):Int :=
 if l.length≠36 then 101 else if l=List.replicate 36 0 then 102 else if sealB (l.take 32)≠l then 103 else if validP (decP l)=true∧encB (decP l)=l then 0 else 104
def decPc(l:List UInt8):Pc:=if decEr l=0 then decP l else⟨0,0,0,0,0,[]⟩
theorem PcV_zero:PcV ⟨0,0,0,0,0,[]⟩=.agg #[.int .i64 0,.int .i64 0,.int .i64 0,.int .i64 0,.int .i64 0,.string ⟨#[]⟩]:=rfl
theorem decEr_len{l:List UInt8} (h:l.length≠36):decEr l=101:=by unfold decEr;rw[if_pos h]
theorem decEr_blank{l:List UInt8} (h:l.length=36) (h2:l=List.replicate 36 0):decEr l=102:=by unfold decEr;rw[if_neg (by simp[h]),if_pos h2]
theorem decEr_sum{l:List UInt8} (h:l.length=36) (h2:l≠List.replicate 36 0) (h3:sealB (l.take 32)≠l):decEr l=103:=by unfold decEr;rw[if_neg (by simp[h]),if_neg h2,if_pos h3]
theorem decEr_form{l:List UInt8} (h:l.length=36) (h2:l≠List.replicate 36 0) (h3:sealB (l.take 32)=l) (h4:¬(validP (decP l)=true∧encB (decP l)=l)):decEr l=104:=by unfold decEr;rw[if_neg (by simp[h]),if_neg h2,if_neg (by simp[h3]),if_neg h4]
theorem decEr_ok{l:List UInt8} (h:l.length=36) (h2:l≠List.replicate 36 0) (h3:sealB (l.take 32)=l) (h4:validP (decP l)=true∧encB (decP l)=l):decEr l=0:=by unfold decEr;rw[if_neg (by simp[h]),if_neg h2,if_neg (by simp[h3]),if_pos h4]
theorem decPc_bad{l:List UInt8} (h:decEr l≠0):decPc l=⟨0,0,0,0,0,[]⟩:=if_neg h
theorem decPc_ok{l:List UInt8} (h:decEr l=0):decPc l=decP l:=if_pos h
theorem decP_in(l:List UInt8) (h:l.length=36):PcI (decP l)∧(decP l).data.length=16:=by
 have h1:=num_lt ((l.drop 4).take 5)
 have h2:=num_lt ((l.drop 9).take 5)
 have e1:((l.drop 4).take 5).length=5:=by rw[List.length_take,List.length_drop];omega
 have e2:((l.drop 9).take 5).length=5:=by rw[List.length_take,List.length_drop];omega
 rw[e1] at h1
 rw[e2] at h2
 have e3:((l.drop 16).take 16).length=16:=by rw[List.length_take,List.length_drop];omega
 have b1:=(l.getD 1 0).toNat_lt
 have b2:=(l.getD 2 0).toNat_lt
 have b3:=(l.getD 3 0).toNat_lt
 refine⟨⟨?_,?_,?_,?_,?_,?_⟩,e3⟩
 all_goals (unfold decP;simp only)
 ·unfold I64;omega
 ·unfold I64;omega
 ·unfold I64;omega
 ·unfold I64;omega
 ·unfold I64;omega
 ·rw[e3];unfold maxLen;omega
theorem blank_any(w:World):Calls Tryz.prog 19 #[] w fun e w'=>e=.returned (.string ⟨(List.replicate 36 (0:UInt8)).toArray⟩)∧Below w.heap.size w w':=by
 have hmk:∀w:World,(Instr.makeSlice 88 (.int .i64 36) (.int .i64 36)).run Tryz.prog w=.ok (.slice (some ⟨w.heap.size,0,none⟩) 36 36) (w.alloc (.cells (Array.replicate 36 (.int .u8 0)) 5)):=mk_u8 36 (by omega)
 have hB:=BlkB.new w 36
 have hcv:=conv_bytes ((hB.byS (c:=36) (by simp) (by unfold maxLen;simp) (R:=fun _=>True) trivial))
 have hb:Below w.heap.size w (w.alloc (.cells (Array.replicate 36 (.int .u8 0)) 5)):=(Below.refl _ _).alloc (Nat.le_refl _) _
 rw[List.length_replicate] at hcv
 have HB:=zh hb
 clear hb hB
 obtain⟨z,hz⟩:∃z:ByteArray,z=⟨(List.replicate 36 (0:UInt8)).toArray⟩:=⟨_,rfl⟩
 obtain⟨W,hW⟩:=zx (w.alloc (.cells (Array.replicate 36 (.int .u8 0)) 5))
 rw[←hz,←hW] at hcv
 rw[←hW] at HB
 rw[←hz]
 have hmk1:=hmk w
 rw[←hW] at hmk1
 clear hz hW hmk
 go_enter Tryz.func19,Tryz.ntmps19
 go_wp2
 go_ret
 exact⟨rfl,HB.out⟩
theorem str_eq(s:ByteArray) (l:List UInt8):(s=⟨l.toArray⟩)↔s.data.toList=l:=by
 constructor
 ·intro h;rw[h]
 ·intro h;rw[←h]
theorem ext_list(s:ByteArray) (i j:Nat) (h:j≤s.size):(s.extract i j).data.toList=(s.data.toList.drop i).take (j - i):=by
 simp[ByteArray.data_extract,List.take_drop]
theorem below6{B:Nat} {a w1:World} (h:Below B a w1) {g:Nat} (hg:B≤g) (v0 v1 v2 v3 v4 v5:Value) :
  Below B a ((((((w1.setCell ⟨g,0,none⟩ v0).setCell ⟨g,1,none⟩ v1).setCell ⟨g,2,none⟩ v2).setCell ⟨g,3,none⟩ v3).setCell ⟨g,4,none⟩ v4).setCell ⟨g,5,none⟩ v5) :=
 (((((h.setCell hg _).setCell hg _).setCell hg _).setCell hg _).setCell hg _).setCell hg _
theorem lst_yes{s:ByteArray} {l:List UInt8} (h:l=s.data.toList):(l==s.toList)=true:=by rw[beq_iff_eq,ByteArray.toList_eq,h]
theorem lst_no{s:ByteArray} {l:List UInt8} (h:l≠s.data.toList):(l==s.toList)=false:=by rw[beq_eq_false_iff_ne,ByteArray.toList_eq];exact h
theorem run_bytes_str(W:World) (s:ByteArray) :
  ∃W' cap,(convert 9 88 (.string s)).run Tryz.prog W=.ok (.slice (some ⟨W.heap.size,0,none⟩) s.size cap) W'∧Below W.heap.size W W'∧W.heap.size<W'.heap.size∧s.size≤cap∧BufAt W' W.heap.size s.data.toList:=by
 have h:=run_bytes_ex (P:=Tryz.prog) W 9 88 5 s.data.toList Tryz.underlying9 Tryz.underlying88 Tryz.underlying5
 have e:s.data.toList.length=s.size:=Array.length_toList
 rw[Array.toArray_toList,e] at h
 exact h
theorem snumber_any(s:ByteArray) (a n:Nat) (w:World) (hn:n≤7) (ha:a+n≤s.size) (hs:s.size≤65536) :
  Calls Tryz.prog 99 #[.string s,.int .i64 (a:Int),.int .i64 (n:Int)] w fun e w'=>e=.returned (.int .i64 (num ((s.data.toList.drop a).take n):Int))∧Below w.heap.size w w':=by
 have he:(s.extract a (a+n)).data.toList=(s.data.toList.drop a).take n:=by rw[ext_list s a (a+n) ha];congr 1;omega
 have hsz:(s.extract a (a+n)).size=n:=by
  show(s.extract a (a+n)).data.size=n
  rw[←Array.length_toList,he,List.length_take,List.length_drop,Array.length_toList]
  have:s.data.size=s.size:=rfl
  omega
 obtain⟨W2,cap2,hrun,hbW2,hltW,hcap,hbuf⟩:=run_bytes_str w (s.extract a (a+n))
 rw[he] at hbuf
 rw[hsz] at hrun hcap
 obtain⟨l,hl⟩:=zx ((s.data.toList.drop a).take n)
 have hll:l.length=n:=by rw[hl,←he,Array.length_toList];exact hsz
 rw[←hl] at hbuf ⊢
 have HL:=zh hll
 have HB:=zh hbuf
 have HBW:=zh hbW2
 have b1:(a:Int)+(n:Int)≤(s.size:Int):=by omega
 have b2:(a:Int)≤(a:Int)+(n:Int):=by omega
 have b3:((a:Int)+(n:Int)).toNat=a+n:=by omega
 obtain⟨g,hg⟩:=zx w.heap.size
 rw[←hg] at HB hrun
 clear he hsz hl hll hbuf hbW2 hltW hg
 go_enter Tryz.func99,Tryz.ntmps99
 go_wp2
 go_loopg [7,9,18] n (fun z v7 v9 v18 wr=>W2=wr∧∃j:Nat,j≤n∧z=n - j∧v18=.int .i64 (j:Int)∧v7=.int .i64 (num (l.take j):Int))
 case atStart=>exact⟨rfl,0,by omega,rfl,rfl,rfl⟩
 case round =>
  obtain⟨rfl,j,hj,rfl,rfl,rfl⟩:=hrel
  by_cases hlt:j<n
  ·have hjl:j<l.length:=by rw[HL.out];exact hlt
   obtain⟨hc,-⟩:=HB.out j l[j] (List.getElem?_eq_getElem hjl)
   have hsn:num (l.take (j+1))=num (l.take j) * 256+l[j].toNat:=by rw[List.take_succ_eq_append_getElem hjl,num_snoc]
   have hlt2:=num_lt (l.take j)
   have h6:(l.take j).length≤6:=by rw[List.length_take];omega
   generalize num (l.take j)=m at *
   have hm:m<36028797018963968:=by
    refine Nat.lt_of_lt_of_le hlt2 ?_
    calc 256 ^ (l.take j).length≤256 ^ 6:=Nat.pow_le_pow_right (by omega) h6
     _≤_:=by decide
   have Hsn:=zh hsn
   have ho:=num_or m l[j] hm
   have hcc:l[j].toNat<256:=l[j].toNat_lt
   generalize l[j]=c at *
   clear hsn hlt2 h6 hjl
   go_wp2
   go_roundg (n - (j+1))
   case measure=>omega
   case rel=>exact⟨rfl,j+1,by omega,rfl,by go_num,by rw[Hsn.out];go_num⟩
  ·have hjn:j=n:=by omega
   have HJ:=zh hjn
   clear hjn
   go_wp2
   go_ret
   exact⟨ret_int (by rw[HJ.out,List.take_of_length_le (by rw[HL.out];exact Nat.le_refl _)]),HBW.out⟩
def putP(l:List UInt8) (at_ n v j:Nat):List UInt8:=(List.range l.length).map fun p=>if at_+n - j≤p∧p<at_+n then UInt8.ofNat (v / 256 ^ (at_+n - 1 - p)) else l.getD p 0
theorem putP_length(l:List UInt8) (at_ n v j:Nat):(putP l at_ n v j).length=l.length:=by simp[putP]
theorem putP_getElem(l:List UInt8) (at_ n v j p:Nat) (h:p<(putP l at_ n v j).length):(putP l at_ n v j)[p]=if at_+n - j≤p∧p<at_+n then UInt8.ofNat (v / 256 ^ (at_+n - 1 - p)) else l.getD p 0:=by simp[putP]
theorem putP_zero(l:List UInt8) (at_ n v:Nat):putP l at_ n v 0=l:=by
 apply List.ext_getElem
 ·exact putP_length _ _ _ _ _
 ·intro p h1 h2
  rw[putP_getElem,if_neg (by omega),getD_lt _ _ h2]
theorem putP_step(l:List UInt8) (at_ n v j:Nat) (hj:j<n) (hl:at_+n≤l.length):(putP l at_ n v j).set (at_+(n - 1 - j)) (UInt8.ofNat (v / 256 ^ j))=putP l at_ n v (j+1):=by
 apply List.ext_getElem
 ·rw[List.length_set,putP_length,putP_length]
 ·intro p h1 h2
  simp only[List.getElem_set,putP_getElem]
  by_cases e:at_+(n - 1 - j)=p
  ·rw[if_pos e,if_pos (by omega)]
   have:at_+n - 1 - p=j:=by omega
   rw[this]
  ·rw[if_neg e]
   by_cases h:at_+n - j≤p∧p<at_+n
   ·rw[if_pos h,if_pos (by omega)]
   ·rw[if_neg h,if_neg (by omega)]
theorem beTo_getElem(v n k i:Nat) (h:i<(beTo v n k).length):(beTo v n k)[i]=UInt8.ofNat (v / 256 ^ (n - 1 - i)):=by simp[beTo]
theorem putP_all(l:List UInt8) (at_ n v:Nat) (hl:at_+n≤l.length):putP l at_ n v n=l.take at_++beTo v n n++l.drop (at_+n):=by
 apply List.ext_getElem
 ·rw[putP_length];simp only[List.length_append,List.length_take,List.length_drop,beTo_length];omega
 ·intro p h1 h2
  rw[putP_length] at h1
  simp only[putP_getElem,List.getElem_append,List.length_append,List.length_take,beTo_length,List.getElem_take,List.getElem_drop,beTo_getElem]
  rcases Nat.lt_or_ge p at_ with h | h
  ·rw[if_neg (by omega),dif_pos (by omega),dif_pos (by omega),getD_lt _ _ h1]
  ·rcases Nat.lt_or_ge p (at_+n) with h3 | h3
   ·rw[if_pos (by omega),dif_pos (by omega),dif_neg (by omega)]
    congr 3
    omega
   ·rw[if_neg (by omega),dif_neg (by omega),getD_lt _ _ h1]
    congr 1
    omega
theorem put_any(g c at_ n v:Nat) (l:List UInt8) (w:World) (hB:BlkB w g l) (hl:at_+n≤l.length) (hl2:l.length≤65536) (hv:v≤4611686018427387904) :
  Calls Tryz.prog 146 #[.slice (some ⟨g,0,none⟩) l.length c,.int .i64 (at_:Int),.int .i64 (n:Int),.int .i64 (v:Int)] w fun e w'=>e=.returned (.tuple #[])∧BlkB w' g (l.take at_++beTo v n n++l.drop (at_+n))∧w.grownBy w' (some g):=by
 have HB0:=zh hB
 obtain⟨L,hL⟩:=zx l.length
 rw[←hL] at hl hl2 ⊢
 have HL:=zh hL
 clear hB hL
 go_enter Tryz.func146,Tryz.ntmps146
 go_wp2
 go_loopg [3,8] n (fun z v3 v8 wr=>∃j:Nat,j≤n∧z=n - j∧v8=.int .i64 ((n:Int) - 1 - (j:Int))∧v3=.int .i64 ((v / 256 ^ j:Nat):Int)∧BlkB wr g (putP l at_ n v j)∧w.grownBy wr (some g))
 case atStart=>exact⟨0,by omega,rfl,by go_num,by simp,by rw[putP_zero];exact HB0.out,only_refl2 w g⟩
 case round =>
  obtain⟨j,hj,rfl,rfl,rfl,hb,hgr⟩:=hrel
  by_cases hlt:j<n
  ·obtain⟨i,hi⟩:=zx (n - 1 - j)
   have ei:(n:Int) - 1 - (j:Int)=(i:Int):=by omega
   have hd0:decide ((0:Int)≤(i:Int))=true:=by simp
   have hst:=putP_step l at_ n v j hlt (by rw[←HL.out];exact hl)
   have hpl:=putP_length l at_ n v j
   rw[←hi] at hst
   have hfr:=hb.free (at_+i)
   obtain⟨o,hcl⟩:∃o,wr.cell? ⟨g,at_+i,none⟩=some o:=⟨_,hb.cell (j:=at_+i) (by rw[hpl,←HL.out];omega)⟩
   have hq:v / 256 ^ j≤4611686018427387904:=Nat.le_trans (Nat.div_le_self _ _) hv
   have hq2:v / 256 ^ (j+1)=v / 256 ^ j / 256:=by rw[Nat.pow_succ,Nat.div_div_eq_div_mul]
   have HST:=zh hst
   have HQ2:=zh hq2
   have HB:=zh hb
   have hil:at_+i<L:=by omega
   have HI:=zh hi
   rw[ei]
   clear hi hst hpl hb hq2 ei
   generalize v / 256 ^ j=u at *
   have hu8:((UInt8.ofNat u).toNat:Int)=(u:Int) % 256:=by rw[UInt8.toNat_ofNat'];omega
   have HU:=zh hu8
   clear hu8
   go_wp2
   go_roundg (n - (j+1))
   case measure=>omega
   case rel=>exact⟨j+1,by omega,rfl,by have:=HI.out;go_num,by rw[HQ2.out];go_num,by rw[←HST.out,←HU.out];exact HB.out.set _ _,only_set2 hgr _ _⟩
  ·have hd0:decide ((0:Int)≤(n:Int) - 1 - (j:Int))=false:=by simp;omega
   have hjn:j=n:=by omega
   have HJ:=zh hjn
   clear hjn
   go_wp2
   go_end0
   exact⟨rfl,by rw[←putP_all l at_ n v (by rw[←HL.out];exact hl),←HJ.out];rw[HJ.out] at hb ⊢;exact hb,hgr⟩
end Go.Proofs.YtmehadfhcdpfcaaGreat
