/- Pieces: the model of sectors, and which pieces are valid. -/
import Derived.Test.YtcfkllnpkmebpaaGreatDoorMq04
import Derived.Test.YtcfkllnpkmebpaaGreatDoorMq01
import Derived.Deep.RegionHeld3
import Derived.StillTailTactics
import Derived.Lib.BufferWrite
import Derived.RegionTactic
set_option maxRecDepth 100000
set_option maxHeartbeats 12800000
namespace Go.Proofs.YtcfkllnpkmebpaaGreatDoor
open Go.RowKit
set_option linter.unusedVariables false
set_option linter.unusedSimpArgs false
structure Pc where
 vol:Int
 frag:Int
 stripe:Int
 gen:Int
 ver:Int
 data:List UInt8
def validP(p:Pc):Bool:=decide (0≤p.vol∧p.vol<12∧0≤p.frag∧p.frag<8∧0≤p.stripe∧p.stripe<4∧1≤p.gen∧p.gen≤1099511627775∧1≤p.ver∧p.ver≤1099511627775∧p.data.length=16)
theorem validP_no{a b c g r:Int} {l:List UInt8} (h:¬(0≤a∧a<12∧0≤b∧b<8∧0≤c∧c<4∧1≤g∧g≤1099511627775∧1≤r∧r≤1099511627775∧l.length=16)):validP ⟨a,b,c,g,r,l⟩=false:=by
 unfold validP;exact decide_eq_false h
theorem validP_yes{a b c g r:Int} {l:List UInt8} (h:0≤a∧a<12∧0≤b∧b<8∧0≤c∧c<4∧1≤g∧g≤1099511627775∧1≤r∧r≤1099511627775∧l.length=16):validP ⟨a,b,c,g,r,l⟩=true:=by
 unfold validP;exact decide_eq_true h
theorem validP_iff{p:Pc}:validP p=true↔0≤p.vol∧p.vol<12∧0≤p.frag∧p.frag<8∧0≤p.stripe∧p.stripe<4∧1≤p.gen∧p.gen≤1099511627775∧1≤p.ver∧p.ver≤1099511627775∧p.data.length=16:=by
 unfold validP;exact decide_eq_true_iff
def PcV(p:Pc):Value:=.agg #[.int .i64 p.vol,.int .i64 p.frag,.int .i64 p.stripe,.int .i64 p.gen,.int .i64 p.ver,.string ⟨p.data.toArray⟩]
def PcI(p:Pc):Prop:=I64 p.vol∧I64 p.frag∧I64 p.stripe∧I64 p.gen∧I64 p.ver∧p.data.length≤maxLen
theorem size_of(l:List UInt8):(⟨l.toArray⟩:ByteArray).size=l.length:=by show l.toArray.size=_;simp
theorem svalid_any(p:Pc) (w:World) (hp:PcI p) :
  Calls Tryz.prog 210 #[PcV p] w fun e w'=>e=.returned (.bool (validP p))∧Below w.heap.size w w':=by
 obtain⟨a,b,c,g,r,l⟩:=p;obtain⟨⟨a0,a1⟩,⟨b0,b1⟩,⟨c0,c1⟩,⟨g0,g1⟩,⟨r0,r1⟩,hl⟩:=hp;unfold PcV;simp only at a0 a1 b0 b1 c0 c1 g0 g1 r0 r1 hl ⊢;have hz:=size_of l;generalize (⟨l.toArray⟩:ByteArray)=s at *;unfold maxLen at hl
 have hs:s.size≤9223372036854775807:=by omega
 by_cases h1:0≤a;rotate_left
 ·rw[validP_no (fun h=>h1 (h.1))]
  skip
  clear hz hl;go_enter Tryz.func210,Tryz.ntmps210;go_wp2;go_ret;exact⟨rfl,(Below.refl _ _).alloc (Nat.le_refl _) _⟩
 by_cases h2:a<12;rotate_left
 ·rw[validP_no (fun h=>h2 (h.2.1))]
  skip
  clear hz hl;go_enter Tryz.func210,Tryz.ntmps210;go_wp2;go_ret;exact⟨rfl,(Below.refl _ _).alloc (Nat.le_refl _) _⟩
 by_cases h3:0≤b;rotate_left
 ·rw[validP_no (fun h=>h3 (h.2.2.1))]
  skip
  clear hz hl;go_enter Tryz.func210,Tryz.ntmps210;go_wp2;go_ret;exact⟨rfl,(Below.refl _ _).alloc (Nat.le_refl _) _⟩
 by_cases h4:b<8;rotate_left
 ·rw[validP_no (fun h=>h4 (h.2.2.2.1))]
  skip
  clear hz hl;go_enter Tryz.func210,Tryz.ntmps210;go_wp2;go_ret;exact⟨rfl,(Below.refl _ _).alloc (Nat.le_refl _) _⟩
 by_cases h5:0≤c;rotate_left
 ·rw[validP_no (fun h=>h5 (h.2.2.2.2.1))]
  skip
  clear hz hl;go_enter Tryz.func210,Tryz.ntmps210;go_wp2;go_ret;exact⟨rfl,(Below.refl _ _).alloc (Nat.le_refl _) _⟩
 by_cases h6:c<4;rotate_left
 ·rw[validP_no (fun h=>h6 (h.2.2.2.2.2.1))]
  skip
  clear hz hl;go_enter Tryz.func210,Tryz.ntmps210;go_wp2;go_ret;exact⟨rfl,(Below.refl _ _).alloc (Nat.le_refl _) _⟩
 by_cases h7:1≤g;rotate_left
 ·rw[validP_no (fun h=>h7 (h.2.2.2.2.2.2.1))]
  skip
  clear hz hl;go_enter Tryz.func210,Tryz.ntmps210;go_wp2;go_ret;exact⟨rfl,(Below.refl _ _).alloc (Nat.le_refl _) _⟩
 by_cases h8:g≤1099511627775;rotate_left
 ·rw[validP_no (fun h=>h8 (h.2.2.2.2.2.2.2.1))]
  skip
  clear hz hl;go_enter Tryz.func210,Tryz.ntmps210;go_wp2;go_ret;exact⟨rfl,(Below.refl _ _).alloc (Nat.le_refl _) _⟩
 by_cases h9:1≤r;rotate_left
 ·rw[validP_no (fun h=>h9 (h.2.2.2.2.2.2.2.2.1))]
  skip
  clear hz hl;go_enter Tryz.func210,Tryz.ntmps210;go_wp2;go_ret;exact⟨rfl,(Below.refl _ _).alloc (Nat.le_refl _) _⟩
 by_cases h10:r≤1099511627775;rotate_left
 ·rw[validP_no (fun h=>h10 (h.2.2.2.2.2.2.2.2.2.1))]
  skip
  clear hz hl;go_enter Tryz.func210,Tryz.ntmps210;go_wp2;go_ret;exact⟨rfl,(Below.refl _ _).alloc (Nat.le_refl _) _⟩
 by_cases h11:l.length=16;rotate_left
 ·rw[validP_no (fun h=>h11 (h.2.2.2.2.2.2.2.2.2.2))]
  have e16:((s.size:Int)==16)=false:=by simp;omega
  clear h11;clear hz hl;go_enter Tryz.func210,Tryz.ntmps210;go_wp2;go_ret;exact⟨rfl,(Below.refl _ _).alloc (Nat.le_refl _) _⟩
 rw[validP_yes ⟨h1,h2,h3,h4,h5,h6,h7,h8,h9,h10,h11⟩]
 have e16:s.size=16:=by omega
 clear h11;clear hz hl;go_enter Tryz.func210,Tryz.ntmps210;go_wp2;go_ret;exact⟨rfl,(Below.refl _ _).alloc (Nat.le_refl _) _⟩
theorem refsvalid_any(p:Pc) (w:World) (hp:PcI p) :
  Calls Tryz.prog 87 #[PcV p] w fun e w'=>e=.returned (.bool (validP p))∧Below w.heap.size w w':=by
 obtain⟨a,b,c,g,r,l⟩:=p;obtain⟨⟨a0,a1⟩,⟨b0,b1⟩,⟨c0,c1⟩,⟨g0,g1⟩,⟨r0,r1⟩,hl⟩:=hp;unfold PcV;simp only at a0 a1 b0 b1 c0 c1 g0 g1 r0 r1 hl ⊢;have hz:=size_of l;generalize (⟨l.toArray⟩:ByteArray)=s at *;unfold maxLen at hl
 have hs:s.size≤9223372036854775807:=by omega
 by_cases h1:0≤a;rotate_left
 ·rw[validP_no (fun h=>h1 (h.1))]
  skip
  clear hz hl;go_enter Tryz.func87,Tryz.ntmps87;go_wp2;go_ret;exact⟨rfl,(Below.refl _ _).alloc (Nat.le_refl _) _⟩
 by_cases h2:a<12;rotate_left
 ·rw[validP_no (fun h=>h2 (h.2.1))]
  skip
  clear hz hl;go_enter Tryz.func87,Tryz.ntmps87;go_wp2;go_ret;exact⟨rfl,(Below.refl _ _).alloc (Nat.le_refl _) _⟩
 by_cases h3:0≤b;rotate_left
 ·rw[validP_no (fun h=>h3 (h.2.2.1))]
  skip
  clear hz hl;go_enter Tryz.func87,Tryz.ntmps87;go_wp2;go_ret;exact⟨rfl,(Below.refl _ _).alloc (Nat.le_refl _) _⟩
 by_cases h4:b<8;rotate_left
 ·rw[validP_no (fun h=>h4 (h.2.2.2.1))]
  skip
  clear hz hl;go_enter Tryz.func87,Tryz.ntmps87;go_wp2;go_ret;exact⟨rfl,(Below.refl _ _).alloc (Nat.le_refl _) _⟩
 by_cases h5:0≤c;rotate_left
 ·rw[validP_no (fun h=>h5 (h.2.2.2.2.1))]
  skip
  clear hz hl;go_enter Tryz.func87,Tryz.ntmps87;go_wp2;go_ret;exact⟨rfl,(Below.refl _ _).alloc (Nat.le_refl _) _⟩
 by_cases h6:c<4;rotate_left
 ·rw[validP_no (fun h=>h6 (h.2.2.2.2.2.1))]
  skip
  clear hz hl;go_enter Tryz.func87,Tryz.ntmps87;go_wp2;go_ret;exact⟨rfl,(Below.refl _ _).alloc (Nat.le_refl _) _⟩
 by_cases h7:1≤g;rotate_left
 ·rw[validP_no (fun h=>h7 (h.2.2.2.2.2.2.1))]
  skip
  clear hz hl;go_enter Tryz.func87,Tryz.ntmps87;go_wp2;go_ret;exact⟨rfl,(Below.refl _ _).alloc (Nat.le_refl _) _⟩
 by_cases h8:g≤1099511627775;rotate_left
 ·rw[validP_no (fun h=>h8 (h.2.2.2.2.2.2.2.1))]
  skip
  clear hz hl;go_enter Tryz.func87,Tryz.ntmps87;go_wp2;go_ret;exact⟨rfl,(Below.refl _ _).alloc (Nat.le_refl _) _⟩
 by_cases h9:1≤r;rotate_left
 ·rw[validP_no (fun h=>h9 (h.2.2.2.2.2.2.2.2.1))]
  skip
  clear hz hl;go_enter Tryz.func87,Tryz.ntmps87;go_wp2;go_ret;exact⟨rfl,(Below.refl _ _).alloc (Nat.le_refl _) _⟩
 by_cases h10:r≤1099511627775;rotate_left
 ·rw[validP_no (fun h=>h10 (h.2.2.2.2.2.2.2.2.2.1))]
  skip
  clear hz hl;go_enter Tryz.func87,Tryz.ntmps87;go_wp2;go_ret;exact⟨rfl,(Below.refl _ _).alloc (Nat.le_refl _) _⟩
 by_cases h11:l.length=16;rotate_left
 ·rw[validP_no (fun h=>h11 (h.2.2.2.2.2.2.2.2.2.2))]
  have e16:((s.size:Int)==16)=false:=by simp;omega
  clear h11;clear hz hl;go_enter Tryz.func87,Tryz.ntmps87;go_wp2;go_ret;exact⟨rfl,(Below.refl _ _).alloc (Nat.le_refl _) _⟩
 rw[validP_yes ⟨h1,h2,h3,h4,h5,h6,h7,h8,h9,h10,h11⟩]
 have e16:s.size=16:=by omega
 clear h11;clear hz hl;go_enter Tryz.func87,Tryz.ntmps87;go_wp2;go_ret;exact⟨rfl,(Below.refl _ _).alloc (Nat.le_refl _) _⟩
def headB(p:Pc):List UInt8:=[93,UInt8.ofNat p.vol.toNat,UInt8.ofNat p.frag.toNat,UInt8.ofNat p.stripe.toNat]++beTo p.gen.toNat 5 5++beTo p.ver.toNat 5 5++[0,0]++p.data
def encB(p:Pc):List UInt8:=sealB (headB p)
def encS(p:Pc):List UInt8:=if validP p then encB p else []
def encE(p:Pc):Int:=if validP p then 0 else 100
theorem sealed_str(s:ByteArray) (w:World) (hl:s.size≤65536) :
  Calls Tryz.prog 89 #[.string s] w fun e w'=>e=.returned (.string ⟨(sealB s.data.toList).toArray⟩)∧Below w.heap.size w w':=by
 have h:=sealed_any s.data.toList w (by rw[Array.length_toList];exact hl)
 rwa [Array.toArray_toList] at h
def Held6(W:World) (q:Nat) (v0 v1 v2 v3 v4 v5:Value) (w':World):Prop :=
 w'.cell? ⟨q,0,none⟩=some v0∧w'.cell? ⟨q,1,none⟩=some v1∧w'.cell? ⟨q,2,none⟩=some v2∧w'.cell? ⟨q,3,none⟩=some v3∧w'.cell? ⟨q,4,none⟩=some v4∧w'.cell? ⟨q,5,none⟩=some v5∧Below W.heap.size W w'
theorem Held6.below{W wc w2:World} {q:Nat} {v0 v1 v2 v3 v4 v5:Value} (h:Held6 W q v0 v1 v2 v3 v4 v5 wc) (hb:Below wc.heap.size wc w2) (hq:q<W.heap.size):Held6 W q v0 v1 v2 v3 v4 v5 w2:=by
 obtain⟨h0,h1,h2,h3,h4,h5,h6⟩:=h;have hs:=h6.size
 have k:∀i,w2.cell? ⟨q,i,none⟩=wc.cell? ⟨q,i,none⟩:=fun i=>hb.cell (p:=⟨q,i,none⟩) (Nat.lt_of_lt_of_le hq hs)
 exact⟨(k 0).trans h0,(k 1).trans h1,(k 2).trans h2,(k 3).trans h3,(k 4).trans h4,(k 5).trans h5,h6.trans (hb.mono hs)⟩
theorem Held6.alloc{W wc:World} {q:Nat} {v0 v1 v2 v3 v4 v5:Value} {o:Obj} (h:Held6 W q v0 v1 v2 v3 v4 v5 wc) (hq:q<W.heap.size):Held6 W q v0 v1 v2 v3 v4 v5 (wc.alloc o):=h.below ((Below.refl _ _).alloc (Nat.le_refl _) o) hq
theorem conv4(a b c d:UInt8) (W:World) (q:Nat) (h0:W.cell? ⟨q,0,none⟩=some (.int .u8 (a.toNat:Int))) (h1:W.cell? ⟨q,1,none⟩=some (.int .u8 (b.toNat:Int))) (h2:W.cell? ⟨q,2,none⟩=some (.int .u8 (c.toNat:Int))) (h3:W.cell? ⟨q,3,none⟩=some (.int .u8 (d.toNat:Int))) :
  (convert 53 9 (.slice (some ⟨q,0,none⟩) 4 4)).run Tryz.prog W=.ok (.string ⟨[a,b,c,d].toArray⟩) W:=by
 refine conv_bytes (R:=fun _=>True) ⟨_,4,rfl,Nat.le_refl _,by unfold maxLen;simp,fun _=>⟨q,0,rfl,trivial,fun k x hx=>?_⟩⟩;have hk:k<4:=(List.getElem?_eq_some_iff.1 hx).1
 match k,hk with
 | 0,_=>simp at hx;subst hx;exact h0
 | 1,_=>simp at hx;subst hx;exact h1
 | 2,_=>simp at hx;subst hx;exact h2
 | 3,_=>simp at hx;subst hx;exact h3
theorem refsenc_any(p:Pc) (w:World) (hp:PcI p) (hd:p.data.length≤60000) :
  Calls Tryz.prog 34 #[PcV p] w fun e w'=>e=.returned (.tuple #[.string ⟨(encS p).toArray⟩,.int .i64 (encE p)])∧Below w.heap.size w w':=by
 have HV:=zh (fun w=>refsvalid_any p w hp);unfold PcV at HV ⊢
 cases hv:validP p with
 | false =>
  have h1:encS p=[]:=by unfold encS;rw[hv];rfl
  have h2:encE p=100:=by unfold encE;rw[hv];rfl
  rw[hv] at HV;rw[h1,h2];clear h1 h2 hv;go_enter Tryz.func34,Tryz.ntmps34;go_wp2_with fail;refine(HV.out _).mono ?_;rintro e w' ⟨rfl,hb⟩;have hb2:=below_box hb;go_wp2;go_ret2;exact⟨rfl,hb2⟩
 | true =>
  have h1:encS p=encB p:=by unfold encS;rw[hv];rfl
  have h2:encE p=0:=by unfold encE;rw[hv];rfl
  obtain⟨a0,a1,b0,b1,c0,c1,g0,g1,r0,r1,hl⟩:=validP_iff.1 hv;rw[hv] at HV;rw[h1,h2];obtain⟨a,b,c,g,r,l⟩:=p;simp only at *;obtain⟨a,rfl⟩:∃n:Nat,a=(n:Int):=⟨a.toNat,by omega⟩;obtain⟨b,rfl⟩:∃n:Nat,b=(n:Int):=⟨b.toNat,by omega⟩;obtain⟨c,rfl⟩:∃n:Nat,c=(n:Int):=⟨c.toNat,by omega⟩;obtain⟨g,rfl⟩:∃n:Nat,g=(n:Int):=⟨g.toNat,by omega⟩;obtain⟨r,rfl⟩:∃n:Nat,r=(n:Int):=⟨r.toNat,by omega⟩;have hz:=size_of l
  have hd':(⟨l.toArray⟩:ByteArray).data.toList=l:=by simp
  have HD:=zh hd';generalize (⟨l.toArray⟩:ByteArray)=s at *;have HZ:=zh (hz.trans hl);have HB1:=zh (fun w=>big_any g 5 w (by omega) (by omega));have HB2:=zh (fun w=>big_any r 5 w (by omega) (by omega))
  have ha:((UInt8.ofNat a).toNat:Int)=(a:Int):=by rw[UInt8.toNat_ofNat'];omega
  have hb:((UInt8.ofNat b).toNat:Int)=(b:Int):=by rw[UInt8.toNat_ofNat'];omega
  have hc:((UInt8.ofNat c).toNat:Int)=(c:Int):=by rw[UInt8.toNat_ofNat'];omega
  have hcv:=fun W q=>conv4 93 (UInt8.ofNat a) (UInt8.ofNat b) (UInt8.ofNat c) W q
  rw[ha,hb,hc] at hcv;have HCV:=zh hcv;clear h1 h2 hv hp hd hz hl hd' ha hb hc hcv;go_enter Tryz.func34,Tryz.ntmps34;go_wp2_with fail;refine(HV.out _).mono ?_;rintro e w1 ⟨rfl,hbv⟩;obtain⟨q,hq⟩:=zx w.heap.size;have hbw:=below_box hbv;obtain⟨hc0,hf0⟩:=bcell hbv
  have k0:w1.cell? ⟨q,0,none⟩=some (.int .i64 (a:Int)):=by rw[hq,hc0 _ _ (by simp)];simp
  have k1:w1.cell? ⟨q,1,none⟩=some (.int .i64 (b:Int)):=by rw[hq,hc0 _ _ (by simp)];simp
  have k2:w1.cell? ⟨q,2,none⟩=some (.int .i64 (c:Int)):=by rw[hq,hc0 _ _ (by simp)];simp
  have k3:w1.cell? ⟨q,3,none⟩=some (.int .i64 (g:Int)):=by rw[hq,hc0 _ _ (by simp)];simp
  have k4:w1.cell? ⟨q,4,none⟩=some (.int .i64 (r:Int)):=by rw[hq,hc0 _ _ (by simp)];simp
  have k5:w1.cell? ⟨q,5,none⟩=some (.string s):=by rw[hq,hc0 _ _ (by simp)];simp
  have hq1:q<w1.heap.size:=by have:=hbv.size;simp at this;omega
  have hS0:Held6 w1 q (.int .i64 (a:Int)) (.int .i64 (b:Int)) (.int .i64 (c:Int)) (.int .i64 (g:Int)) (.int .i64 (r:Int)) (.string s) w1.drew:=⟨k0,k1,k2,k3,k4,k5,(Below.refl _ _).drew⟩;have HS0:=zh hS0;rw[←hq];clear hc0 hf0 hbv hS0 k0 k1 k2 k3 k4 k5 hq;go_wp2_with fail;have hcv:=HCV.out
  have wa:IntKind.u8.wrap (a:Int)=(a:Int):=by rw[IntKind.wrap_u8];omega
  have wb:IntKind.u8.wrap (b:Int)=(b:Int):=by rw[IntKind.wrap_u8];omega
  have wc:IntKind.u8.wrap (c:Int)=(c:Int):=by rw[IntKind.wrap_u8];omega
  have wg:IntKind.u64.wrap (g:Int)=(g:Int):=by simp[IntKind.wrap,IntKind.bits,IntKind.signed];omega
  have wr:IntKind.u64.wrap (r:Int)=(r:Int):=by simp[IntKind.wrap,IntKind.bits,IntKind.signed];omega
  have l1:=beTo_length g 5 5;have l2:=beTo_length r 5 5;have hz:=HZ.out;refine wp_region_held_drew (S:=(fun w'=>w'.cell? ⟨q,0,none⟩=some (.int .i64 (a:Int))∧w'.cell? ⟨q,1,none⟩=some (.int .i64 (b:Int))∧w'.cell? ⟨q,2,none⟩=some (.int .i64 (c:Int))∧w'.cell? ⟨q,3,none⟩=some (.int .i64 (g:Int))∧w'.cell? ⟨q,4,none⟩=some (.int .i64 (r:Int))∧w'.cell? ⟨q,5,none⟩=some (.string s)∧Below w1.heap.size w1 w')) (by kernel_rfl) HS0.out (fun hHeld=>?_);refine tkd 0 _ ?_;refine tkd 1 _ ?_;refine tkd 2 _ ?_;refine tkd 3 _ ?_;refine tkd 4 _ ?_;refine tkd 5 _ ?_;refine tkd 6 _ ?_;refine tkd 7 _ ?_;refine tkd 8 _ ?_;refine tkd 11 _ ?_;refine tkd 12 _ ?_;refine tkd 13 _ ?_;refine tkd 16 _ ?_;refine tkd 17 _ ?_;refine tkd 18 _ ?_;refine tkd 22 _ ?_;refine tkd 23 _ ?_;refine wpAnyH_ready (rs:=[9,14]) (by kernel_rfl) (by simp) ?_;refine AllReadyH.cons rfl (fun K hK=>?_) ?_
  ·go_simp;refine hK.out _ _ ?_ (fun hHeld=>?_)
   ·(first|assumption|exact HS0.out|exact Held6.alloc (by assumption) hq1|exact Held6.below (by assumption) hb2 hq1|exact Held6.below (by assumption) hb3 hq1)
   clear hK K;(try simp only[Act.put,z1,z2,z3]);refine wpAnyH_ready (rs:=[10,14]) (by kernel_rfl) (by simp) ?_;refine AllReadyH.cons rfl (fun K hK=>?_) ?_
   ·go_simp;refine hK.out _ _ ?_ (fun hHeld=>?_)
    ·(first|assumption|exact HS0.out|exact Held6.alloc (by assumption) hq1|exact Held6.below (by assumption) hb2 hq1|exact Held6.below (by assumption) hb3 hq1)
    clear hK K;(try simp only[Act.put,z1,z2,z3]);refine wpAnyH_ready (rs:=[14]) (by kernel_rfl) (by simp) ?_;refine AllReadyH.cons rfl (fun K hK=>?_) ?_
    ·go_simp
     (go_at_call_of 88 (Value.int .u64 (g:Int));refine(HB1.out _).mono ?_;rintro e w2 ⟨rfl,hb2⟩;obtain⟨hc2,hf2⟩:=bcell hb2;(try have hz2:w1.heap.size<w2.heap.size:=by have:=hb2.size;simp at this;omega))
     go_wp2_with fail;refine hK.out _ _ ?_ (fun hHeld=>?_)
     ·(first|assumption|exact HS0.out|exact Held6.alloc (by assumption) hq1|exact Held6.below (by assumption) hb2 hq1|exact Held6.below (by assumption) hb3 hq1)
     clear hK K;(try simp only[Act.put,z1,z2,z3]);refine tkd 15 _ ?_;refine wpAnyH_ready (rs:=[19]) (by kernel_rfl) (by simp) ?_;refine AllReadyH.cons rfl (fun K hK=>?_) ?_
     ·go_simp
      (go_at_call_of 88 (Value.int .u64 (r:Int));refine(HB2.out _).mono ?_;rintro e w3 ⟨rfl,hb3⟩;obtain⟨hc3,hf3⟩:=bcell hb3;(try have hz3:w1.heap.size<w3.heap.size:=by have:=hb3.size;simp at this;omega))
      go_wp2_with fail;refine hK.out _ _ ?_ (fun hHeld=>?_)
      ·(first|assumption|exact HS0.out|exact Held6.alloc (by assumption) hq1|exact Held6.below (by assumption) hb2 hq1|exact Held6.below (by assumption) hb3 hq1)
      clear hK K;(try simp only[Act.put,z1,z2,z3]);refine tkd 20 _ ?_;refine tkd 21 _ ?_;refine tkd 24 _ ?_;refine tkd 25 _ ?_;refine wpAnyH_done (by kernel_rfl) ?_ _;have hbx:Below w.heap.size w _:=hbw.trans ((by assumption:_∧_∧_∧_∧_∧_∧Below w1.heap.size w1 _).2.2.2.2.2.2.mono hbw.size);obtain⟨x,hx⟩:=zx ((⟨#[93,UInt8.ofNat a,UInt8.ofNat b,UInt8.ofNat c]⟩++⟨(beTo g 5 5).toArray⟩++⟨(beTo r 5 5).toArray⟩++⟨#[0,0]⟩++s:ByteArray))
      have hxl:x.data.toList=headB ⟨a,b,c,g,r,l⟩:=by
       rw[hx,←HD.out];simp[headB]
      have hxs:x.size≤65536:=by
       show x.data.size≤_
       rw[←Array.length_toList,hxl];have:=HZ.out
       have h2:l.length=16:=by rw[←HD.out,Array.length_toList];exact this
       simp[headB,beTo_length,h2]
      have HX:=zh hxl;rw[←hx];clear hx hxl wa wb wc wg wr l1 l2 hz hcv;have HSE:=zh (fun w=>sealed_str x w hxs);rw[HX.out] at HSE;clear hxs;go_wp2_with fail;refine(HSE.out _).mono ?_;rintro e w9 ⟨rfl,hb9⟩;have hb10:=hbx.trans (hb9.mono hbx.size);go_wp2;go_ret2;exact⟨rfl,hb10⟩
     exact AllReadyH.nil
    exact AllReadyH.nil
   refine AllReadyH.cons rfl (fun K hK=>?_) ?_
   ·go_simp
    (go_at_call_of 88 (Value.int .u64 (g:Int));refine(HB1.out _).mono ?_;rintro e w2 ⟨rfl,hb2⟩;obtain⟨hc2,hf2⟩:=bcell hb2;(try have hz2:w1.heap.size<w2.heap.size:=by have:=hb2.size;simp at this;omega))
    go_wp2_with fail;refine hK.out _ _ ?_ (fun hHeld=>?_)
    ·(first|assumption|exact HS0.out|exact Held6.alloc (by assumption) hq1|exact Held6.below (by assumption) hb2 hq1|exact Held6.below (by assumption) hb3 hq1)
    clear hK K;(try simp only[Act.put,z1,z2,z3]);refine wpAnyH_ready (rs:=[10,19]) (by kernel_rfl) (by simp) ?_;refine AllReadyH.cons rfl (fun K hK=>?_) ?_
    ·go_simp;refine hK.out _ _ ?_ (fun hHeld=>?_)
     ·(first|assumption|exact HS0.out|exact Held6.alloc (by assumption) hq1|exact Held6.below (by assumption) hb2 hq1|exact Held6.below (by assumption) hb3 hq1)
     clear hK K;(try simp only[Act.put,z1,z2,z3]);refine tkd 15 _ ?_;refine wpAnyH_ready (rs:=[19]) (by kernel_rfl) (by simp) ?_;refine AllReadyH.cons rfl (fun K hK=>?_) ?_
     ·go_simp
      (go_at_call_of 88 (Value.int .u64 (r:Int));refine(HB2.out _).mono ?_;rintro e w3 ⟨rfl,hb3⟩;obtain⟨hc3,hf3⟩:=bcell hb3;(try have hz3:w1.heap.size<w3.heap.size:=by have:=hb3.size;simp at this;omega))
      go_wp2_with fail;refine hK.out _ _ ?_ (fun hHeld=>?_)
      ·(first|assumption|exact HS0.out|exact Held6.alloc (by assumption) hq1|exact Held6.below (by assumption) hb2 hq1|exact Held6.below (by assumption) hb3 hq1)
      clear hK K;(try simp only[Act.put,z1,z2,z3]);refine tkd 20 _ ?_;refine tkd 21 _ ?_;refine tkd 24 _ ?_;refine tkd 25 _ ?_;refine wpAnyH_done (by kernel_rfl) ?_ _;have hbx:Below w.heap.size w _:=hbw.trans ((by assumption:_∧_∧_∧_∧_∧_∧Below w1.heap.size w1 _).2.2.2.2.2.2.mono hbw.size);obtain⟨x,hx⟩:=zx ((⟨#[93,UInt8.ofNat a,UInt8.ofNat b,UInt8.ofNat c]⟩++⟨(beTo g 5 5).toArray⟩++⟨(beTo r 5 5).toArray⟩++⟨#[0,0]⟩++s:ByteArray))
      have hxl:x.data.toList=headB ⟨a,b,c,g,r,l⟩:=by
       rw[hx,←HD.out];simp[headB]
      have hxs:x.size≤65536:=by
       show x.data.size≤_
       rw[←Array.length_toList,hxl];have:=HZ.out
       have h2:l.length=16:=by rw[←HD.out,Array.length_toList];exact this
       simp[headB,beTo_length,h2]
      have HX:=zh hxl;rw[←hx];clear hx hxl wa wb wc wg wr l1 l2 hz hcv;have HSE:=zh (fun w=>sealed_str x w hxs);rw[HX.out] at HSE;clear hxs;go_wp2_with fail;refine(HSE.out _).mono ?_;rintro e w9 ⟨rfl,hb9⟩;have hb10:=hbx.trans (hb9.mono hbx.size);go_wp2;go_ret2;exact⟨rfl,hb10⟩
     exact AllReadyH.nil
    refine AllReadyH.cons rfl (fun K hK=>?_) ?_
    ·go_simp
     (go_at_call_of 88 (Value.int .u64 (r:Int));refine(HB2.out _).mono ?_;rintro e w3 ⟨rfl,hb3⟩;obtain⟨hc3,hf3⟩:=bcell hb3;(try have hz3:w1.heap.size<w3.heap.size:=by have:=hb3.size;simp at this;omega))
     go_wp2_with fail;refine hK.out _ _ ?_ (fun hHeld=>?_)
     ·(first|assumption|exact HS0.out|exact Held6.alloc (by assumption) hq1|exact Held6.below (by assumption) hb2 hq1|exact Held6.below (by assumption) hb3 hq1)
     clear hK K;(try simp only[Act.put,z1,z2,z3]);refine wpAnyH_ready (rs:=[10]) (by kernel_rfl) (by simp) ?_;refine AllReadyH.cons rfl (fun K hK=>?_) ?_
     ·go_simp;refine hK.out _ _ ?_ (fun hHeld=>?_)
      ·(first|assumption|exact HS0.out|exact Held6.alloc (by assumption) hq1|exact Held6.below (by assumption) hb2 hq1|exact Held6.below (by assumption) hb3 hq1)
      clear hK K;(try simp only[Act.put,z1,z2,z3]);refine tkd 15 _ ?_;refine tkd 20 _ ?_;refine tkd 21 _ ?_;refine tkd 24 _ ?_;refine tkd 25 _ ?_;refine wpAnyH_done (by kernel_rfl) ?_ _;have hbx:Below w.heap.size w _:=hbw.trans ((by assumption:_∧_∧_∧_∧_∧_∧Below w1.heap.size w1 _).2.2.2.2.2.2.mono hbw.size);obtain⟨x,hx⟩:=zx ((⟨#[93,UInt8.ofNat a,UInt8.ofNat b,UInt8.ofNat c]⟩++⟨(beTo g 5 5).toArray⟩++⟨(beTo r 5 5).toArray⟩++⟨#[0,0]⟩++s:ByteArray))
      have hxl:x.data.toList=headB ⟨a,b,c,g,r,l⟩:=by
       rw[hx,←HD.out];simp[headB]
      have hxs:x.size≤65536:=by
       show x.data.size≤_
       rw[←Array.length_toList,hxl];have:=HZ.out
       have h2:l.length=16:=by rw[←HD.out,Array.length_toList];exact this
       simp[headB,beTo_length,h2]
      have HX:=zh hxl;rw[←hx];clear hx hxl wa wb wc wg wr l1 l2 hz hcv;have HSE:=zh (fun w=>sealed_str x w hxs);rw[HX.out] at HSE;clear hxs;go_wp2_with fail;refine(HSE.out _).mono ?_;rintro e w9 ⟨rfl,hb9⟩;have hb10:=hbx.trans (hb9.mono hbx.size);go_wp2;go_ret2;exact⟨rfl,hb10⟩
     exact AllReadyH.nil
    exact AllReadyH.nil
   exact AllReadyH.nil
  refine AllReadyH.cons rfl (fun K hK=>?_) ?_
  ·go_simp
   (go_at_call_of 88 (Value.int .u64 (g:Int));refine(HB1.out _).mono ?_;rintro e w2 ⟨rfl,hb2⟩;obtain⟨hc2,hf2⟩:=bcell hb2;(try have hz2:w1.heap.size<w2.heap.size:=by have:=hb2.size;simp at this;omega))
   go_wp2_with fail;refine hK.out _ _ ?_ (fun hHeld=>?_)
   ·(first|assumption|exact HS0.out|exact Held6.alloc (by assumption) hq1|exact Held6.below (by assumption) hb2 hq1|exact Held6.below (by assumption) hb3 hq1)
   clear hK K;(try simp only[Act.put,z1,z2,z3]);refine wpAnyH_ready (rs:=[9,19]) (by kernel_rfl) (by simp) ?_;refine AllReadyH.cons rfl (fun K hK=>?_) ?_
   ·go_simp;refine hK.out _ _ ?_ (fun hHeld=>?_)
    ·(first|assumption|exact HS0.out|exact Held6.alloc (by assumption) hq1|exact Held6.below (by assumption) hb2 hq1|exact Held6.below (by assumption) hb3 hq1)
    clear hK K;(try simp only[Act.put,z1,z2,z3]);refine wpAnyH_ready (rs:=[10,19]) (by kernel_rfl) (by simp) ?_;refine AllReadyH.cons rfl (fun K hK=>?_) ?_
    ·go_simp;refine hK.out _ _ ?_ (fun hHeld=>?_)
     ·(first|assumption|exact HS0.out|exact Held6.alloc (by assumption) hq1|exact Held6.below (by assumption) hb2 hq1|exact Held6.below (by assumption) hb3 hq1)
     clear hK K;(try simp only[Act.put,z1,z2,z3]);refine tkd 15 _ ?_;refine wpAnyH_ready (rs:=[19]) (by kernel_rfl) (by simp) ?_;refine AllReadyH.cons rfl (fun K hK=>?_) ?_
     ·go_simp
      (go_at_call_of 88 (Value.int .u64 (r:Int));refine(HB2.out _).mono ?_;rintro e w3 ⟨rfl,hb3⟩;obtain⟨hc3,hf3⟩:=bcell hb3;(try have hz3:w1.heap.size<w3.heap.size:=by have:=hb3.size;simp at this;omega))
      go_wp2_with fail;refine hK.out _ _ ?_ (fun hHeld=>?_)
      ·(first|assumption|exact HS0.out|exact Held6.alloc (by assumption) hq1|exact Held6.below (by assumption) hb2 hq1|exact Held6.below (by assumption) hb3 hq1)
      clear hK K;(try simp only[Act.put,z1,z2,z3]);refine tkd 20 _ ?_;refine tkd 21 _ ?_;refine tkd 24 _ ?_;refine tkd 25 _ ?_;refine wpAnyH_done (by kernel_rfl) ?_ _;have hbx:Below w.heap.size w _:=hbw.trans ((by assumption:_∧_∧_∧_∧_∧_∧Below w1.heap.size w1 _).2.2.2.2.2.2.mono hbw.size);obtain⟨x,hx⟩:=zx ((⟨#[93,UInt8.ofNat a,UInt8.ofNat b,UInt8.ofNat c]⟩++⟨(beTo g 5 5).toArray⟩++⟨(beTo r 5 5).toArray⟩++⟨#[0,0]⟩++s:ByteArray))
      have hxl:x.data.toList=headB ⟨a,b,c,g,r,l⟩:=by
       rw[hx,←HD.out];simp[headB]
      have hxs:x.size≤65536:=by
       show x.data.size≤_
       rw[←Array.length_toList,hxl];have:=HZ.out
       have h2:l.length=16:=by rw[←HD.out,Array.length_toList];exact this
       simp[headB,beTo_length,h2]
      have HX:=zh hxl;rw[←hx];clear hx hxl wa wb wc wg wr l1 l2 hz hcv;have HSE:=zh (fun w=>sealed_str x w hxs);rw[HX.out] at HSE;clear hxs;go_wp2_with fail;refine(HSE.out _).mono ?_;rintro e w9 ⟨rfl,hb9⟩;have hb10:=hbx.trans (hb9.mono hbx.size);go_wp2;go_ret2;exact⟨rfl,hb10⟩
     exact AllReadyH.nil
    refine AllReadyH.cons rfl (fun K hK=>?_) ?_
    ·go_simp
     (go_at_call_of 88 (Value.int .u64 (r:Int));refine(HB2.out _).mono ?_;rintro e w3 ⟨rfl,hb3⟩;obtain⟨hc3,hf3⟩:=bcell hb3;(try have hz3:w1.heap.size<w3.heap.size:=by have:=hb3.size;simp at this;omega))
     go_wp2_with fail;refine hK.out _ _ ?_ (fun hHeld=>?_)
     ·(first|assumption|exact HS0.out|exact Held6.alloc (by assumption) hq1|exact Held6.below (by assumption) hb2 hq1|exact Held6.below (by assumption) hb3 hq1)
     clear hK K;(try simp only[Act.put,z1,z2,z3]);refine wpAnyH_ready (rs:=[10]) (by kernel_rfl) (by simp) ?_;refine AllReadyH.cons rfl (fun K hK=>?_) ?_
     ·go_simp;refine hK.out _ _ ?_ (fun hHeld=>?_)
      ·(first|assumption|exact HS0.out|exact Held6.alloc (by assumption) hq1|exact Held6.below (by assumption) hb2 hq1|exact Held6.below (by assumption) hb3 hq1)
      clear hK K;(try simp only[Act.put,z1,z2,z3]);refine tkd 15 _ ?_;refine tkd 20 _ ?_;refine tkd 21 _ ?_;refine tkd 24 _ ?_;refine tkd 25 _ ?_;refine wpAnyH_done (by kernel_rfl) ?_ _;have hbx:Below w.heap.size w _:=hbw.trans ((by assumption:_∧_∧_∧_∧_∧_∧Below w1.heap.size w1 _).2.2.2.2.2.2.mono hbw.size);obtain⟨x,hx⟩:=zx ((⟨#[93,UInt8.ofNat a,UInt8.ofNat b,UInt8.ofNat c]⟩++⟨(beTo g 5 5).toArray⟩++⟨(beTo r 5 5).toArray⟩++⟨#[0,0]⟩++s:ByteArray))
      have hxl:x.data.toList=headB ⟨a,b,c,g,r,l⟩:=by
       rw[hx,←HD.out];simp[headB]
      have hxs:x.size≤65536:=by
       show x.data.size≤_
       rw[←Array.length_toList,hxl];have:=HZ.out
       have h2:l.length=16:=by rw[←HD.out,Array.length_toList];exact this
       simp[headB,beTo_length,h2]
      have HX:=zh hxl;rw[←hx];clear hx hxl wa wb wc wg wr l1 l2 hz hcv;have HSE:=zh (fun w=>sealed_str x w hxs);rw[HX.out] at HSE;clear hxs;go_wp2_with fail;refine(HSE.out _).mono ?_;rintro e w9 ⟨rfl,hb9⟩;have hb10:=hbx.trans (hb9.mono hbx.size);go_wp2;go_ret2;exact⟨rfl,hb10⟩
     exact AllReadyH.nil
    exact AllReadyH.nil
   refine AllReadyH.cons rfl (fun K hK=>?_) ?_
   ·go_simp
    (go_at_call_of 88 (Value.int .u64 (r:Int));refine(HB2.out _).mono ?_;rintro e w3 ⟨rfl,hb3⟩;obtain⟨hc3,hf3⟩:=bcell hb3;(try have hz3:w1.heap.size<w3.heap.size:=by have:=hb3.size;simp at this;omega))
    go_wp2_with fail;refine hK.out _ _ ?_ (fun hHeld=>?_)
    ·(first|assumption|exact HS0.out|exact Held6.alloc (by assumption) hq1|exact Held6.below (by assumption) hb2 hq1|exact Held6.below (by assumption) hb3 hq1)
    clear hK K;(try simp only[Act.put,z1,z2,z3]);refine wpAnyH_ready (rs:=[9]) (by kernel_rfl) (by simp) ?_;refine AllReadyH.cons rfl (fun K hK=>?_) ?_
    ·go_simp;refine hK.out _ _ ?_ (fun hHeld=>?_)
     ·(first|assumption|exact HS0.out|exact Held6.alloc (by assumption) hq1|exact Held6.below (by assumption) hb2 hq1|exact Held6.below (by assumption) hb3 hq1)
     clear hK K;(try simp only[Act.put,z1,z2,z3]);refine wpAnyH_ready (rs:=[10]) (by kernel_rfl) (by simp) ?_;refine AllReadyH.cons rfl (fun K hK=>?_) ?_
     ·go_simp;refine hK.out _ _ ?_ (fun hHeld=>?_)
      ·(first|assumption|exact HS0.out|exact Held6.alloc (by assumption) hq1|exact Held6.below (by assumption) hb2 hq1|exact Held6.below (by assumption) hb3 hq1)
      clear hK K;(try simp only[Act.put,z1,z2,z3]);refine tkd 15 _ ?_;refine tkd 20 _ ?_;refine tkd 21 _ ?_;refine tkd 24 _ ?_;refine tkd 25 _ ?_;refine wpAnyH_done (by kernel_rfl) ?_ _;have hbx:Below w.heap.size w _:=hbw.trans ((by assumption:_∧_∧_∧_∧_∧_∧Below w1.heap.size w1 _).2.2.2.2.2.2.mono hbw.size);obtain⟨x,hx⟩:=zx ((⟨#[93,UInt8.ofNat a,UInt8.ofNat b,UInt8.ofNat c]⟩++⟨(beTo g 5 5).toArray⟩++⟨(beTo r 5 5).toArray⟩++⟨#[0,0]⟩++s:ByteArray))
      have hxl:x.data.toList=headB ⟨a,b,c,g,r,l⟩:=by
       rw[hx,←HD.out];simp[headB]
      have hxs:x.size≤65536:=by
       show x.data.size≤_
       rw[←Array.length_toList,hxl];have:=HZ.out
       have h2:l.length=16:=by rw[←HD.out,Array.length_toList];exact this
       simp[headB,beTo_length,h2]
      have HX:=zh hxl;rw[←hx];clear hx hxl wa wb wc wg wr l1 l2 hz hcv;have HSE:=zh (fun w=>sealed_str x w hxs);rw[HX.out] at HSE;clear hxs;go_wp2_with fail;refine(HSE.out _).mono ?_;rintro e w9 ⟨rfl,hb9⟩;have hb10:=hbx.trans (hb9.mono hbx.size);go_wp2;go_ret2;exact⟨rfl,hb10⟩
     exact AllReadyH.nil
    exact AllReadyH.nil
   exact AllReadyH.nil
  exact AllReadyH.nil
def decP(l:List UInt8):Pc:=⟨((l.getD 1 0).toNat:Int),((l.getD 2 0).toNat:Int),((l.getD 3 0).toNat:Int),(num ((l.drop 4).take 5):Int),(num ((l.drop 9).take 5):Int),(l.drop 16).take 16⟩
def decEr(l:List UInt8):Int :=
 if l.length≠36 then 101 else if l=List.replicate 36 0 then 102 else if sealB (l.take 32)≠l then 103 else if validP (decP l)=true∧encB (decP l)=l then 0 else 104
def decPc(l:List UInt8):Pc:=if decEr l=0 then decP l else⟨0,0,0,0,0,[]⟩
theorem PcV_zero:PcV ⟨0,0,0,0,0,[]⟩=.agg #[.int .i64 0,.int .i64 0,.int .i64 0,.int .i64 0,.int .i64 0,.string ⟨#[]⟩]:=rfl
theorem decEr_len{l:List UInt8} (h:l.length≠36):decEr l=101:=by unfold decEr;rw[if_pos h]
theorem decEr_blank{l:List UInt8} (h:l.length=36) (h2:l=List.replicate 36 0):decEr l=102:=by unfold decEr;rw[if_neg (by simp[h]),if_pos h2]
theorem decEr_sum{l:List UInt8} (h:l.length=36) (h2:l≠List.replicate 36 0) (h3:sealB (l.take 32)≠l):decEr l=103:=by unfold decEr;rw[if_neg (by simp[h]),if_neg h2,if_pos h3]
theorem decEr_form{l:List UInt8} (h:l.length=36) (h2:l≠List.replicate 36 0) (h3:sealB (l.take 32)=l) (h4:¬(validP (decP l)=true∧encB (decP l)=l)):decEr l=104:=by unfold decEr;rw[if_neg (by simp[h]),if_neg h2,if_neg (by simp[h3]),if_neg h4]
theorem decEr_ok{l:List UInt8} (h:l.length=36) (h2:l≠List.replicate 36 0) (h3:sealB (l.take 32)=l) (h4:validP (decP l)=true∧encB (decP l)=l):decEr l=0:=by unfold decEr;rw[if_neg (by simp[h]),if_neg h2,if_neg (by simp[h3]),if_pos h4]
theorem decPc_bad{l:List UInt8} (h:decEr l≠0):decPc l=⟨0,0,0,0,0,[]⟩:=if_neg h
theorem decPc_ok{l:List UInt8} (h:decEr l=0):decPc l=decP l:=if_pos h
theorem decP_in(l:List UInt8) (h:l.length=36):PcI (decP l)∧(decP l).data.length=16:=by
 have h1:=num_lt ((l.drop 4).take 5);have h2:=num_lt ((l.drop 9).take 5)
 have e1:((l.drop 4).take 5).length=5:=by rw[List.length_take,List.length_drop];omega
 have e2:((l.drop 9).take 5).length=5:=by rw[List.length_take,List.length_drop];omega
 rw[e1] at h1;rw[e2] at h2
 have e3:((l.drop 16).take 16).length=16:=by rw[List.length_take,List.length_drop];omega
 have b1:=(l.getD 1 0).toNat_lt;have b2:=(l.getD 2 0).toNat_lt;have b3:=(l.getD 3 0).toNat_lt;refine⟨⟨?_,?_,?_,?_,?_,?_⟩,e3⟩
 all_goals (unfold decP;simp only)
 ·unfold I64;omega
 ·unfold I64;omega
 ·unfold I64;omega
 ·unfold I64;omega
 ·unfold I64;omega
 ·rw[e3];unfold maxLen;omega
theorem blank_any(w:World):Calls Tryz.prog 31 #[] w fun e w'=>e=.returned (.string ⟨(List.replicate 36 (0:UInt8)).toArray⟩)∧Below w.heap.size w w':=by
 have hmk:∀w:World,(Instr.makeSlice 53 (.int .i64 36) (.int .i64 36)).run Tryz.prog w=.ok (.slice (some ⟨w.heap.size,0,none⟩) 36 36) (w.alloc (.cells (Array.replicate 36 (.int .u8 0)) 5)):=mk_u8 36 (by omega);have hB:=BlkB.new w 36;have hcv:=conv_bytes ((hB.byS (c:=36) (by simp) (by unfold maxLen;simp) (R:=fun _=>True) trivial));have hb:Below w.heap.size w (w.alloc (.cells (Array.replicate 36 (.int .u8 0)) 5)):=(Below.refl _ _).alloc (Nat.le_refl _) _;rw[List.length_replicate] at hcv;have HB:=zh hb;clear hb hB;obtain⟨z,hz⟩:∃z:ByteArray,z=⟨(List.replicate 36 (0:UInt8)).toArray⟩:=⟨_,rfl⟩;obtain⟨W,hW⟩:=zx (w.alloc (.cells (Array.replicate 36 (.int .u8 0)) 5));rw[←hz,←hW] at hcv;rw[←hW] at HB;rw[←hz];have hmk1:=hmk w;rw[←hW] at hmk1;clear hz hW hmk;go_enter Tryz.func31,Tryz.ntmps31;go_wp2;go_ret;exact⟨rfl,HB.out⟩
theorem str_eq(s:ByteArray) (l:List UInt8):(s=⟨l.toArray⟩)↔s.data.toList=l:=by
 constructor
 ·intro h;rw[h]
 ·intro h;rw[←h]
theorem ext_list(s:ByteArray) (i j:Nat) (h:j≤s.size):(s.extract i j).data.toList=(s.data.toList.drop i).take (j - i):=by
 simp[ByteArray.data_extract,List.take_drop]
theorem below6{B:Nat} {a w1:World} (h:Below B a w1) {g:Nat} (hg:B≤g) (v0 v1 v2 v3 v4 v5:Value) :
  Below B a ((((((w1.setCell ⟨g,0,none⟩ v0).setCell ⟨g,1,none⟩ v1).setCell ⟨g,2,none⟩ v2).setCell ⟨g,3,none⟩ v3).setCell ⟨g,4,none⟩ v4).setCell ⟨g,5,none⟩ v5) :=
 (((((h.setCell hg _).setCell hg _).setCell hg _).setCell hg _).setCell hg _).setCell hg _
theorem seq_no{s z:ByteArray} (h:s≠z):(s.toList==z.toList)=false:=by
 rw[beq_eq_false_iff_ne];intro e;rw[ByteArray.toList_eq,ByteArray.toList_eq] at e;exact h (Go.WideShapes.bytes_inj e)
theorem lst_yes{s:ByteArray} {l:List UInt8} (h:l=s.data.toList):(l==s.toList)=true:=by rw[beq_iff_eq,ByteArray.toList_eq,h]
theorem lst_no{s:ByteArray} {l:List UInt8} (h:l≠s.data.toList):(l==s.toList)=false:=by rw[beq_eq_false_iff_ne,ByteArray.toList_eq];exact h
theorem run_bytes_str(W:World) (s:ByteArray) :
  ∃W' cap,(convert 9 53 (.string s)).run Tryz.prog W=.ok (.slice (some ⟨W.heap.size,0,none⟩) s.size cap) W'∧Below W.heap.size W W'∧W.heap.size<W'.heap.size∧s.size≤cap∧BufAt W' W.heap.size s.data.toList:=by
 have h:=run_bytes_ex (P:=Tryz.prog) W 9 53 5 s.data.toList Tryz.underlying9 Tryz.underlying53 Tryz.underlying5;have e:s.data.toList.length=s.size:=Array.length_toList;rw[Array.toArray_toList,e] at h;exact h
theorem snumber_any(s:ByteArray) (a n:Nat) (w:World) (hn:n≤7) (ha:a+n≤s.size) (hs:s.size≤65536) :
  Calls Tryz.prog 150 #[.string s,.int .i64 (a:Int),.int .i64 (n:Int)] w fun e w'=>e=.returned (.int .i64 (num ((s.data.toList.drop a).take n):Int))∧Below w.heap.size w w':=by
 have he:(s.extract a (a+n)).data.toList=(s.data.toList.drop a).take n:=by rw[ext_list s a (a+n) ha];congr 1;omega
 have hsz:(s.extract a (a+n)).size=n:=by
  show(s.extract a (a+n)).data.size=n
  rw[←Array.length_toList,he,List.length_take,List.length_drop,Array.length_toList];have:s.data.size=s.size:=rfl;omega
 obtain⟨W2,cap2,hrun,hbW2,hltW,hcap,hbuf⟩:=run_bytes_str w (s.extract a (a+n));rw[he] at hbuf;rw[hsz] at hrun hcap;obtain⟨l,hl⟩:=zx ((s.data.toList.drop a).take n)
 have hll:l.length=n:=by rw[hl,←he,Array.length_toList];exact hsz
 rw[←hl] at hbuf ⊢;have HL:=zh hll;have HB:=zh hbuf;have HBW:=zh hbW2
 have b1:(a:Int)+(n:Int)≤(s.size:Int):=by omega
 have b2:(a:Int)≤(a:Int)+(n:Int):=by omega
 have b3:((a:Int)+(n:Int)).toNat=a+n:=by omega
 obtain⟨g,hg⟩:=zx w.heap.size;rw[←hg] at HB hrun;clear he hsz hl hll hbuf hbW2 hltW hg;go_enter Tryz.func150,Tryz.ntmps150;go_wp2;go_loopg [7,9,18] n (fun z v7 v9 v18 wr=>W2=wr∧∃j:Nat,j≤n∧z=n - j∧v18=.int .i64 (j:Int)∧v7=.int .i64 (num (l.take j):Int))
 case atStart=>exact⟨rfl,0,by omega,rfl,rfl,rfl⟩
 case round =>
  obtain⟨rfl,j,hj,rfl,rfl,rfl⟩:=hrel;by_cases hlt:j<n
  ·have hjl:j<l.length:=by rw[HL.out];exact hlt
   obtain⟨hc,-⟩:=HB.out j l[j] (List.getElem?_eq_getElem hjl)
   have hsn:num (l.take (j+1))=num (l.take j) * 256+l[j].toNat:=by rw[List.take_succ_eq_append_getElem hjl,num_snoc]
   have hlt2:=num_lt (l.take j)
   have h6:(l.take j).length≤6:=by rw[List.length_take];omega
   generalize num (l.take j)=m at *
   have hm:m<36028797018963968:=by
    refine Nat.lt_of_lt_of_le hlt2 ?_
    calc 256 ^ (l.take j).length≤256 ^ 6:=Nat.pow_le_pow_right (by omega) h6
     _≤_:=by decide
   have Hsn:=zh hsn;have ho:=num_or m l[j] hm;have hcc:l[j].toNat<256:=l[j].toNat_lt;generalize l[j]=c at *;clear hsn hlt2 h6 hjl;go_wp2;go_roundg (n - (j+1))
   case measure=>omega
   case rel=>exact⟨rfl,j+1,by omega,rfl,by go_num,by rw[Hsn.out];go_num⟩
  ·have hjn:j=n:=by omega
   have HJ:=zh hjn;clear hjn;go_wp2;go_ret;exact⟨ret_int (by rw[HJ.out,List.take_of_length_le (by rw[HL.out];exact Nat.le_refl _)]),HBW.out⟩
def putP(l:List UInt8) (at_ n v j:Nat):List UInt8:=(List.range l.length).map fun p=>if at_+n - j≤p∧p<at_+n then UInt8.ofNat (v / 256 ^ (at_+n - 1 - p)) else l.getD p 0
theorem putP_length(l:List UInt8) (at_ n v j:Nat):(putP l at_ n v j).length=l.length:=by simp[putP]
theorem putP_getElem(l:List UInt8) (at_ n v j p:Nat) (h:p<(putP l at_ n v j).length):(putP l at_ n v j)[p]=if at_+n - j≤p∧p<at_+n then UInt8.ofNat (v / 256 ^ (at_+n - 1 - p)) else l.getD p 0:=by simp[putP]
theorem putP_zero(l:List UInt8) (at_ n v:Nat):putP l at_ n v 0=l:=by
 apply List.ext_getElem
 ·exact putP_length _ _ _ _ _
 ·intro p h1 h2;rw[putP_getElem,if_neg (by omega),getD_lt _ _ h2]
theorem putP_step(l:List UInt8) (at_ n v j:Nat) (hj:j<n) (hl:at_+n≤l.length):(putP l at_ n v j).set (at_+(n - 1 - j)) (UInt8.ofNat (v / 256 ^ j))=putP l at_ n v (j+1):=by
 apply List.ext_getElem
 ·rw[List.length_set,putP_length,putP_length]
 ·intro p h1 h2;simp only[List.getElem_set,putP_getElem];by_cases e:at_+(n - 1 - j)=p
  ·rw[if_pos e,if_pos (by omega)]
   have:at_+n - 1 - p=j:=by omega
   rw[this]
  ·rw[if_neg e];by_cases h:at_+n - j≤p∧p<at_+n
   ·rw[if_pos h,if_pos (by omega)]
   ·rw[if_neg h,if_neg (by omega)]
theorem beTo_getElem(v n k i:Nat) (h:i<(beTo v n k).length):(beTo v n k)[i]=UInt8.ofNat (v / 256 ^ (n - 1 - i)):=by simp[beTo]
theorem putP_all(l:List UInt8) (at_ n v:Nat) (hl:at_+n≤l.length):putP l at_ n v n=l.take at_++beTo v n n++l.drop (at_+n):=by
 apply List.ext_getElem
 ·rw[putP_length];simp only[List.length_append,List.length_take,List.length_drop,beTo_length];omega
 ·intro p h1 h2;rw[putP_length] at h1;simp only[putP_getElem,List.getElem_append,List.length_append,List.length_take,beTo_length,List.getElem_take,List.getElem_drop,beTo_getElem];rcases Nat.lt_or_ge p at_ with h | h
  ·rw[if_neg (by omega),dif_pos (by omega),dif_pos (by omega),getD_lt _ _ h1]
  ·rcases Nat.lt_or_ge p (at_+n) with h3 | h3
   ·rw[if_pos (by omega),dif_pos (by omega),dif_neg (by omega)]
    congr 3
    omega
   ·rw[if_neg (by omega),dif_neg (by omega),getD_lt _ _ h1]
    congr 1
    omega
theorem put_any(g c at_ n v:Nat) (l:List UInt8) (w:World) (hB:BlkB w g l) (hl:at_+n≤l.length) (hl2:l.length≤65536) (hv:v≤4611686018427387904) :
  Calls Tryz.prog 211 #[.slice (some ⟨g,0,none⟩) l.length c,.int .i64 (at_:Int),.int .i64 (n:Int),.int .i64 (v:Int)] w fun e w'=>e=.returned (.tuple #[])∧BlkB w' g (l.take at_++beTo v n n++l.drop (at_+n))∧w.grownBy w' (some g):=by
 have HB0:=zh hB;obtain⟨L,hL⟩:=zx l.length;rw[←hL] at hl hl2 ⊢;have HL:=zh hL;clear hB hL;go_enter Tryz.func211,Tryz.ntmps211;go_wp2;go_loopg [3,8] n (fun z v3 v8 wr=>∃j:Nat,j≤n∧z=n - j∧v8=.int .i64 ((n:Int) - 1 - (j:Int))∧v3=.int .i64 ((v / 256 ^ j:Nat):Int)∧BlkB wr g (putP l at_ n v j)∧w.grownBy wr (some g))
 case atStart=>exact⟨0,by omega,rfl,by go_num,by simp,by rw[putP_zero];exact HB0.out,only_refl2 w g⟩
 case round =>
  obtain⟨j,hj,rfl,rfl,rfl,hb,hgr⟩:=hrel;by_cases hlt:j<n
  ·obtain⟨i,hi⟩:=zx (n - 1 - j)
   have ei:(n:Int) - 1 - (j:Int)=(i:Int):=by omega
   have hd0:decide ((0:Int)≤(i:Int))=true:=by simp
   have hst:=putP_step l at_ n v j hlt (by rw[←HL.out];exact hl);have hpl:=putP_length l at_ n v j;rw[←hi] at hst;have hfr:=hb.free (at_+i);obtain⟨o,hcl⟩:∃o,wr.cell? ⟨g,at_+i,none⟩=some o:=⟨_,hb.cell (j:=at_+i) (by rw[hpl,←HL.out];omega)⟩;have hq:v / 256 ^ j≤4611686018427387904:=Nat.le_trans (Nat.div_le_self _ _) hv
   have hq2:v / 256 ^ (j+1)=v / 256 ^ j / 256:=by rw[Nat.pow_succ,Nat.div_div_eq_div_mul]
   have HST:=zh hst;have HQ2:=zh hq2;have HB:=zh hb
   have hil:at_+i<L:=by omega
   have HI:=zh hi;rw[ei];clear hi hst hpl hb hq2 ei;generalize v / 256 ^ j=u at *
   have hu8:((UInt8.ofNat u).toNat:Int)=(u:Int) % 256:=by rw[UInt8.toNat_ofNat'];omega
   have HU:=zh hu8;clear hu8;go_wp2;go_roundg (n - (j+1))
   case measure=>omega
   case rel=>exact⟨j+1,by omega,rfl,by have:=HI.out;go_num,by rw[HQ2.out];go_num,by rw[←HST.out,←HU.out];exact HB.out.set _ _,only_set2 hgr _ _⟩
  ·have hd0:decide ((0:Int)≤(n:Int) - 1 - (j:Int))=false:=by simp;omega
   have hjn:j=n:=by omega
   have HJ:=zh hjn;clear hjn;go_wp2
   go_end0
   exact⟨rfl,by rw[←putP_all l at_ n v (by rw[←HL.out];exact hl),←HJ.out];rw[HJ.out] at hb ⊢;exact hb,hgr⟩
theorem step_copy_str{ops:Array Oper} {o:Oper} {a:Act} {w:World} {K:Act→World→Prop} {Q:Exit→Act→World→Prop} {E:Prop} (hgd:o.guard=none) (d s:Operand)
  (ho:o.op=.call { callee:=.builtin .copy,args:=#[d,s],argTypes:=#[281,9] }) (g off dLen dCap:Nat) (l:List UInt8) (x:ByteArray)
  (hd:a.eval d=.slice (some ⟨g,off,none⟩) dLen dCap) (hs:a.eval s=.string x) (hB:BlkB w g l) (hle:x.size≤dLen) (hfit:off+x.size≤l.length)
  (h:∀w',BlkB w' g (l.take off++x.data.toList++l.drop (off+x.size))→w.grownBy w' (some g)→K (a.put o.dst (goInt x.size)) w') :
  if Region.wanted o (yielded ops a.tmps)=true then Oper.wp Tryz.prog o a w K Q else E:=by
 have hw:Region.wanted o (yielded ops a.tmps)=true:=by simp[Region.wanted,hgd]
 rw[if_pos hw];have hrun:=Go.Lib.run_copy_row_string (P:=Tryz.prog) w 281 9 o.type 5 g off dLen dCap x (bys l).toArray 5 Tryz.underlying281 (by kernel_rfl) hB hle (by simpa[bys] using hfit);unfold Oper.wp;simp[execOp,ho,resolve,invoke,builtin,hd,hs,hrun,Result.andThen];refine h _ ?_ ⟨rfl,rfl,rfl,by simp[World.setRow],fun k hk hne=>setRow_other w g k _ (fun e=>hne (by rw[e]))⟩;have h2:=setRow_heap w g (bys l).toArray ((bys l).toArray.toList.take off++Go.Lib.byteCells x.data.toList++(bys l).toArray.toList.drop (off+x.size)).toArray 5 (0,0) hB;unfold BlkB;rw[bys_append,bys_append]
 simpa[bys,Go.Lib.byteCells,List.map_take,List.map_drop] using h2
theorem ins{α:Type} (X Y Z N:List α) (a m:Nat) (hX:X.length=a) (hY:Y.length=m):((X++Y++Z).take a)++N++((X++Y++Z).drop (a+m))=X++N++Z:=by
 subst hX;subst hY;rw[List.append_assoc X Y Z,List.take_left,List.drop_append];simp[List.drop_eq_nil_of_le]
theorem BlkB.pre{W:World} {g c:Nat} {H Z:List UInt8} (h:BlkB W g (H++Z)) (hc:H.length≤c) (hm:H.length≤maxLen) {R:Nat→Prop} (hR:R g):ByS W R (.slice (some ⟨g,0,none⟩) H.length c) H :=
 ⟨_,c,rfl,hc,hm,fun _=>⟨g,0,rfl,hR,fun k x hk=>by
  have hj:k<H.length:=(List.getElem?_eq_some_iff.1 hk).1;have hx:H[k]=x:=(List.getElem?_eq_some_iff.1 hk).2
  rw[Nat.zero_add,h.cell (j:=k) (by rw[List.length_append];omega),List.getElem_append_left hj,hx]⟩⟩
theorem conv_buf{w:World} {R:Nat→Prop} {v:Value} {l:List UInt8} (h:ByS w R v l):(convert 281 9 v).run Tryz.prog w=.ok (.string ⟨l.toArray⟩) w :=
 h.conv Tryz.underlying281 Tryz.underlying5 Tryz.underlying9
theorem put36(g at_ n v:Nat) (l l2:List UInt8) (w:World) (hll:l.length=36) (hB:BlkB w g l) (hl:at_+n≤36) (hv:v≤4611686018427387904) (he:l.take at_++beTo v n n++l.drop (at_+n)=l2) :
  Calls Tryz.prog 211 #[.slice (some ⟨g,0,none⟩) 36 36,.int .i64 (at_:Int),.int .i64 (n:Int),.int .i64 (v:Int)] w fun e w'=>e=.returned (.tuple #[])∧BlkB w' g l2∧w.grownBy w' (some g):=by
 have h:=put_any g 36 at_ n v l w hB (by omega) (by omega) hv;rw[hll,he] at h;exact h
theorem senc_any(p:Pc) (w:World) (hp:PcI p) (hd:p.data.length≤60000) :
  Calls Tryz.prog 152 #[PcV p] w fun e w'=>e=.returned (.tuple #[.string ⟨(encS p).toArray⟩,.int .i64 (encE p)])∧Below w.heap.size w w':=by
 have HV:=zh (fun w=>svalid_any p w hp);unfold PcV at HV ⊢
 cases hv:validP p with
 | false =>
  have h1:encS p=[]:=by unfold encS;rw[hv];rfl
  have h2:encE p=100:=by unfold encE;rw[hv];rfl
  rw[hv] at HV;rw[h1,h2];clear h1 h2 hv;go_enter Tryz.func152,Tryz.ntmps152;go_wp2_with fail;refine(HV.out _).mono ?_;rintro e w' ⟨rfl,hb⟩;have hb2:=below_box hb;go_wp2;go_ret2;exact⟨rfl,hb2⟩
 | true =>
  have h1:encS p=encB p:=by unfold encS;rw[hv];rfl
  have h2:encE p=0:=by unfold encE;rw[hv];rfl
  obtain⟨a0,a1,b0,b1,c0,c1,g0,g1,r0,r1,hl⟩:=validP_iff.1 hv;rw[hv] at HV;rw[h1,h2];obtain⟨a,b,c,g,r,l⟩:=p;simp only at *;obtain⟨a,rfl⟩:∃n:Nat,a=(n:Int):=⟨a.toNat,by omega⟩;obtain⟨b,rfl⟩:∃n:Nat,b=(n:Int):=⟨b.toNat,by omega⟩;obtain⟨c,rfl⟩:∃n:Nat,c=(n:Int):=⟨c.toNat,by omega⟩;obtain⟨g,rfl⟩:∃n:Nat,g=(n:Int):=⟨g.toNat,by omega⟩;obtain⟨r,rfl⟩:∃n:Nat,r=(n:Int):=⟨r.toNat,by omega⟩;have hz:=size_of l
  have hd':(⟨l.toArray⟩:ByteArray).data.toList=l:=by simp
  have HD:=zh hd';generalize (⟨l.toArray⟩:ByteArray)=s at *;have HZ:=zh (hz.trans hl);have HLL:=zh hl
  have ha:((UInt8.ofNat a).toNat:Int)=(a:Int):=by rw[UInt8.toNat_ofNat'];omega
  have hb:((UInt8.ofNat b).toNat:Int)=(b:Int):=by rw[UInt8.toNat_ofNat'];omega
  have hc:((UInt8.ofNat c).toNat:Int)=(c:Int):=by rw[UInt8.toNat_ofNat'];omega
  have HAB:=zh (⟨ha,hb,hc⟩:_∧_∧_)
  have hmk:∀w:World,(Instr.makeSlice 281 (.int .i64 36) (.int .i64 36)).run Tryz.prog w=.ok (.slice (some ⟨w.heap.size,0,none⟩) 36 36) (w.alloc (.cells (Array.replicate 36 (.int .u8 0)) 5)):=by
   intro w;obtain⟨i0,hi0,hz0,hz1,hz2⟩:=info_parts info_u8;have h:=run_make (P:=Tryz.prog) w 281 5 i0 _ Tryz.underlying281 hi0 hz0 .i64 .i64 36 36 (by omega) (by omega) (by rw[hz2];omega) (by omega);rw[hz1] at h
   simpa[madeCells_one,Value.cells] using h
  clear h1 h2 hv hp hd hz hl hd' ha hb hc;go_enter Tryz.func152,Tryz.ntmps152;go_wp2_with fail;refine(HV.out _).mono ?_;rintro e w1 ⟨rfl,hbv⟩;obtain⟨q,hq⟩:=zx w.heap.size;have hbw:=below_box hbv;obtain⟨hc0,hf0⟩:=bcell hbv
  have k0:w1.cell? ⟨q,0,none⟩=some (.int .i64 (a:Int)):=by rw[hq,hc0 _ _ (by simp)];simp
  have k1:w1.cell? ⟨q,1,none⟩=some (.int .i64 (b:Int)):=by rw[hq,hc0 _ _ (by simp)];simp
  have k2:w1.cell? ⟨q,2,none⟩=some (.int .i64 (c:Int)):=by rw[hq,hc0 _ _ (by simp)];simp
  have k3:w1.cell? ⟨q,3,none⟩=some (.int .i64 (g:Int)):=by rw[hq,hc0 _ _ (by simp)];simp
  have k4:w1.cell? ⟨q,4,none⟩=some (.int .i64 (r:Int)):=by rw[hq,hc0 _ _ (by simp)];simp
  have k5:w1.cell? ⟨q,5,none⟩=some (.string s):=by rw[hq,hc0 _ _ (by simp)];simp
  have hq1:q<w1.heap.size:=by have:=hbv.size;simp at this;omega
  have hwa:IntKind.u8.wrap (a:Int)=(a:Int):=by rw[IntKind.wrap_u8];omega
  have hwb:IntKind.u8.wrap (b:Int)=(b:Int):=by rw[IntKind.wrap_u8];omega
  have hwc:IntKind.u8.wrap (c:Int)=(c:Int):=by rw[IntKind.wrap_u8];omega
  rw[←hq];clear hc0 hf0 hbv hq;go_upto_region 4 with fail;obtain⟨W2,hW2⟩:=zx (w1.alloc (.cells (Array.replicate 36 (.int .u8 0)) 5));obtain⟨gb,hgb⟩:=zx w1.heap.size
  have hB0:BlkB W2 gb (List.replicate 36 0):=by rw[hW2,hgb];exact BlkB.new w1 36
  have hb12:Below w1.heap.size w1 W2:=by rw[hW2];exact(Below.refl _ _).alloc (Nat.le_refl _) _
  have m0:=(hb12.cell (p:=⟨q,0,none⟩) hq1).trans k0;have m1:=(hb12.cell (p:=⟨q,1,none⟩) hq1).trans k1;have m2:=(hb12.cell (p:=⟨q,2,none⟩) hq1).trans k2;have m3:=(hb12.cell (p:=⟨q,3,none⟩) hq1).trans k3;have m4:=(hb12.cell (p:=⟨q,4,none⟩) hq1).trans k4;have m5:=(hb12.cell (p:=⟨q,5,none⟩) hq1).trans k5;have n0:=hB0.cell (j:=0) (by simp);have n1:=hB0.cell (j:=1) (by simp);have n2:=hB0.cell (j:=2) (by simp);have n3:=hB0.cell (j:=3) (by simp);have f0:=hB0.free 0;have f1:=hB0.free 1;have f2:=hB0.free 2;have f3:=hB0.free 3
  have hqg:q≠gb:=by omega
  have hqg2:gb≠q:=by omega
  simp only[List.getElem_replicate] at n0 n1 n2 n3;rw[←hW2,←hgb];have HB0:=zh hB0;have HB12:=zh hb12;have HGB:=zh hgb;clear k0 k1 k2 k3 k4 k5 hW2 hB0 hb12 hmk hgb
  go_region
  obtain⟨W3,hW3⟩:=zx (((((W2.setCell ⟨gb,0,none⟩ (.int .u8 93)).setCell ⟨gb,1,none⟩ (.int .u8 (a:Int))).setCell ⟨gb,2,none⟩ (.int .u8 (b:Int))).setCell ⟨gb,3,none⟩ (.int .u8 (c:Int))).drew);obtain⟨A4,hA4⟩:=zx ([93,UInt8.ofNat a,UInt8.ofNat b,UInt8.ofNat c])
  have hAl:A4.length=4:=by rw[hA4];rfl
  obtain⟨G5,hG5⟩:=zx (beTo g 5 5);obtain⟨V5,hV5⟩:=zx (beTo r 5 5)
  have hGl:G5.length=5:=by rw[hG5];exact beTo_length _ _ _
  have hVl:V5.length=5:=by rw[hV5];exact beTo_length _ _ _
  have hB3:BlkB W3 gb (A4++List.replicate 5 0++List.replicate 27 0):=by
   have h:=((((HB0.out.set 0 93).set 1 (UInt8.ofNat a)).set 2 (UInt8.ofNat b)).set 3 (UInt8.ofNat c)).drewN 1;rw[HAB.out.1,HAB.out.2.1,HAB.out.2.2] at h
   have e:((((List.replicate 36 (0:UInt8)).set 0 93).set 1 (UInt8.ofNat a)).set 2 (UInt8.ofNat b)).set 3 (UInt8.ofNat c)=A4++List.replicate 5 0++List.replicate 27 0:=by rw[hA4];rfl
   rw[e] at h;rw[hW3];exact h
  have hb13:Below w1.heap.size w1 W3:=by
   have h:=HB12.out;have hg:=HGB.out;rw[hW3];exact((((h.setCell (by simp;omega) _).setCell (by simp;omega) _).setCell (by simp;omega) _).setCell (by simp;omega) _).drew
  have hq2:q<W3.heap.size:=Nat.lt_of_lt_of_le hq1 hb13.size
  have hg23:W2.grownBy W3 (some gb):=by
   rw[hW3];exact only_drew2 (only_set2 (only_set2 (only_set2 (only_set2 (only_refl2 W2 gb) 0 _) 1 _) 2 _) 3 _) 1
  have kq3:∀i,W3.cell? ⟨q,i,none⟩=W2.cell? ⟨q,i,none⟩:=fun i=>World.cell?_of_block (w:=W2) (a:=⟨q,i,none⟩) (hg23.block q (Nat.lt_of_lt_of_le hq1 HB12.out.size) (fun e=>by injection e with e;exact hqg e))
  have p3:=(kq3 3).trans m3;have p4:=(kq3 4).trans m4;have p5:=(kq3 5).trans m5;clear kq3 hg23;rw[←hW3];have HP1:=zh (put36 gb 4 5 g _ (A4++G5++List.replicate 27 0) W3 (by simp[hAl]) hB3 (by omega) (by omega) (by rw[hG5];exact ins A4 (List.replicate 5 0) (List.replicate 27 0) _ 4 5 hAl (by simp)));have HX:=zh (⟨hA4,hG5,hV5,hAl,hGl,hVl⟩:_∧_∧_∧_∧_∧_);have HB13:=zh hb13;clear hA4 hG5 hV5 hAl hGl hVl hB3 hb13 hW3 m0 m1 m2 m3 m4 m5 n0 n1 n2 n3 f0 f1 f2 f3 hwa hwb hwc;go_wp2_with fail;refine HP1.out.mono ?_;rintro e W4 ⟨rfl,hB4,hg4⟩
  have kq4:∀i,W4.cell? ⟨q,i,none⟩=W3.cell? ⟨q,i,none⟩:=fun i=>World.cell?_of_block (w:=W3) (a:=⟨q,i,none⟩) (hg4.block q hq2 (fun e=>by injection e with e;exact hqg e))
  have q4:=(kq4 4).trans p4;have q5:=(kq4 5).trans p5;have hq3:=Nat.lt_of_lt_of_le hq2 hg4.size
  have e4:A4++G5++List.replicate 27 0=(A4++G5)++List.replicate 5 0++List.replicate 22 0:=by simp[List.append_assoc,List.replicate_append_replicate]
  rw[e4] at hB4;have HP2:=zh (put36 gb 9 5 r _ ((A4++G5)++V5++List.replicate 22 0) W4 (by simp[HX.out.2.2.2.1,HX.out.2.2.2.2.1]) hB4 (by omega) (by omega) (by rw[HX.out.2.2.1];exact ins (A4++G5) (List.replicate 5 0) (List.replicate 22 0) _ 9 5 (by simp[HX.out.2.2.2.1,HX.out.2.2.2.2.1]) (by simp)));have HG4:=zh hg4;clear kq4 p3 p4 p5 e4 hB4 hg4;go_wp2_with fail;refine HP2.out.mono ?_;rintro e W5 ⟨rfl,hB5,hg5⟩
  have kq5:∀i,W5.cell? ⟨q,i,none⟩=W4.cell? ⟨q,i,none⟩:=fun i=>World.cell?_of_block (w:=W4) (a:=⟨q,i,none⟩) (hg5.block q hq3 (fun e=>by injection e with e;exact hqg e))
  have r5:=(kq5 5).trans q5
  have e5:(A4++G5)++V5++List.replicate 22 0=((A4++G5)++V5++List.replicate 2 0)++List.replicate 16 0++List.replicate 4 0:=by simp[List.append_assoc,List.replicate_append_replicate]
  rw[e5] at hB5;have hg35:=grown_trans HG4.out hg5;have HB5:=zh hB5;have HG35:=zh hg35;have hBd:BlkB W5.drew gb ((A4++G5++V5++List.replicate 2 0)++List.replicate 16 0++List.replicate 4 0):=hB5;have HBD:=zh hBd
  have hlen5:((A4++G5++V5++List.replicate 2 0)++List.replicate 16 0++List.replicate 4 0:List UInt8).length=36:=by simp[HX.out.2.2.2.1,HX.out.2.2.2.2.1,HX.out.2.2.2.2.2]
  have HL5:=zh hlen5;clear kq5 q4 q5 e5 hB5 hg5 hg35 hBd hlen5;go_upto_region 7 with fail;have hsz:=HZ.out
  have h20:s.size≤20:=by omega
  have hf36:16+s.size≤((A4++G5++V5++List.replicate 2 0)++List.replicate 16 0++List.replicate 4 0:List UInt8).length:=by rw[HL5.out];omega
  clear hsz
  go_region_law (refine step_copy_str rfl (.tmp 35) (.tmp 37) rfl gb 16 20 20 _ s (by rfl) (by rfl) HBD.out h20 hf36 ?_;intro w6 hB6 hg6)
  obtain⟨H,hH⟩:=zx (headB ⟨(a:Int),(b:Int),(c:Int),(g:Int),(r:Int),l⟩)
  have hH2:H=(A4++G5++V5++List.replicate 2 0)++l:=by
   rw[hH,HX.out.1,HX.out.2.1,HX.out.2.2.1];simp[headB,List.replicate]
  have hHl:H.length=32:=by
   rw[hH2];simp[HX.out.2.2.2.1,HX.out.2.2.2.2.1,HX.out.2.2.2.2.2,HLL.out]
  have hB6':BlkB w6 gb (H++List.replicate 4 0):=by
   have h:=hB6;rw[HD.out,HZ.out,ins (A4++G5++V5++List.replicate 2 0) (List.replicate 16 0) (List.replicate 4 0) l 16 16 (by simp[HX.out.2.2.2.1,HX.out.2.2.2.2.1,HX.out.2.2.2.2.2]) (by simp),←hH2] at h;exact h
  have hcv1:=conv_buf (hB6'.pre (c:=36) (by omega) (by unfold maxLen;omega) (R:=fun _=>True) trivial);rw[hHl] at hcv1;obtain⟨cs,hcs⟩:=zx (crc H)
  have hclt:cs<4294967296:=by rw[hcs];exact crc_lt H
  have hsumH:=fun w=>sum_any ⟨H.toArray⟩ w (by rw[size_of,hHl];unfold maxLen;omega)
  have hdH:(⟨H.toArray⟩:ByteArray).data.toList=H:=by simp
  rw[hdH,←hcs] at hsumH;have HSUM:=zh hsumH
  have hws:IntKind.i64.wrap (cs:Int)=(cs:Int):=by rw[IntKind.wrap_i64];omega
  have hfin:(H++List.replicate 4 0).take 32++beTo cs 4 4++(H++List.replicate 4 0).drop (32+4)=sealB H:=by
   have h:=ins H (List.replicate 4 0) [] (beTo cs 4 4) 32 4 hHl (by simp);rw[List.append_nil,List.append_nil] at h;rw[h,hcs];rfl
  have HP3:=zh (put36 gb 32 4 cs _ (sealB H) w6 (by simp[hHl]) hB6' (by omega) (by omega) hfin);have HH:=zh hH;have HHL:=zh hHl;have HG36:=zh (grown_trans HG35.out (show W5.grownBy w6 (some gb) from⟨hg6.os,hg6.tape,hg6.output,hg6.size,hg6.block⟩));obtain⟨Hs,hHs⟩:∃Hs:ByteArray,Hs=⟨H.toArray⟩:=⟨_,rfl⟩;rw[←hHs] at hcv1 HSUM;clear hB6 hg6 hH hH2 hHl hB6' hsumH hdH hfin hcs hHs h20 hf36 r5;go_wp2_with fail;refine(HSUM.out _).mono ?_;rintro e w' ⟨rfl,rfl⟩;go_wp2_with fail;refine HP3.out.mono ?_;rintro e W7 ⟨rfl,hB7,hg7⟩
  have hsl:(sealB H).length=36:=by simp[sealB,beTo_length,HHL.out]
  have hcv2:=conv_buf (hB7.byS (c:=36) (by omega) (by unfold maxLen;omega) (R:=fun _=>True) trivial);rw[hsl] at hcv2
  have hfb:Below w.heap.size w W7:=by
   have h1:=hbw.trans (HB13.out.mono hbw.size);refine h1.grown (grown_trans HG36.out hg7) h1.size (fun k hk=>?_);injection hk with hk;have:=HGB.out;have:=hbw.size;omega
  clear hB7 hg7 hsl hcv1;go_wp2;go_ret2;refine⟨?_,hfb⟩;unfold encB;rw[←HH.out]
  rfl
end Go.Proofs.YtcfkllnpkmebpaaGreatDoor
