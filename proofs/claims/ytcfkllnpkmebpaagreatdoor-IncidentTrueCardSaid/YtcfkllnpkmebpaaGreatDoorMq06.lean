/- The program's sector.Decode, walked. -/
import Derived.Test.YtcfkllnpkmebpaaGreatDoorMq05
import Derived.Test.YtcfkllnpkmebpaaGreatDoorMq01
set_option maxRecDepth 100000
set_option maxHeartbeats 12800000
namespace Go.Proofs.YtcfkllnpkmebpaaGreatDoor
open Go.RowKit
set_option linter.unusedVariables false
set_option linter.unusedSimpArgs false
theorem num4(a b c d:UInt8):num [a,b,c,d]=((a.toNat * 256+b.toNat) * 256+c.toNat) * 256+d.toNat:=by simp[num]
theorem beTo4(n:Nat):beTo n 4 4=[UInt8.ofNat (n / 16777216),UInt8.ofNat (n / 65536),UInt8.ofNat (n / 256),UInt8.ofNat n]:=by
 simp[beTo,List.range_succ]
theorem len4{x:List UInt8} (h:x.length=4):∃a b c d,x=[a,b,c,d]:=by
 match x,h with
 | [a,b,c,d],_=>exact⟨a,b,c,d,rfl⟩
theorem beTo_num4{x:List UInt8} (h:x.length=4):beTo (num x) 4 4=x:=by
 obtain⟨a,b,c,d,rfl⟩:=len4 h;have ha:=a.toNat_lt;have hb:=b.toNat_lt;have hc:=c.toNat_lt;have hd:=d.toNat_lt;rw[num4,beTo4]
 have key:∀(n:Nat) (u:UInt8),n % 256=u.toNat→UInt8.ofNat n=u:=fun n u h=>by
  apply UInt8.toNat_inj.1;rw[UInt8.toNat_ofNat'];exact h
 rw[key _ a (by omega),key _ b (by omega),key _ c (by omega),key _ d (by omega)]
theorem num_beTo4{n:Nat} (h:n<4294967296):num (beTo n 4 4)=n:=by
 rw[beTo4,num4];simp only[UInt8.toNat_ofNat'];omega
theorem seal_iff{l:List UInt8} (h:l.length=36):sealB (l.take 32)=l↔num ((l.drop 32).take 4)=crc (l.take 32):=by
 have hd:(l.drop 32).length=4:=by rw[List.length_drop];omega
 have ht:(l.drop 32).take 4=l.drop 32:=List.take_of_length_le (by omega);rw[ht];unfold sealB
 constructor
 ·intro e
  have e2:beTo (crc (l.take 32)) 4 4=l.drop 32:=by
   have h1:l.take 32++beTo (crc (l.take 32)) 4 4=l.take 32++l.drop 32:=by rw[List.take_append_drop];exact e
   exact List.append_cancel_left h1
  rw[←e2,num_beTo4 (crc_lt _)]
 ·intro e;rw[←e,beTo_num4 hd,List.take_append_drop]
def zeroB(l:List UInt8) (j:Nat):Bool:=(l.take j).all (·==0)
theorem zeroB_succ{l:List UInt8} {j:Nat} (h:j<l.length):zeroB l (j+1)=(zeroB l j&&(l[j]==0)):=by
 unfold zeroB;rw[List.take_succ_eq_append_getElem h,List.all_append];simp
theorem zeroB_all{l:List UInt8} (h:l.length=36):zeroB l 36=true↔l=List.replicate 36 0:=by
 unfold zeroB;rw[List.take_of_length_le (by omega),List.all_eq_true]
 constructor
 ·intro e;exact List.eq_replicate_iff.2 ⟨h,fun x hx=>by simpa using e x hx⟩
 ·intro e x hx;have:=(List.eq_replicate_iff.1 e).2 x hx;simp[this]
theorem u8z(c:UInt8):((c.toNat:Int)==0)=(c==0):=by
 by_cases h:c=0
 ·subst h;rfl
 ·have h2:c.toNat≠0:=fun e=>h (UInt8.toNat_inj.1 e)
  have e1:(c==0)=false:=by simpa using h
  have e2:((c.toNat:Int)==0)=false:=by rw[beq_eq_false_iff_ne];omega
  rw[e1,e2]
theorem set6_row{W:World} {X:Nat} {t:TypeId} {o0 o1 o2 o3 o4 o5 v0 v1 v2 v3 v4 v5:Value} (h:W.heap[X]?=some (.cells #[o0,o1,o2,o3,o4,o5] t (0,0))) :
  ((((((W.setCell ⟨X,0,none⟩ v0).setCell ⟨X,1,none⟩ v1).setCell ⟨X,2,none⟩ v2).setCell ⟨X,3,none⟩ v3).setCell ⟨X,4,none⟩ v4).setCell ⟨X,5,none⟩ v5).heap[X]?=some (.cells #[v0,v1,v2,v3,v4,v5] t (0,0)):=by
 have h1:=heap_setCell_same W X 0 _ t v0 h;have h2:=heap_setCell_same _ X 1 _ t v1 h1;have h3:=heap_setCell_same _ X 2 _ t v2 h2;have h4:=heap_setCell_same _ X 3 _ t v3 h3;have h5:=heap_setCell_same _ X 4 _ t v4 h4;have h6:=heap_setCell_same _ X 5 _ t v5 h5
 simpa using h6
theorem cells6{W:World} {X:Nat} {t:TypeId} {v0 v1 v2 v3 v4 v5:Value} (h:W.heap[X]?=some (.cells #[v0,v1,v2,v3,v4,v5] t (0,0))) :
  W.cell? ⟨X,0,none⟩=some v0∧W.cell? ⟨X,1,none⟩=some v1∧W.cell? ⟨X,2,none⟩=some v2∧W.cell? ⟨X,3,none⟩=some v3∧W.cell? ⟨X,4,none⟩=some v4∧W.cell? ⟨X,5,none⟩=some v5∧X<W.heap.size:=by
 have e:=fun i=>cell_of_row W X i _ _ _ h
 refine⟨by simpa using e 0,by simpa using e 1,by simpa using e 2,by simpa using e 3,by simpa using e 4,by simpa using e 5,?_⟩;exact block_lt_of_cell (e 0)
theorem nameC{P:Program} {f:FuncId} {args:Array Value} {w:World} {Q:Ending→World→Prop} (h:∀W,W=w→Calls P f args W Q):Calls P f args w Q:=h w rfl
theorem below_drewL{w w2:World} (h:Below w.drew.heap.size w.drew w2):Below w.heap.size w w2:=⟨h.os,h.tape,h.output,h.size,h.block⟩
theorem sdec_any(s:ByteArray) (w:World) (hs:s.size≤maxLen) :
  Calls Tryz.prog 113 #[.string s] w fun e w'=>e=.returned (.tuple #[PcV (decPc s.data.toList),.int .i64 (decEr s.data.toList)])∧Below w.heap.size w w':=by
 unfold maxLen at hs;have hsl:s.data.toList.length=s.size:=Array.length_toList;obtain⟨W1,hW1⟩:=zx (w.alloc (.cells #[.int .i64 0,.int .i64 0,.int .i64 0,.int .i64 0,.int .i64 0,.string ⟨#[]⟩] 94));obtain⟨q,hq⟩:=zx w.heap.size
 have hbx:Below w.heap.size w W1:=by rw[hW1];exact(Below.refl _ _).alloc (Nat.le_refl _) _
 have c0:W1.cell? ⟨q,0,none⟩=some (.int .i64 0):=by rw[hW1,hq];simp
 have c1:W1.cell? ⟨q,1,none⟩=some (.int .i64 0):=by rw[hW1,hq];simp
 have c2:W1.cell? ⟨q,2,none⟩=some (.int .i64 0):=by rw[hW1,hq];simp
 have c3:W1.cell? ⟨q,3,none⟩=some (.int .i64 0):=by rw[hW1,hq];simp
 have c4:W1.cell? ⟨q,4,none⟩=some (.int .i64 0):=by rw[hW1,hq];simp
 have c5:W1.cell? ⟨q,5,none⟩=some (.string ⟨#[]⟩):=by rw[hW1,hq];simp
 have fz:∀i,W1.frozen? ⟨q,i,none⟩=false:=fun i=>by rw[hW1,hq];simp
 have hqW:q<W1.heap.size:=by rw[hW1,hq];simp
 have HQ:=zh hq;have HBX:=zh hbx;have HSL:=zh hsl;by_cases h36:s.size=36
 ·have hq36:((s.size:Int) != 36)=false:=by rw[h36];rfl
  have H36:=zh h36
  have hlt36:∀j:Nat,j<36→j<s.size:=fun j h=>by omega
  have hi36:(s.size:Int)=36:=by omega
  have HW1:=zh hW1;have HI:=zh hi36;clear h36 hsl hW1 hbx hi36;go_enter Tryz.func113,Tryz.ntmps113;go_wp2_with fail;rw[←HW1.out,←HQ.out];clear hq;go_loopg [4,5,15] 36 (fun z v4 v5 v15 wr=>W1=wr∧∃j:Nat,j≤36∧z=36 - j∧v15=.int .i64 (j:Int)∧v4=.bool (zeroB s.data.toList j))
  case atStart=>exact⟨rfl,0,by omega,rfl,rfl,rfl⟩
  case round =>
   obtain⟨rfl,j,hj,rfl,rfl,rfl⟩:=hrel;by_cases hlt:j<36
   ·-- W1{
    have hjs:j<s.size:=hlt36 j hlt;have hzs:=zeroB_succ (l:=s.data.toList) (j:=j) (by rw[HSL.out];exact hjs);have hge:s.data.toList[j]'(by rw[HSL.out];exact hjs)=s[j]:=rfl;rw[hge] at hzs;have HZS:=zh hzs
    have j0:(0:Int)≤(j:Int):=by omega
    have j1:(j:Int)<(s.size:Int):=by omega
    clear hzs hge;generalize zeroB s.data.toList j=zb at *
    cases zb with
    | false =>
     go_wp2_with fail;go_roundg (36 - (j+1))
     case measure=>omega
     case rel=>exact⟨rfl,j+1,by omega,rfl,by go_num,by rw[HZS.out];rfl⟩
    | true =>
     go_wp2_with fail;go_roundg (36 - (j+1))
     case measure=>omega
     case rel=>exact⟨rfl,j+1,by omega,rfl,by go_num,by rw[HZS.out,u8z];rfl⟩
   ·have hj36:j=36:=by omega
    have hzi:zeroB s.data.toList j=true↔s.data.toList=List.replicate 36 0:=by rw[hj36];exact zeroB_all (by rw[HSL.out];exact H36.out)
    have hjs:¬(j:Int)<(s.size:Int):=by have:=HI.out;omega
    generalize zeroB s.data.toList j=zb at *
    cases zb with
    | true =>
     have hE:=decEr_blank (l:=s.data.toList) (by rw[HSL.out];exact H36.out) (hzi.1 rfl);have hP:=decPc_bad (l:=s.data.toList) (by rw[hE];decide);have HE:=zh hE;have HP:=zh hP;clear hE hP hzi hj36;go_wp2_with fail;exact bodyPost_ret (v:=.tuple #[.agg #[.int .i64 0,.int .i64 0,.int .i64 0,.int .i64 0,.int .i64 0,.string ⟨#[]⟩],.int .i64 102]) (by simp[results,Tryz.results113,go_sem,c0,c1,c2,c3,c4,c5]) rfl ⟨by rw[HE.out,HP.out,PcV_zero],below6 HBX.out (by rw[HQ.out];exact Nat.le_refl _) _ _ _ _ _ _⟩
    | false =>
     have hbl2:s.data.toList≠List.replicate 36 0:=fun h=>by have:=hzi.2 h;cases this
     have HBL:=zh hbl2
     have h32:(32:Int)≤(s.size:Int):=by have:=HI.out;omega
     have he:(s.extract 0 32).data.toList=s.data.toList.take 32:=by rw[ext_list s 0 32 (by have:=H36.out;omega)];simp
     have hes:(s.extract 0 32).size≤maxLen:=by
      show(s.extract 0 32).data.size≤_
      rw[←Array.length_toList,he,List.length_take];unfold maxLen;omega
     have HSUM:=zh (fun w=>sum_any (s.extract 0 32) w hes);rw[he] at HSUM
     have HN0:Hid (∀w:World,Calls Tryz.prog 150 #[.string s,.int .i64 32,.int .i64 4] w fun e w'=>e=.returned (.int .i64 (num ((s.data.toList.drop 32).take 4):Int))∧Below w.heap.size w w'):=fun w=>snumber_any s 32 4 w (by omega) (by have:=H36.out;omega) (by have:=H36.out;omega)
     have HSI:=zh (seal_iff (l:=s.data.toList) (by rw[HSL.out];exact H36.out));have hclt:=crc_lt (s.data.toList.take 32)
     have hws:IntKind.i64.wrap (crc (s.data.toList.take 32):Int)=(crc (s.data.toList.take 32):Int):=by rw[IntKind.wrap_i64];omega
     clear hzi hj36 hbl2 he hes;go_upto_region 11 with fail;by_cases hsum:sealB (s.data.toList.take 32)=s.data.toList
     ·have q3:((num ((s.data.toList.drop 32).take 4):Int) != (crc (s.data.toList.take 32):Int))=false:=by
       rw[HSI.out.1 hsum];simp
      have HSU:=zh hsum;obtain⟨n1,hn1⟩:=zx (num ((s.data.toList.drop 32).take 4));obtain⟨cc,hcc⟩:=zx (crc (s.data.toList.take 32));rw[←hn1,←hcc] at q3;rw[←hcc] at hws HSUM hclt;rw[←hn1] at HN0;clear hsum hn1 hcc
      go_region_held3 (fun _=>True) (trivial)
       (first
        | (go_at_call 150;refine(HN0.out _).mono ?_;rintro e W2 ⟨rfl,hb2⟩)
        | (go_at_call 151;refine(HSUM.out _).mono ?_;rintro e w' ⟨rfl,rfl⟩))
      obtain⟨hc2,hf2⟩:=bcell hb2;have hqd:q<W1.drew.heap.size:=hqW;have d0:W2.cell? ⟨q,0,none⟩=some (.int .i64 0):=(hc2 q 0 hqd).trans c0;have d1:W2.cell? ⟨q,1,none⟩=some (.int .i64 0):=(hc2 q 1 hqd).trans c1;have d2:W2.cell? ⟨q,2,none⟩=some (.int .i64 0):=(hc2 q 2 hqd).trans c2;have d3:W2.cell? ⟨q,3,none⟩=some (.int .i64 0):=(hc2 q 3 hqd).trans c3;have d4:W2.cell? ⟨q,4,none⟩=some (.int .i64 0):=(hc2 q 4 hqd).trans c4;have d5:W2.cell? ⟨q,5,none⟩=some (.string ⟨#[]⟩):=(hc2 q 5 hqd).trans c5
      have df:∀i,W2.frozen? ⟨q,i,none⟩=false:=fun i=>(hf2 q i hqd).trans (fz i)
      have hbz:=HBX.out.drew.trans (hb2.mono HBX.out.size)
      have hqW2:q<W2.heap.size:=by have:=hb2.size;simp at this;omega
      have hqne:q≠W2.heap.size:=by omega
      clear hc2 hf2 hb2 hqd c0 c1 c2 c3 c4 c5 fz hws hclt q3;have hsz:=H36.out
      have HN1:Hid (∀w:World,Calls Tryz.prog 150 #[.string s,.int .i64 4,.int .i64 5] w fun e w'=>e=.returned (.int .i64 (num ((s.data.toList.drop 4).take 5):Int))∧Below w.heap.size w w'):=fun w=>snumber_any s 4 5 w (by omega) (by omega) (by omega)
      have HN2:Hid (∀w:World,Calls Tryz.prog 150 #[.string s,.int .i64 9,.int .i64 5] w fun e w'=>e=.returned (.int .i64 (num ((s.data.toList.drop 9).take 5):Int))∧Below w.heap.size w w'):=fun w=>snumber_any s 9 5 w (by omega) (by omega) (by omega)
      have hn3:(s.extract 16 32).data.toList=(s.data.toList.drop 16).take 16:=ext_list s 16 32 (by omega);have hpi:=decP_in s.data.toList (by rw[HSL.out,hsz])
      have j1:1<s.size:=by omega
      have j2:2<s.size:=by omega
      have j3:3<s.size:=by omega
      have hpv:Value.agg #[.int .i64 ((s[1]'j1).toNat:Int),.int .i64 ((s[2]'j2).toNat:Int),.int .i64 ((s[3]'j3).toNat:Int),.int .i64 (num ((s.data.toList.drop 4).take 5):Int),.int .i64 (num ((s.data.toList.drop 9).take 5):Int),.string (s.extract 16 32)]=PcV (decP s.data.toList):=by
       have g:∀k (h:k<s.size),s[k]=s.data.toList.getD k 0:=fun k h=>by
        rw[getD_lt _ _ (by rw[HSL.out];exact h)];rfl
       unfold PcV decP;simp only;rw[g 1,g 2,g 3,←hn3,←(str_eq (s.extract 16 32) _).2 rfl]
      have HPV:=zh hpv;have HENC:=zh (fun w=>senc_any (decP s.data.toList) w hpi.1 (by rw[hpi.2];omega));rw[←hpv] at HENC;obtain⟨es,hes1⟩:=zx (encS (decP s.data.toList));obtain⟨ee,hee1⟩:=zx (encE (decP s.data.toList));rw[←hes1,←hee1] at HENC;have HES:=zh hes1;have HEE:=zh hee1
      have u1:∀c:UInt8,IntKind.i64.wrap (c.toNat:Int)=(c.toNat:Int):=fun c=>by have:=c.toNat_lt;rw[IntKind.wrap_i64];omega
      have i1:(1:Int)<(s.size:Int):=by omega
      have i2:(2:Int)<(s.size:Int):=by omega
      have i3:(3:Int)<(s.size:Int):=by omega
      clear hn3 hpi hpv hes1 hee1 hsz;go_upto_region 13 with fail;refine wp_region_held_drew (S:=(fun _=>True)) (by kernel_rfl) trivial (fun hHeld=>?_);refine tkd 0 _ ?_;refine tkd 1 _ ?_;refine tkd 2 _ ?_;refine tkd 3 _ ?_;refine tkd 4 _ ?_;refine tkd 5 _ ?_;refine tkd 6 _ ?_;refine tkd 7 _ ?_;refine tkd 8 _ ?_;refine tkd 9 _ ?_;refine tkd 11 _ ?_;refine tkd 13 _ ?_;refine tkd 14 _ ?_;refine wpAnyH_ready (rs:=[10,16]) (by kernel_rfl) (by simp) ?_;refine AllReadyH.cons rfl (fun K hK=>?_) ?_
      ·go_simp
       (go_at_call_of 150 (Value.int .i64 4);refine(HN1.out _).mono ?_;rintro e W3 ⟨rfl,hb3⟩;obtain⟨hc3,hf3⟩:=bcell hb3;(try have hz3:W2.heap.size<W3.heap.size:=by have:=hb3.size;simp at this;omega))
       go_wp2_with fail;refine hK.out _ _ ?_ (fun hHeld=>?_)
       ·trivial
       clear hK K;(try simp only[Act.put,z1,z2,z3]);refine wpAnyH_ready (rs:=[12,16]) (by kernel_rfl) (by simp) ?_;refine AllReadyH.cons rfl (fun K hK=>?_) ?_
       ·go_simp
        (go_at_call_of 150 (Value.int .i64 9);refine(HN2.out _).mono ?_;rintro e W4 ⟨rfl,hb4⟩;obtain⟨hc4,hf4⟩:=bcell hb4;(try have hz4:W3.heap.size<W4.heap.size:=by have:=hb4.size;simp at this;omega))
        go_wp2_with fail;refine hK.out _ _ ?_ (fun hHeld=>?_)
        ·trivial
        clear hK K;(try simp only[Act.put,z1,z2,z3]);refine tkd 15 _ ?_;refine wpAnyH_ready (rs:=[16]) (by kernel_rfl) (by simp) ?_;refine AllReadyH.cons rfl (fun K hK=>?_) ?_
        ·go_simp;refine hK.out _ _ ?_ (fun hHeld=>?_)
         ·trivial
         clear hK K;(try simp only[Act.put,z1,z2,z3]);refine wpAnyH_ready (rs:=[17]) (by kernel_rfl) (by simp) ?_;refine AllReadyH.cons rfl (fun K hK=>?_) ?_
         ·go_simp;refine hK.out _ _ ?_ (fun hHeld=>?_)
          ·trivial
          clear hK K;(try simp only[Act.put,z1,z2,z3]);refine wpAnyH_done (by kernel_rfl) ?_ _;go_wp2_with fail;refine nameC (fun Wz hWz=>?_)
          have hW23:Below W2.heap.size W2 W3:=by first | with_reducible exact below_drewL hb3 | with_reducible exact below_boxd hb3
          have hW34:Below W3.heap.size W3 W4:=by first | with_reducible exact hb4 | with_reducible exact below_box hb4
          have hW24:=hW23.trans (hW34.mono hW23.size);have t23:=hW23.size;have t34:=hW34.size
          have hW2z:Below W2.heap.size W2 Wz:=by rw[hWz];first | with_reducible exact Below.alloc hW24 (Below.size hW24) _ | with_reducible exact below6 hW24 t23 _ _ _ _ _ _ | with_reducible exact below6 hW24 (Nat.le_refl _) _ _ _ _ _ _
          refine(HENC.out _).mono ?_;rintro e w9 ⟨rfl,hb9⟩;have hq9:q<Wz.heap.size:=Nat.lt_of_lt_of_le hqW2 hW2z.size;have e0:w9.cell? ⟨q,0,none⟩=some (.int .i64 0):=((hb9.cell (p:=⟨q,0,none⟩) hq9).trans (hW2z.cell (p:=⟨q,0,none⟩) hqW2)).trans d0;have e1:w9.cell? ⟨q,1,none⟩=some (.int .i64 0):=((hb9.cell (p:=⟨q,1,none⟩) hq9).trans (hW2z.cell (p:=⟨q,1,none⟩) hqW2)).trans d1;have e2:w9.cell? ⟨q,2,none⟩=some (.int .i64 0):=((hb9.cell (p:=⟨q,2,none⟩) hq9).trans (hW2z.cell (p:=⟨q,2,none⟩) hqW2)).trans d2;have e3:w9.cell? ⟨q,3,none⟩=some (.int .i64 0):=((hb9.cell (p:=⟨q,3,none⟩) hq9).trans (hW2z.cell (p:=⟨q,3,none⟩) hqW2)).trans d3;have e4:w9.cell? ⟨q,4,none⟩=some (.int .i64 0):=((hb9.cell (p:=⟨q,4,none⟩) hq9).trans (hW2z.cell (p:=⟨q,4,none⟩) hqW2)).trans d4;have e5:w9.cell? ⟨q,5,none⟩=some (.string ⟨#[]⟩):=((hb9.cell (p:=⟨q,5,none⟩) hq9).trans (hW2z.cell (p:=⟨q,5,none⟩) hqW2)).trans d5
          have ef:∀i,w9.frozen? ⟨q,i,none⟩=false:=fun i=>((hb9.frozen (p:=⟨q,i,none⟩) hq9).trans (hW2z.frozen (p:=⟨q,i,none⟩) hqW2)).trans (df i)
          have hbq:Below w.heap.size w w9:=(hbz.trans (hW2z.mono hbz.size)).trans (hb9.mono (Nat.le_trans hbz.size hW2z.size))
          have hqle:w.heap.size≤q:=by rw[HQ.out];exact Nat.le_refl _
          have hXz:=heap_alloc_new W4 (.cells #[.int .i64 ((s[1]'j1).toNat:Int),.int .i64 ((s[2]'j2).toNat:Int),.int .i64 ((s[3]'j3).toNat:Int),.int .i64 (num ((s.data.toList.drop 4).take 5):Int),.int .i64 (num ((s.data.toList.drop 9).take 5):Int),.string (s.extract 16 32)] 94);rw[←hWz] at hXz;obtain⟨z0,z1,z2,z3,z4,z5,zX⟩:=cells6 hXz
          have zq:q≠W4.heap.size:=by omega
          have x0:=(hb9.cell (p:=⟨W4.heap.size,0,none⟩) zX).trans z0;have x1:=(hb9.cell (p:=⟨W4.heap.size,1,none⟩) zX).trans z1;have x2:=(hb9.cell (p:=⟨W4.heap.size,2,none⟩) zX).trans z2;have x3:=(hb9.cell (p:=⟨W4.heap.size,3,none⟩) zX).trans z3;have x4:=(hb9.cell (p:=⟨W4.heap.size,4,none⟩) zX).trans z4;have x5:=(hb9.cell (p:=⟨W4.heap.size,5,none⟩) zX).trans z5;clear z0 z1 z2 z3 z4 z5 hXz hWz hb3 hb4 hc3 hf3 hc4 hf4;by_cases hok:validP (decP s.data.toList)=true∧encB (decP s.data.toList)=s.data.toList
          ·have hE:=decEr_ok (l:=s.data.toList) (by rw[HSL.out];exact H36.out) HBL.out HSU.out hok;have hP:=decPc_ok hE
           have f1:es=encB (decP s.data.toList):=by rw[HES.out];unfold encS;rw[if_pos hok.1]
           have f2:ee=0:=by rw[HEE.out];unfold encE;rw[if_pos hok.1]
           have q4:=lst_yes (f1.trans hok.2);have HE:=zh hE;have HP:=zh hP;subst f2;clear hE hP f1 hok;go_wp2_with fail;exact bodyPost_ret (v:=.tuple #[.agg #[.int .i64 ((s[1]'j1).toNat:Int),.int .i64 ((s[2]'j2).toNat:Int),.int .i64 ((s[3]'j3).toNat:Int),.int .i64 (num ((s.data.toList.drop 4).take 5):Int),.int .i64 (num ((s.data.toList.drop 9).take 5):Int),.string (s.extract 16 32)],.int .i64 0]) (by simp[results,Tryz.results113,go_sem,e0,e1,e2,e3,e4,e5]) rfl ⟨by rw[HE.out,HP.out,HPV.out],below6 hbq hqle _ _ _ _ _ _⟩
          ·have hE:=decEr_form (l:=s.data.toList) (by rw[HSL.out];exact H36.out) HBL.out HSU.out hok;have hP:=decPc_bad (l:=s.data.toList) (by rw[hE];decide);have HE:=zh hE;have HP:=zh hP;by_cases hv:validP (decP s.data.toList)=true
           ·have f1:es=encB (decP s.data.toList):=by rw[HES.out];unfold encS;rw[if_pos hv]
            have f2:ee=0:=by rw[HEE.out];unfold encE;rw[if_pos hv]
            have q4:=lst_no (fun h=>hok ⟨hv,f1.symm.trans h⟩);subst f2;clear hE hP f1 hok;go_wp2_with fail;exact bodyPost_ret (v:=.tuple #[.agg #[.int .i64 0,.int .i64 0,.int .i64 0,.int .i64 0,.int .i64 0,.string ⟨#[]⟩],.int .i64 104]) (by simp[results,Tryz.results113,go_sem,e0,e1,e2,e3,e4,e5]) rfl ⟨by rw[HE.out,HP.out,PcV_zero],below6 hbq hqle _ _ _ _ _ _⟩
           ·have f2:ee=100:=by rw[HEE.out];unfold encE;rw[if_neg hv]
            subst f2;clear hE hP hok;go_wp2_with fail;exact bodyPost_ret (v:=.tuple #[.agg #[.int .i64 0,.int .i64 0,.int .i64 0,.int .i64 0,.int .i64 0,.string ⟨#[]⟩],.int .i64 104]) (by simp[results,Tryz.results113,go_sem,e0,e1,e2,e3,e4,e5]) rfl ⟨by rw[HE.out,HP.out,PcV_zero],below6 hbq hqle _ _ _ _ _ _⟩
         exact AllReadyH.nil
        exact AllReadyH.nil
       refine AllReadyH.cons rfl (fun K hK=>?_) ?_
       ·go_simp;refine hK.out _ _ ?_ (fun hHeld=>?_)
        ·trivial
        clear hK K;(try simp only[Act.put,z1,z2,z3]);refine wpAnyH_ready (rs:=[12]) (by kernel_rfl) (by simp) ?_;refine AllReadyH.cons rfl (fun K hK=>?_) ?_
        ·go_simp
         (go_at_call_of 150 (Value.int .i64 9);refine(HN2.out _).mono ?_;rintro e W4 ⟨rfl,hb4⟩;obtain⟨hc4,hf4⟩:=bcell hb4;(try have hz4:W3.heap.size<W4.heap.size:=by have:=hb4.size;simp at this;omega))
         go_wp2_with fail;refine hK.out _ _ ?_ (fun hHeld=>?_)
         ·trivial
         clear hK K;(try simp only[Act.put,z1,z2,z3]);refine tkd 15 _ ?_;refine wpAnyH_ready (rs:=[17]) (by kernel_rfl) (by simp) ?_;refine AllReadyH.cons rfl (fun K hK=>?_) ?_
         ·go_simp;refine hK.out _ _ ?_ (fun hHeld=>?_)
          ·trivial
          clear hK K;(try simp only[Act.put,z1,z2,z3]);refine wpAnyH_done (by kernel_rfl) ?_ _;go_wp2_with fail;refine nameC (fun Wz hWz=>?_)
          have hW23:Below W2.heap.size W2 W3:=by first | with_reducible exact below_drewL hb3 | with_reducible exact below_boxd hb3
          have hW34:Below W3.heap.size W3 W4:=by first | with_reducible exact hb4 | with_reducible exact below_box hb4
          have hW24:=hW23.trans (hW34.mono hW23.size);have t23:=hW23.size;have t34:=hW34.size
          have hW2z:Below W2.heap.size W2 Wz:=by rw[hWz];first | with_reducible exact Below.alloc hW24 (Below.size hW24) _ | with_reducible exact below6 hW24 t23 _ _ _ _ _ _ | with_reducible exact below6 hW24 (Nat.le_refl _) _ _ _ _ _ _
          refine(HENC.out _).mono ?_;rintro e w9 ⟨rfl,hb9⟩;have hq9:q<Wz.heap.size:=Nat.lt_of_lt_of_le hqW2 hW2z.size;have e0:w9.cell? ⟨q,0,none⟩=some (.int .i64 0):=((hb9.cell (p:=⟨q,0,none⟩) hq9).trans (hW2z.cell (p:=⟨q,0,none⟩) hqW2)).trans d0;have e1:w9.cell? ⟨q,1,none⟩=some (.int .i64 0):=((hb9.cell (p:=⟨q,1,none⟩) hq9).trans (hW2z.cell (p:=⟨q,1,none⟩) hqW2)).trans d1;have e2:w9.cell? ⟨q,2,none⟩=some (.int .i64 0):=((hb9.cell (p:=⟨q,2,none⟩) hq9).trans (hW2z.cell (p:=⟨q,2,none⟩) hqW2)).trans d2;have e3:w9.cell? ⟨q,3,none⟩=some (.int .i64 0):=((hb9.cell (p:=⟨q,3,none⟩) hq9).trans (hW2z.cell (p:=⟨q,3,none⟩) hqW2)).trans d3;have e4:w9.cell? ⟨q,4,none⟩=some (.int .i64 0):=((hb9.cell (p:=⟨q,4,none⟩) hq9).trans (hW2z.cell (p:=⟨q,4,none⟩) hqW2)).trans d4;have e5:w9.cell? ⟨q,5,none⟩=some (.string ⟨#[]⟩):=((hb9.cell (p:=⟨q,5,none⟩) hq9).trans (hW2z.cell (p:=⟨q,5,none⟩) hqW2)).trans d5
          have ef:∀i,w9.frozen? ⟨q,i,none⟩=false:=fun i=>((hb9.frozen (p:=⟨q,i,none⟩) hq9).trans (hW2z.frozen (p:=⟨q,i,none⟩) hqW2)).trans (df i)
          have hbq:Below w.heap.size w w9:=(hbz.trans (hW2z.mono hbz.size)).trans (hb9.mono (Nat.le_trans hbz.size hW2z.size))
          have hqle:w.heap.size≤q:=by rw[HQ.out];exact Nat.le_refl _
          have hXz:=set6_row (v0:=.int .i64 ((s[1]'j1).toNat:Int)) (v1:=.int .i64 ((s[2]'j2).toNat:Int)) (v2:=.int .i64 ((s[3]'j3).toNat:Int)) (v3:=.int .i64 (num ((s.data.toList.drop 4).take 5):Int)) (v4:=.int .i64 (num ((s.data.toList.drop 9).take 5):Int)) (v5:=.string (s.extract 16 32)) ((hb4.block W3.heap.size (by simp)).trans (heap_alloc_new W3 _));rw[←hWz] at hXz;obtain⟨z0,z1,z2,z3,z4,z5,zX⟩:=cells6 hXz
          have zq:q≠W3.heap.size:=by omega
          have x0:=(hb9.cell (p:=⟨W3.heap.size,0,none⟩) zX).trans z0;have x1:=(hb9.cell (p:=⟨W3.heap.size,1,none⟩) zX).trans z1;have x2:=(hb9.cell (p:=⟨W3.heap.size,2,none⟩) zX).trans z2;have x3:=(hb9.cell (p:=⟨W3.heap.size,3,none⟩) zX).trans z3;have x4:=(hb9.cell (p:=⟨W3.heap.size,4,none⟩) zX).trans z4;have x5:=(hb9.cell (p:=⟨W3.heap.size,5,none⟩) zX).trans z5;clear z0 z1 z2 z3 z4 z5 hXz hWz hb3 hb4 hc3 hf3 hc4 hf4;by_cases hok:validP (decP s.data.toList)=true∧encB (decP s.data.toList)=s.data.toList
          ·have hE:=decEr_ok (l:=s.data.toList) (by rw[HSL.out];exact H36.out) HBL.out HSU.out hok;have hP:=decPc_ok hE
           have f1:es=encB (decP s.data.toList):=by rw[HES.out];unfold encS;rw[if_pos hok.1]
           have f2:ee=0:=by rw[HEE.out];unfold encE;rw[if_pos hok.1]
           have q4:=lst_yes (f1.trans hok.2);have HE:=zh hE;have HP:=zh hP;subst f2;clear hE hP f1 hok;go_wp2_with fail;exact bodyPost_ret (v:=.tuple #[.agg #[.int .i64 ((s[1]'j1).toNat:Int),.int .i64 ((s[2]'j2).toNat:Int),.int .i64 ((s[3]'j3).toNat:Int),.int .i64 (num ((s.data.toList.drop 4).take 5):Int),.int .i64 (num ((s.data.toList.drop 9).take 5):Int),.string (s.extract 16 32)],.int .i64 0]) (by simp[results,Tryz.results113,go_sem,e0,e1,e2,e3,e4,e5]) rfl ⟨by rw[HE.out,HP.out,HPV.out],below6 hbq hqle _ _ _ _ _ _⟩
          ·have hE:=decEr_form (l:=s.data.toList) (by rw[HSL.out];exact H36.out) HBL.out HSU.out hok;have hP:=decPc_bad (l:=s.data.toList) (by rw[hE];decide);have HE:=zh hE;have HP:=zh hP;by_cases hv:validP (decP s.data.toList)=true
           ·have f1:es=encB (decP s.data.toList):=by rw[HES.out];unfold encS;rw[if_pos hv]
            have f2:ee=0:=by rw[HEE.out];unfold encE;rw[if_pos hv]
            have q4:=lst_no (fun h=>hok ⟨hv,f1.symm.trans h⟩);subst f2;clear hE hP f1 hok;go_wp2_with fail;exact bodyPost_ret (v:=.tuple #[.agg #[.int .i64 0,.int .i64 0,.int .i64 0,.int .i64 0,.int .i64 0,.string ⟨#[]⟩],.int .i64 104]) (by simp[results,Tryz.results113,go_sem,e0,e1,e2,e3,e4,e5]) rfl ⟨by rw[HE.out,HP.out,PcV_zero],below6 hbq hqle _ _ _ _ _ _⟩
           ·have f2:ee=100:=by rw[HEE.out];unfold encE;rw[if_neg hv]
            subst f2;clear hE hP hok;go_wp2_with fail;exact bodyPost_ret (v:=.tuple #[.agg #[.int .i64 0,.int .i64 0,.int .i64 0,.int .i64 0,.int .i64 0,.string ⟨#[]⟩],.int .i64 104]) (by simp[results,Tryz.results113,go_sem,e0,e1,e2,e3,e4,e5]) rfl ⟨by rw[HE.out,HP.out,PcV_zero],below6 hbq hqle _ _ _ _ _ _⟩
         exact AllReadyH.nil
        exact AllReadyH.nil
       exact AllReadyH.nil
      refine AllReadyH.cons rfl (fun K hK=>?_) ?_
      ·go_simp;refine hK.out _ _ ?_ (fun hHeld=>?_)
       ·trivial
       clear hK K;(try simp only[Act.put,z1,z2,z3]);refine wpAnyH_ready (rs:=[10]) (by kernel_rfl) (by simp) ?_;refine AllReadyH.cons rfl (fun K hK=>?_) ?_
       ·go_simp
        (go_at_call_of 150 (Value.int .i64 4);refine(HN1.out _).mono ?_;rintro e W3 ⟨rfl,hb3⟩;obtain⟨hc3,hf3⟩:=bcell hb3;(try have hz3:W2.heap.size<W3.heap.size:=by have:=hb3.size;simp at this;omega))
        go_wp2_with fail;refine hK.out _ _ ?_ (fun hHeld=>?_)
        ·trivial
        clear hK K;(try simp only[Act.put,z1,z2,z3]);refine wpAnyH_ready (rs:=[12]) (by kernel_rfl) (by simp) ?_;refine AllReadyH.cons rfl (fun K hK=>?_) ?_
        ·go_simp
         (go_at_call_of 150 (Value.int .i64 9);refine(HN2.out _).mono ?_;rintro e W4 ⟨rfl,hb4⟩;obtain⟨hc4,hf4⟩:=bcell hb4;(try have hz4:W3.heap.size<W4.heap.size:=by have:=hb4.size;simp at this;omega))
         go_wp2_with fail;refine hK.out _ _ ?_ (fun hHeld=>?_)
         ·trivial
         clear hK K;(try simp only[Act.put,z1,z2,z3]);refine tkd 15 _ ?_;refine wpAnyH_ready (rs:=[17]) (by kernel_rfl) (by simp) ?_;refine AllReadyH.cons rfl (fun K hK=>?_) ?_
         ·go_simp;refine hK.out _ _ ?_ (fun hHeld=>?_)
          ·trivial
          clear hK K;(try simp only[Act.put,z1,z2,z3]);refine wpAnyH_done (by kernel_rfl) ?_ _;go_wp2_with fail;refine nameC (fun Wz hWz=>?_)
          have hW23:Below W2.heap.size W2 W3:=by first | with_reducible exact below_drewL hb3 | with_reducible exact below_boxd hb3
          have hW34:Below W3.heap.size W3 W4:=by first | with_reducible exact hb4 | with_reducible exact below_box hb4
          have hW24:=hW23.trans (hW34.mono hW23.size);have t23:=hW23.size;have t34:=hW34.size
          have hW2z:Below W2.heap.size W2 Wz:=by rw[hWz];first | with_reducible exact Below.alloc hW24 (Below.size hW24) _ | with_reducible exact below6 hW24 t23 _ _ _ _ _ _ | with_reducible exact below6 hW24 (Nat.le_refl _) _ _ _ _ _ _
          refine(HENC.out _).mono ?_;rintro e w9 ⟨rfl,hb9⟩;have hq9:q<Wz.heap.size:=Nat.lt_of_lt_of_le hqW2 hW2z.size;have e0:w9.cell? ⟨q,0,none⟩=some (.int .i64 0):=((hb9.cell (p:=⟨q,0,none⟩) hq9).trans (hW2z.cell (p:=⟨q,0,none⟩) hqW2)).trans d0;have e1:w9.cell? ⟨q,1,none⟩=some (.int .i64 0):=((hb9.cell (p:=⟨q,1,none⟩) hq9).trans (hW2z.cell (p:=⟨q,1,none⟩) hqW2)).trans d1;have e2:w9.cell? ⟨q,2,none⟩=some (.int .i64 0):=((hb9.cell (p:=⟨q,2,none⟩) hq9).trans (hW2z.cell (p:=⟨q,2,none⟩) hqW2)).trans d2;have e3:w9.cell? ⟨q,3,none⟩=some (.int .i64 0):=((hb9.cell (p:=⟨q,3,none⟩) hq9).trans (hW2z.cell (p:=⟨q,3,none⟩) hqW2)).trans d3;have e4:w9.cell? ⟨q,4,none⟩=some (.int .i64 0):=((hb9.cell (p:=⟨q,4,none⟩) hq9).trans (hW2z.cell (p:=⟨q,4,none⟩) hqW2)).trans d4;have e5:w9.cell? ⟨q,5,none⟩=some (.string ⟨#[]⟩):=((hb9.cell (p:=⟨q,5,none⟩) hq9).trans (hW2z.cell (p:=⟨q,5,none⟩) hqW2)).trans d5
          have ef:∀i,w9.frozen? ⟨q,i,none⟩=false:=fun i=>((hb9.frozen (p:=⟨q,i,none⟩) hq9).trans (hW2z.frozen (p:=⟨q,i,none⟩) hqW2)).trans (df i)
          have hbq:Below w.heap.size w w9:=(hbz.trans (hW2z.mono hbz.size)).trans (hb9.mono (Nat.le_trans hbz.size hW2z.size))
          have hqle:w.heap.size≤q:=by rw[HQ.out];exact Nat.le_refl _
          have hXz:=set6_row (v0:=.int .i64 ((s[1]'j1).toNat:Int)) (v1:=.int .i64 ((s[2]'j2).toNat:Int)) (v2:=.int .i64 ((s[3]'j3).toNat:Int)) (v3:=.int .i64 (num ((s.data.toList.drop 4).take 5):Int)) (v4:=.int .i64 (num ((s.data.toList.drop 9).take 5):Int)) (v5:=.string (s.extract 16 32)) ((hb4.block W2.heap.size hz3).trans ((hb3.block W2.heap.size (by simp)).trans (heap_alloc_new W2 _)));rw[←hWz] at hXz;obtain⟨z0,z1,z2,z3,z4,z5,zX⟩:=cells6 hXz
          have zq:q≠W2.heap.size:=by omega
          have x0:=(hb9.cell (p:=⟨W2.heap.size,0,none⟩) zX).trans z0;have x1:=(hb9.cell (p:=⟨W2.heap.size,1,none⟩) zX).trans z1;have x2:=(hb9.cell (p:=⟨W2.heap.size,2,none⟩) zX).trans z2;have x3:=(hb9.cell (p:=⟨W2.heap.size,3,none⟩) zX).trans z3;have x4:=(hb9.cell (p:=⟨W2.heap.size,4,none⟩) zX).trans z4;have x5:=(hb9.cell (p:=⟨W2.heap.size,5,none⟩) zX).trans z5;clear z0 z1 z2 z3 z4 z5 hXz hWz hb3 hb4 hc3 hf3 hc4 hf4;by_cases hok:validP (decP s.data.toList)=true∧encB (decP s.data.toList)=s.data.toList
          ·have hE:=decEr_ok (l:=s.data.toList) (by rw[HSL.out];exact H36.out) HBL.out HSU.out hok;have hP:=decPc_ok hE
           have f1:es=encB (decP s.data.toList):=by rw[HES.out];unfold encS;rw[if_pos hok.1]
           have f2:ee=0:=by rw[HEE.out];unfold encE;rw[if_pos hok.1]
           have q4:=lst_yes (f1.trans hok.2);have HE:=zh hE;have HP:=zh hP;subst f2;clear hE hP f1 hok;go_wp2_with fail;exact bodyPost_ret (v:=.tuple #[.agg #[.int .i64 ((s[1]'j1).toNat:Int),.int .i64 ((s[2]'j2).toNat:Int),.int .i64 ((s[3]'j3).toNat:Int),.int .i64 (num ((s.data.toList.drop 4).take 5):Int),.int .i64 (num ((s.data.toList.drop 9).take 5):Int),.string (s.extract 16 32)],.int .i64 0]) (by simp[results,Tryz.results113,go_sem,e0,e1,e2,e3,e4,e5]) rfl ⟨by rw[HE.out,HP.out,HPV.out],below6 hbq hqle _ _ _ _ _ _⟩
          ·have hE:=decEr_form (l:=s.data.toList) (by rw[HSL.out];exact H36.out) HBL.out HSU.out hok;have hP:=decPc_bad (l:=s.data.toList) (by rw[hE];decide);have HE:=zh hE;have HP:=zh hP;by_cases hv:validP (decP s.data.toList)=true
           ·have f1:es=encB (decP s.data.toList):=by rw[HES.out];unfold encS;rw[if_pos hv]
            have f2:ee=0:=by rw[HEE.out];unfold encE;rw[if_pos hv]
            have q4:=lst_no (fun h=>hok ⟨hv,f1.symm.trans h⟩);subst f2;clear hE hP f1 hok;go_wp2_with fail;exact bodyPost_ret (v:=.tuple #[.agg #[.int .i64 0,.int .i64 0,.int .i64 0,.int .i64 0,.int .i64 0,.string ⟨#[]⟩],.int .i64 104]) (by simp[results,Tryz.results113,go_sem,e0,e1,e2,e3,e4,e5]) rfl ⟨by rw[HE.out,HP.out,PcV_zero],below6 hbq hqle _ _ _ _ _ _⟩
           ·have f2:ee=100:=by rw[HEE.out];unfold encE;rw[if_neg hv]
            subst f2;clear hE hP hok;go_wp2_with fail;exact bodyPost_ret (v:=.tuple #[.agg #[.int .i64 0,.int .i64 0,.int .i64 0,.int .i64 0,.int .i64 0,.string ⟨#[]⟩],.int .i64 104]) (by simp[results,Tryz.results113,go_sem,e0,e1,e2,e3,e4,e5]) rfl ⟨by rw[HE.out,HP.out,PcV_zero],below6 hbq hqle _ _ _ _ _ _⟩
         exact AllReadyH.nil
        exact AllReadyH.nil
       exact AllReadyH.nil
      exact AllReadyH.nil
     ·have q3:((num ((s.data.toList.drop 32).take 4):Int) != (crc (s.data.toList.take 32):Int))=true:=by
       rw[bne_iff_ne];intro e;exact hsum (HSI.out.2 (by exact_mod_cast e))
      have hE:=decEr_sum (l:=s.data.toList) (by rw[HSL.out];exact H36.out) HBL.out hsum;have hP:=decPc_bad (l:=s.data.toList) (by rw[hE];decide);have HE:=zh hE;have HP:=zh hP;obtain⟨n1,hn1⟩:=zx (num ((s.data.toList.drop 32).take 4));obtain⟨cc,hcc⟩:=zx (crc (s.data.toList.take 32));rw[←hn1,←hcc] at q3;rw[←hcc] at hws HSUM hclt;rw[←hn1] at HN0;clear hsum hn1 hcc hE hP
      go_region_held3 (fun _=>True) (trivial)
       (first
        | (go_at_call 150;refine(HN0.out _).mono ?_;rintro e W2 ⟨rfl,hb2⟩)
        | (go_at_call 151;refine(HSUM.out _).mono ?_;rintro e w' ⟨rfl,rfl⟩))
      all_goals
       obtain⟨hc2,hf2⟩:=bcell hb2;have hqd:q<W1.drew.heap.size:=hqW;have d0:W2.cell? ⟨q,0,none⟩=some (.int .i64 0):=(hc2 q 0 hqd).trans c0;have d1:W2.cell? ⟨q,1,none⟩=some (.int .i64 0):=(hc2 q 1 hqd).trans c1;have d2:W2.cell? ⟨q,2,none⟩=some (.int .i64 0):=(hc2 q 2 hqd).trans c2;have d3:W2.cell? ⟨q,3,none⟩=some (.int .i64 0):=(hc2 q 3 hqd).trans c3;have d4:W2.cell? ⟨q,4,none⟩=some (.int .i64 0):=(hc2 q 4 hqd).trans c4;have d5:W2.cell? ⟨q,5,none⟩=some (.string ⟨#[]⟩):=(hc2 q 5 hqd).trans c5
       have df:∀i,W2.frozen? ⟨q,i,none⟩=false:=fun i=>(hf2 q i hqd).trans (fz i)
       have hbz:=HBX.out.drew.trans (hb2.mono HBX.out.size);clear hc2 hf2 hb2;go_wp2_with fail;exact bodyPost_ret (v:=.tuple #[.agg #[.int .i64 0,.int .i64 0,.int .i64 0,.int .i64 0,.int .i64 0,.string ⟨#[]⟩],.int .i64 103]) (by simp[results,Tryz.results113,go_sem,d0,d1,d2,d3,d4,d5]) rfl ⟨by rw[HE.out,HP.out,PcV_zero],below6 hbz (by rw[HQ.out];exact Nat.le_refl _) _ _ _ _ _ _⟩
 ·have hE:=decEr_len (l:=s.data.toList) (by rw[hsl];exact h36);have hP:=decPc_bad (l:=s.data.toList) (by rw[hE];decide);rw[hE,hP,PcV_zero]
  have hq36:((s.size:Int) != 36)=true:=by simp;omega
  have HW1:=zh hW1;clear hE hP h36 hsl hW1 hbx;go_enter Tryz.func113,Tryz.ntmps113;go_wp2_with fail;refine bodyPost_ret (v:=.tuple #[.agg #[.int .i64 0,.int .i64 0,.int .i64 0,.int .i64 0,.int .i64 0,.string ⟨#[]⟩],.int .i64 101]) (by simp[results,Tryz.results113,go_sem]) rfl ⟨rfl,?_⟩;rw[←HW1.out];exact HBX.out
def SlAt{α:Type} (size:Nat) (K:World→(Nat→Prop)→List Value→α→Prop) (w:World) (R:Nat→Prop) (es:List α) (b off:Nat):Prop :=
 ∀k a,es[k]?=some a→∃cs,cs.length=size∧(∀i c,cs[i]?=some c→w.cell? ⟨b,off+k * size+i,none⟩=some c)∧K w R cs a
def SlS{α:Type} (size:Nat) (K:World→(Nat→Prop)→List Value→α→Prop) (w:World) (R:Nat→Prop) (v:Value) (es:List α):Prop:=Row R v es.length (SlAt size K w R es)
structure Steady {α:Type} (K:World→(Nat→Prop)→List Value→α→Prop):Prop where
 keep:∀{w w':World} {R:Nat→Prop} {cs:List Value} {a:α},Kept R w w'→K w R cs a→K w' R cs a
 mono:∀{w:World} {R R':Nat→Prop} {cs:List Value} {a:α},(∀b,R b→R' b)→K w R cs a→K w R' cs a
theorem SlS.keep{α:Type} {size:Nat} {K:World→(Nat→Prop)→List Value→α→Prop} (hK:Steady K) {w w':World} {R:Nat→Prop} {v:Value} {es:List α} (h:SlS size K w R v es) (hk:Kept R w w'):SlS size K w' R v es :=
 Row.imp h (fun _ hb=>hb) fun b off hb hc k a ha=>by
  obtain⟨cs,h1,h2,h3⟩:=hc k a ha;exact⟨cs,h1,fun i c hi=>(hk.cell hb).trans (h2 i c hi),hK.keep hk h3⟩
theorem SlS.mono{α:Type} {size:Nat} {K:World→(Nat→Prop)→List Value→α→Prop} (hK:Steady K) {w:World} {R R':Nat→Prop} {v:Value} {es:List α} (h:SlS size K w R v es) (hr:∀b,R b→R' b):SlS size K w R' v es :=
 Row.imp h hr fun b off _ hc k a ha=>by
  obtain⟨cs,h1,h2,h3⟩:=hc k a ha;exact⟨cs,h1,h2,hK.mono hr h3⟩
theorem SlS.below{α:Type} {size:Nat} {K:World→(Nat→Prop)→List Value→α→Prop} (hK:Steady K) {w w':World} {v:Value} {es:List α} (h:SlS size K w (Bl w.heap.size) v es) (hb:Below w.heap.size w w'):SlS size K w' (Bl w'.heap.size) v es :=
 SlS.mono hK (SlS.keep hK h (kept_below hb)) (Bl.mono hb.size)
theorem SlS.form{α:Type} {size:Nat} {K:World→(Nat→Prop)→List Value→α→Prop} {w:World} {R:Nat→Prop} {v:Value} {es:List α} (h:SlS size K w R v es):∃A c,v=.slice A es.length c∧es.length≤c∧es.length≤maxLen:=by
 obtain⟨A',c',e,h1,h2,h3⟩:=h;exact⟨A',c',e,h1,h2⟩
theorem SlS.at_{α:Type} {size:Nat} {K:World→(Nat→Prop)→List Value→α→Prop} {w:World} {R:Nat→Prop} {A:Option Addr} {n c:Nat} {es:List α} (h:SlS size K w R (.slice A n c) es) {k:Nat} (hk:k<es.length) :
  ∃b off cs,A=some ⟨b,off,none⟩∧R b∧cs.length=size∧(∀i c,cs[i]?=some c→w.cell? ⟨b,off+k * size+i,none⟩=some c)∧K w R cs es[k]:=by
 obtain⟨A',c',e,_,_,h3⟩:=h;obtain⟨b,off,e2,hb,hc⟩:=h3 (by omega);obtain⟨cs,g1,g2,g3⟩:=hc k es[k] (List.getElem?_eq_getElem hk);injection e with e;exact⟨b,off,cs,e.trans e2,hb,g1,g2,g3⟩
def StrK(w:World) (R:Nat→Prop) (cs:List Value) (s:ByteArray):Prop:=cs=[.string s]∧s.size≤maxLen
def BoolK(w:World) (R:Nat→Prop) (cs:List Value) (x:Bool):Prop:=cs=[.bool x]
structure Ac where
 vol:Int
 stripe:Int
 ver:Int
 side:Int
def AcK(w:World) (R:Nat→Prop) (cs:List Value) (a:Ac):Prop:=cs=[.int .i64 a.vol,.int .i64 a.stripe,.int .i64 a.ver,.int .i64 a.side]∧I64 a.vol∧I64 a.stripe∧I64 a.ver∧I64 a.side
def DrvK(w:World) (R:Nat→Prop) (cs:List Value) (l:List ByteArray):Prop:=∃v,cs=[v]∧SlS 1 StrK w R v l
theorem strK:Steady StrK:=⟨fun _ h=>h,fun _ h=>h⟩
theorem boolK:Steady BoolK:=⟨fun _ h=>h,fun _ h=>h⟩
theorem acK:Steady AcK:=⟨fun _ h=>h,fun _ h=>h⟩
theorem drvK:Steady DrvK:=⟨fun hk ⟨v,e,h⟩=>⟨v,e,SlS.keep strK h hk⟩,fun hr ⟨v,e,h⟩=>⟨v,e,SlS.mono strK h hr⟩⟩
structure Re where
 plat:List (List ByteArray)
 on:List Bool
 acks:List Ac
def ReS(w:World) (R:Nat→Prop) (vp vo va:Value) (r:Re):Prop:=SlS 1 DrvK w R vp r.plat∧SlS 1 BoolK w R vo r.on∧SlS 4 AcK w R va r.acks
theorem ReS.keep{w w':World} {R:Nat→Prop} {vp vo va:Value} {r:Re} (h:ReS w R vp vo va r) (hk:Kept R w w'):ReS w' R vp vo va r:=⟨SlS.keep drvK h.1 hk,SlS.keep boolK h.2.1 hk,SlS.keep acK h.2.2 hk⟩
theorem ReS.mono{w:World} {R R':Nat→Prop} {vp vo va:Value} {r:Re} (h:ReS w R vp vo va r) (hr:∀b,R b→R' b):ReS w R' vp vo va r:=⟨SlS.mono drvK h.1 hr,SlS.mono boolK h.2.1 hr,SlS.mono acK h.2.2 hr⟩
theorem ReS.below{w w':World} {vp vo va:Value} {r:Re} (h:ReS w (Bl w.heap.size) vp vo va r) (hb:Below w.heap.size w w'):ReS w' (Bl w'.heap.size) vp vo va r:=(h.keep (kept_below hb)).mono (Bl.mono hb.size)
def verOf(l:List Ac) (v s:Int):Option Int:=(l.find? fun a=>a.vol==v&&a.stripe==s).map (·.ver)
theorem verOf_take{l:List Ac} {v s:Int} {j:Nat} (h:verOf (l.take j) v s=none) (hj:j<l.length) (hn:¬(l[j].vol=v∧l[j].stripe=s)):verOf (l.take (j+1)) v s=none:=by
 unfold verOf at h ⊢;rw[Option.map_eq_none_iff] at h ⊢;rw[List.take_succ_eq_append_getElem hj,List.find?_append,h]
 have:(l[j].vol==v&&l[j].stripe==s)=false:=by
  rw[Bool.and_eq_false_iff];by_cases e:l[j].vol=v
  ·exact .inr (by rw[beq_eq_false_iff_ne];exact fun e2=>hn ⟨e,e2⟩)
  ·exact .inl (by rw[beq_eq_false_iff_ne];exact e)
 simp[List.find?,this]
theorem four{cs:List Value} {a b c d:Value} {w:World} {p o:Nat} (h:∀i c,cs[i]?=some c→w.cell? ⟨p,o+i,none⟩=some c) (e:cs=[a,b,c,d]) :
  w.cell? ⟨p,o,none⟩=some a∧w.cell? ⟨p,o+1,none⟩=some b∧w.cell? ⟨p,o+2,none⟩=some c∧w.cell? ⟨p,o+3,none⟩=some d:=by
 subst e;exact⟨h 0 _ rfl,h 1 _ rfl,h 2 _ rfl,h 3 _ rfl⟩
theorem IntS.form7{w:World} {R:Nat→Prop} {v:Value} {xs:List Int} (h:IntS w R v xs):∃A c,v=.slice A xs.length c∧xs.length≤c∧xs.length≤maxLen:=by
 obtain⟨⟨A,c,h1,h2,h3,-⟩,-⟩:=h;exact⟨A,c,h1,h2,h3⟩
theorem IntS.at7{w:World} {R:Nat→Prop} {A:Option Addr} {n c:Nat} {xs:List Int} (h:IntS w R (.slice A n c) xs) {k:Nat} (hk:k<xs.length):∃b off,A=some ⟨b,off,none⟩∧R b∧w.cell? ⟨b,off+k,none⟩=some (.int .i64 xs[k])∧I64 xs[k]:=by
 obtain⟨⟨A',c',e,_,_,h3⟩,h4⟩:=h;obtain⟨b,off,e2,hb,hc⟩:=h3 (by omega);injection e with e;exact⟨b,off,e.trans e2,hb,hc k _ (List.getElem?_eq_getElem hk),h4 _ (List.getElem_mem hk)⟩
def isB(p:Pc) (v f s:Int):Bool:=p.vol==v&&p.frag==f&&p.stripe==s
def onB(r:Re) (d:Nat):Bool:=r.on.getD d false
theorem on_any(vp vo va:Value) (r:Re) (d:Nat) (w:World) (h:ReS w (Bl w.heap.size) vp vo va r) (hd:d≤1048576) :
  Calls Tryz.prog 186 #[.agg #[vp,vo,va],.int .i64 (d:Int)] w fun e w'=>e=.returned (.bool (onB r d))∧Below w.heap.size w w':=by
 obtain⟨A,c,rfl,-,hm⟩:=h.2.1.form;unfold maxLen at hm;by_cases hlt:d<r.on.length
 ·obtain⟨b,off,cs,rfl,hR,-,hc,hk⟩:=h.2.1.at_ hlt;have hk':cs=[.bool r.on[d]]:=hk;have hcell:=hc 0 (.bool r.on[d]) (by rw[hk'];rfl);simp only[Nat.mul_one,Nat.add_zero] at hcell
  have hcell2:(w.alloc (.cells #[vp,.slice (some ⟨b,off,none⟩) r.on.length c,va] 40)).cell? ⟨b,off+d,none⟩=some (.bool r.on[d]) :=
   (((Below.refl w.heap.size w).alloc (Nat.le_refl _) _).cell (p:=⟨b,off+d,none⟩) hR).trans hcell
  have hE:onB r d=r.on[d]:=getD_lt _ _ hlt;rw[hE];generalize r.on[d]=x at *;clear hc hk hk' hcell h hE;go_enter Tryz.func186,Tryz.ntmps186;go_wp2;go_ret;exact⟨rfl,(Below.refl _ _).alloc (Nat.le_refl _) _⟩
 ·have hE:onB r d=false:=by unfold onB;rw[List.getD,List.getElem?_eq_none (by omega)];rfl
  rw[hE];clear h hE;go_enter Tryz.func186,Tryz.ntmps186;go_wp2;go_ret;exact⟨rfl,(Below.refl _ _).alloc (Nat.le_refl _) _⟩
theorem online_any(vp vo va:Value) (r:Re) (d:Nat) (w:World) (h:ReS w (Bl w.heap.size) vp vo va r) (hd:d≤1048576) :
  Calls Tryz.prog 74 #[.agg #[vp,vo,va],.int .i64 (d:Int)] w fun e w'=>e=.returned (.bool (onB r d))∧Below w.heap.size w w':=by
 obtain⟨A,c,rfl,-,hm⟩:=h.2.1.form;unfold maxLen at hm;by_cases hlt:d<r.on.length
 ·obtain⟨b,off,cs,rfl,hR,-,hc,hk⟩:=h.2.1.at_ hlt;have hk':cs=[.bool r.on[d]]:=hk;have hcell:=hc 0 (.bool r.on[d]) (by rw[hk'];rfl);simp only[Nat.mul_one,Nat.add_zero] at hcell
  have hcell2:(w.alloc (.cells #[vp,.slice (some ⟨b,off,none⟩) r.on.length c,va] 40)).cell? ⟨b,off+d,none⟩=some (.bool r.on[d]) :=
   (((Below.refl w.heap.size w).alloc (Nat.le_refl _) _).cell (p:=⟨b,off+d,none⟩) hR).trans hcell
  have hE:onB r d=r.on[d]:=getD_lt _ _ hlt;rw[hE];generalize r.on[d]=x at *;clear hc hk hk' hcell h hE;go_enter Tryz.func74,Tryz.ntmps74;go_wp2;go_ret;exact⟨rfl,(Below.refl _ _).alloc (Nat.le_refl _) _⟩
 ·have hE:onB r d=false:=by unfold onB;rw[List.getD,List.getElem?_eq_none (by omega)];rfl
  rw[hE];clear h hE;go_enter Tryz.func74,Tryz.ntmps74;go_wp2;go_ret;exact⟨rfl,(Below.refl _ _).alloc (Nat.le_refl _) _⟩
structure Fd where
 drive:Nat
 p:Pc
def FdC(f:Fd):List Value:=[.int .i64 (f.drive:Int),.int .i64 f.p.vol,.int .i64 f.p.frag,.int .i64 f.p.stripe,.int .i64 f.p.gen,.int .i64 f.p.ver,.string ⟨f.p.data.toArray⟩]
def goodP(acks:List Ac) (s:ByteArray):Option Pc :=
 if decEr s.data.toList=0∧verOf acks (decP s.data.toList).vol (decP s.data.toList).stripe=some (decP s.data.toList).ver then some (decP s.data.toList) else none
def drvP(acks:List Ac) (d:Nat) (l:List ByteArray):List Fd:=l.filterMap fun s=>(goodP acks s).map fun p=>⟨d,p⟩
def piecesTo(r:Re) (d:Nat):List Fd:=(List.range d).flatMap fun d=>drvP r.acks d (r.plat.getD d [])
def pieces(r:Re):List Fd:=piecesTo r r.plat.length
theorem piecesTo_succ(r:Re) (d:Nat):piecesTo r (d+1)=piecesTo r d++drvP r.acks d (r.plat.getD d []):=by simp[piecesTo,List.range_succ]
theorem drvP_succ(acks:List Ac) (d:Nat) (l:List ByteArray) (j:Nat) (h:j<l.length):drvP acks d (l.take (j+1))=drvP acks d (l.take j)++(match goodP acks l[j] with | some p=>[⟨d,p⟩] | none=>[]):=by
 unfold drvP;rw[List.take_succ_eq_append_getElem h,List.filterMap_append]
 congr 1
 cases hg:goodP acks l[j] <;> simp[List.filterMap_cons,hg]
theorem drvP_yes{acks:List Ac} {d:Nat} {l:List ByteArray} {j:Nat} (h:j<l.length) {p:Pc} (hg:goodP acks l[j]=some p):drvP acks d (l.take (j+1))=drvP acks d (l.take j)++[⟨d,p⟩]:=by rw[drvP_succ _ _ _ _ h,hg]
theorem drvP_no{acks:List Ac} {d:Nat} {l:List ByteArray} {j:Nat} (h:j<l.length) (hg:goodP acks l[j]=none):drvP acks d (l.take (j+1))=drvP acks d (l.take j):=by rw[drvP_succ _ _ _ _ h,hg,List.append_nil]
theorem drvP_length(acks:List Ac) (d:Nat) (l:List ByteArray):(drvP acks d l).length≤l.length:=List.length_filterMap_le _ _
theorem piecesTo_length(r:Re) (m:Nat) (hm:∀l∈r.plat,l.length≤m):∀d,(piecesTo r d).length≤d * m:=by
 intro d
 induction d with
 | zero=>simp[piecesTo]
 | succ d ih =>
  rw[piecesTo_succ,List.length_append];have h1:=drvP_length r.acks d (r.plat.getD d [])
  have h2:(r.plat.getD d []).length≤m:=by
   by_cases h:d<r.plat.length
   ·rw[getD_lt _ _ h];exact hm _ (List.getElem_mem h)
   ·rw[List.getD,List.getElem?_eq_none (by omega)];simp
  rw[Nat.succ_mul];omega
def OwnFd(w:World) (base:Nat) (e:TypeId) (v:Value) (fs:List Fd):Prop:=w.ownsRow base e 7 v fs.length (fs.flatMap FdC)
theorem flat_one(fs:List Fd) (f:Fd):(fs++[f]).flatMap FdC=fs.flatMap FdC++FdC f:=by simp

def FdK(w:World) (R:Nat→Prop) (cs:List Value) (f:Fd):Prop:=cs=FdC f∧f.drive≤1048576
theorem fdK:Steady FdK:=⟨fun _ h=>h,fun _ h=>h⟩
theorem flat_at7:∀(fs:List Fd) (k:Nat) (f:Fd),fs[k]?=some f→∀i c,(FdC f)[i]?=some c→(fs.flatMap FdC)[k * 7+i]?=some c
 | [],k,f,h=>by simp at h
 | x :: r,0,f,h=>by
  simp at h;subst h;intro i c hc;have hi:i<(FdC x).length:=(List.getElem?_eq_some_iff.1 hc).1;rw[List.flatMap_cons,Nat.zero_mul,Nat.zero_add,List.getElem?_append_left hi];exact hc
 | x :: r,k+1,f,h=>by
  intro i c hc;have hl:(FdC x).length=7:=rfl;rw[List.flatMap_cons,List.getElem?_append_right (by rw[hl];omega),hl];have:=flat_at7 r k f (by simpa using h) i c hc;rw[←this]
  congr 1
  omega
theorem OwnFd.slS{w:World} {base:Nat} {e:TypeId} {v:Value} {fs:List Fd} (h:OwnFd w base e v fs) (hd:∀f∈fs,f.drive≤1048576):SlS 7 FdK w (Fr base w.heap.size) v fs:=by
 have h1:w.ownsRow base e 7 v fs.length (fs.flatMap FdC):=h
 have hc:=fun g=>h1.cells (g:=g)
 have hlt:=h1.lt;rcases h1.2 with ⟨rfl,h0⟩ | ⟨g,cap,cur,rfl,_,_,h2,h3,_⟩
 ·unfold SlS;rw[h0];exact Row.nil _ _ _
 ·refine⟨_,cap,rfl,h2,Nat.le_trans h2 h3,fun _=>⟨g,0,rfl,hlt g rfl,fun k f hf=>⟨FdC f,rfl,fun i c hi=>?_,rfl,hd f (List.mem_of_getElem? hf)⟩⟩⟩
  have e1:∀j,(⟨g,0,none⟩:Addr).add j=⟨g,0+j,none⟩:=fun j=>by unfold Addr.add;split <;> simp_all
  rw[Nat.add_assoc,←e1];exact hc g rfl _ _ (flat_at7 fs k f hf i c hi)
theorem piecesTo_drive(r:Re) (d:Nat):∀f∈piecesTo r d,f.drive<d:=by
 intro f hf;simp only[piecesTo,List.mem_flatMap,List.mem_range] at hf;obtain⟨k,hk,hm⟩:=hf;unfold drvP at hm;rw[List.mem_filterMap] at hm;obtain⟨s,-,hs⟩:=hm
 cases hg:goodP r.acks s with
 | none=>rw[hg] at hs;cases hs
 | some p=>rw[hg] at hs;simp at hs;rw[←hs];exact hk
def srcB(r:Re) (v f s:Int) (on:Bool) (x:Fd):Bool:=isB x.p v f s&&(!on||onB r x.drive)
def srcI(r:Re) (l:List Fd) (v f s:Int) (on:Bool):Int:=match l.findIdx? (srcB r v f s on) with | some i=>(i:Int) | none => -1
theorem seven{cs:List Value} {f:Fd} {w:World} {b o:Nat} (h:∀i c,cs[i]?=some c→w.cell? ⟨b,o+i,none⟩=some c) (e:cs=FdC f) :
  w.cell? ⟨b,o,none⟩=some (.int .i64 (f.drive:Int))∧w.cell? ⟨b,o+1,none⟩=some (.int .i64 f.p.vol)∧w.cell? ⟨b,o+2,none⟩=some (.int .i64 f.p.frag)∧w.cell? ⟨b,o+3,none⟩=some (.int .i64 f.p.stripe)∧w.cell? ⟨b,o+4,none⟩=some (.int .i64 f.p.gen)∧w.cell? ⟨b,o+5,none⟩=some (.int .i64 f.p.ver)∧w.cell? ⟨b,o+6,none⟩=some (.string ⟨f.p.data.toArray⟩):=by
 subst e;exact⟨h 0 _ rfl,h 1 _ rfl,h 2 _ rfl,h 3 _ rfl,h 4 _ rfl,h 5 _ rfl,h 6 _ rfl⟩

def OwnI(w:World) (base:Nat) (v:Value) (xs:List Int):Prop:=w.ownsRow base 3 1 v xs.length (xs.map (Value.int .i64))
theorem OwnI.nil(w:World) (base:Nat):OwnI w base (.slice none 0 0) []:=World.ownsRow_nil _ _ _ _
theorem OwnI.base{w:World} {B B':Nat} {v:Value} {xs:List Int} (h:OwnI w B v xs) (hB:B'≤B):OwnI w B' v xs:=own_base h hB
theorem OwnI.intS{w:World} {base:Nat} {v:Value} {xs:List Int} (h:OwnI w base v xs) (hx:∀x∈xs,I64 x):IntS w (Fr base w.heap.size) v xs :=
 IntS.own h (fun b hb=>h.lt b hb) hx
theorem OwnI.lt{w:World} {base:Nat} {v:Value} {xs:List Int} (h:OwnI w base v xs):∀b,v.ownBlock=some b→base≤b∧b<w.heap.size:=World.ownsRow.lt h
theorem OwnI.form{w:World} {base:Nat} {v:Value} {xs:List Int} (h:OwnI w base v xs):∃A c,v=.slice A xs.length c:=own_form h
theorem info_int2:(Tryz.prog.info? 3).map (fun i=>(i.zero,i.size,i.bytes))=some (some (.int .i64 0),1,8):=by kernel_rfl
theorem app_i{ops:Array Oper} {rest:List Oper} {o:Oper} {a:Act} {Q:Exit→Act→World→Prop} {w:World} (x0:Int) (s x:Operand) (hgd:o.guard=none) (ho:o.op=.call { callee:=.builtin .append,args:=#[s,x],argTypes:=#[22,22] })
  (base:Nat) (v:Value) (n:Nat) (xs:List Int) (hl:xs.length=n) (hs:a.eval s=v) (hown:w.ownsRow base 3 1 v n (xs.map (Value.int .i64)))
  (hx:a.eval x=.slice (some ⟨w.heap.size,0,none⟩) 1 1) (hn:n+1≤16777216) (hbase:base≤w.heap.size)
  (h:∀v' w',OwnI w' base v' (xs++[x0])→w.grownBy w' v.ownBlock→(v'.ownBlock=v.ownBlock∨v'.ownBlock=some (w.heap.size+1))→wpList Tryz.prog ops Q rest (a.put o.dst v') w') :
  wpList Tryz.prog ops Q (o :: rest) a (w.alloc (.cells #[.int .i64 x0] 3)):=by
 obtain⟨i0,hi0,hz0,hz1,hz2⟩:=info_parts info_int2;refine wpList_append1 hgd s x _ ho base i0 _ 1 8 Tryz.underlying22 hi0 hz0 hz1 hz2 rfl (by omega) (by omega) v n _ hs hown hx rfl (by simp;rfl) hn hbase (fun v' w' h1=>h v' w' ?_);unfold OwnI;rw[List.length_append,hl,List.map_append];exact h1
def intTo(r:Re) (l:List Fd) (v s:Int) (on:Bool) (j:Nat):List Int:=(List.range j).filterMap fun i:Nat=>if 0≤srcI r l v (i:Int) s on then some (i:Int) else none
theorem intTo_succ(r:Re) (l:List Fd) (v s:Int) (on:Bool) (j:Nat):intTo r l v s on (j+1)=intTo r l v s on j++(if 0≤srcI r l v (j:Int) s on then [(j:Int)] else []):=by
 unfold intTo;rw[List.range_succ,List.filterMap_append]
 congr 1
 by_cases h:0≤srcI r l v (j:Int) s on <;> simp[h]
theorem OwnFd.slBl{w:World} {base:Nat} {e:TypeId} {v:Value} {fs:List Fd} (h:OwnFd w base e v fs) (hd:∀f∈fs,f.drive≤1048576):SlS 7 FdK w (Bl w.heap.size) v fs:=SlS.mono fdK (h.slS hd) (fun _ hb=>hb.2)
def intI(r:Re) (v s:Int) (on:Bool):List Int:=intTo r (pieces r) v s on 8
theorem pieces_drive(r:Re) (hp:r.plat.length≤1048576):∀f∈pieces r,f.drive≤1048576:=fun f hf=>by have:=piecesTo_drive r _ f hf;omega
def gStep(v f s:Int) (acc:List Int) (x:Fd):List Int:=if isB x.p v f s=true∧acc.getLast?≠some (x.drive:Int) then acc++[(x.drive:Int)] else acc
def goodTo(v f s:Int) (l:List Fd):List Int:=l.foldl (gStep v f s) []
def goodI(r:Re) (v f s:Int):List Int:=goodTo v f s (pieces r)
theorem gStep_off{v f s:Int} {acc:List Int} {x:Fd} (h:isB x.p v f s=false):gStep v f s acc x=acc:=by unfold gStep;rw[if_neg (fun h2=>by rw[h] at h2;cases h2.1)]
theorem gStep_new{v f s:Int} {acc:List Int} {x:Fd} (h:isB x.p v f s=true) (h2:acc.getLast?≠some (x.drive:Int)):gStep v f s acc x=acc++[(x.drive:Int)]:=by unfold gStep;rw[if_pos ⟨h,h2⟩]
theorem gStep_length(v f s:Int) (acc:List Int) (x:Fd):(gStep v f s acc x).length≤acc.length+1:=by unfold gStep;split <;> simp
theorem goodTo_length(v f s:Int) (l:List Fd):(goodTo v f s l).length≤l.length:=by
 have:∀(l:List Fd) (acc:List Int),(l.foldl (gStep v f s) acc).length≤acc.length+l.length:=by
  intro l
  induction l with
  | nil=>intro acc;simp
  | cons x l ih =>
   intro acc;have h1:=ih (gStep v f s acc x);have h2:=gStep_length v f s acc x;simp only[List.foldl_cons,List.length_cons];omega
 simpa[goodTo] using this l []
theorem goodTo_mem(v f s:Int) (l:List Fd):∀y∈goodTo v f s l,∃x∈l,y=(x.drive:Int):=by
 have:∀(l:List Fd) (acc:List Int),∀y∈l.foldl (gStep v f s) acc,y∈acc∨∃x∈l,y=(x.drive:Int):=by
  intro l
  induction l with
  | nil=>intro acc y hy;exact .inl hy
  | cons x l ih =>
   intro acc y hy;rcases ih _ y hy with h | ⟨z,hz,e⟩
   ·unfold gStep at h;split at h
    ·rcases List.mem_append.1 h with h | h
     ·exact .inl h
     ·exact .inr ⟨x,by simp,by simpa using h⟩
    ·exact .inl h
   ·exact .inr ⟨z,List.mem_cons_of_mem _ hz,e⟩
 intro y hy;rcases this l [] y hy with h | h
 ·cases h
 ·exact h
end Go.Proofs.YtcfkllnpkmebpaaGreatDoor
