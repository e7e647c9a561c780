/- The reference's sector.Decode, walked. -/
import Derived.Test.YtcfkllnpkmebpaaGreatDoorMp02
import Derived.StillTailTactics
import Derived.Test.YtcfkllnpkmebpaaGreatDoorMp01
import Derived.Lib.BufferWrite
import Derived.RegionTactic
set_option maxRecDepth 100000
set_option maxHeartbeats 12800000
namespace Go.Proofs.YtcfkllnpkmebpaaGreatDoor
open Go.RowKit
set_option linter.unusedVariables false
set_option linter.unusedSimpArgs false
def decP(l:List UInt8):Pc:=⟨((l.getD 1 0).toNat:Int),((l.getD 2 0).toNat:Int),((l.getD 3 0).toNat:Int),(num ((l.drop 4).take 5):Int),(num ((l.drop 9).take 5):Int),(l.drop 16).take 16⟩
def decEr(l:List UInt8):Int :=
 if l.length≠36 then 101 else if l=List.replicate 36 0 then 102 else if sealB (l.take 32)≠l then 103 else if validP (decP l)=true∧encB (decP l)=l then 0 else 104
def decPc(l:List UInt8):Pc:=if decEr l=0 then decP l else⟨0,0,0,0,0,[]⟩
theorem PcV_zero:PcV ⟨0,0,0,0,0,[]⟩=.agg #[.int .i64 0,.int .i64 0,.int .i64 0,.int .i64 0,.int .i64 0,.string ⟨#[]⟩]:=rfl
theorem decEr_len{l:List UInt8} (h:l.length≠36):decEr l=101:=by unfold decEr;rw[if_pos h]
theorem decEr_blank{l:List UInt8} (h:l.length=36) (h2:l=List.replicate 36 0):decEr l=102:=by unfold decEr;rw[if_neg (by simp[h]),if_pos h2]
theorem decEr_sum{l:List UInt8} (h:l.length=36) (h2:l≠List.replicate 36 0) (h3:sealB (l.take 32)≠l):decEr l=103:=by unfold decEr;rw[if_neg (by simp[h]),if_neg h2,if_pos h3]
theorem decEr_form{l:List UInt8} (h:l.length=36) (h2:l≠List.replicate 36 0) (h3:sealB (l.take 32)=l) (h4:¬(validP (decP l)=true∧encB (decP l)=l)):decEr l=104:=by unfold decEr;rw[if_neg (by simp[h]),if_neg h2,if_neg (by simp[h3]),if_neg h4]
theorem decEr_ok{l:List UInt8} (h:l.length=36) (h2:l≠List.replicate 36 0) (h3:sealB (l.take 32)=l) (h4:validP (decP l)=true∧encB (decP l)=l):decEr l=0:=by unfold decEr;rw[if_neg (by simp[h]),if_neg h2,if_neg (by simp[h3]),if_pos h4]
theorem decPc_bad{l:List UInt8} (h:decEr l≠0):decPc l=⟨0,0,0,0,0,[]⟩:=if_neg h
theorem decPc_ok{l:List UInt8} (h:decEr l=0):decPc l=decP l:=if_pos h
theorem decP_in(l:List UInt8) (h:l.length=36):PcI (decP l)∧(decP l).data.length=16:=by
 have h1:=num_lt ((l.drop 4).take 5);have h2:=num_lt ((l.drop 9).take 5)
 have e1:((l.drop 4).take 5).length=5:=by rw[List.length_take,List.length_drop];omega
 have e2:((l.drop 9).take 5).length=5:=by rw[List.length_take,List.length_drop];omega
 rw[e1] at h1;rw[e2] at h2
 have e3:((l.drop 16).take 16).length=16:=by rw[List.length_take,List.length_drop];omega
 have b1:=(l.getD 1 0).toNat_lt;have b2:=(l.getD 2 0).toNat_lt;have b3:=(l.getD 3 0).toNat_lt;refine⟨⟨?_,?_,?_,?_,?_,?_⟩,e3⟩
 all_goals (unfold decP;simp only)
 ·unfold I64;omega
 ·unfold I64;omega
 ·unfold I64;omega
 ·unfold I64;omega
 ·unfold I64;omega
 ·rw[e3];unfold maxLen;omega
theorem blank_any(w:World):Calls Tryz.prog 31 #[] w fun e w'=>e=.returned (.string ⟨(List.replicate 36 (0:UInt8)).toArray⟩)∧Below w.heap.size w w':=by
 have hmk:∀w:World,(Instr.makeSlice 53 (.int .i64 36) (.int .i64 36)).run Tryz.prog w=.ok (.slice (some ⟨w.heap.size,0,none⟩) 36 36) (w.alloc (.cells (Array.replicate 36 (.int .u8 0)) 5)):=mk_u8 36 (by omega);have hB:=BlkB.new w 36;have hcv:=conv_bytes ((hB.byS (c:=36) (by simp) (by unfold maxLen;simp) (R:=fun _=>True) trivial));have hb:Below w.heap.size w (w.alloc (.cells (Array.replicate 36 (.int .u8 0)) 5)):=(Below.refl _ _).alloc (Nat.le_refl _) _;rw[List.length_replicate] at hcv;have HB:=zh hb;clear hb hB;obtain⟨z,hz⟩:∃z:ByteArray,z=⟨(List.replicate 36 (0:UInt8)).toArray⟩:=⟨_,rfl⟩;obtain⟨W,hW⟩:=zx (w.alloc (.cells (Array.replicate 36 (.int .u8 0)) 5));rw[←hz,←hW] at hcv;rw[←hW] at HB;rw[←hz];have hmk1:=hmk w;rw[←hW] at hmk1;clear hz hW hmk;go_enter Tryz.func31,Tryz.ntmps31;go_wp2;go_ret;exact⟨rfl,HB.out⟩
theorem str_eq(s:ByteArray) (l:List UInt8):(s=⟨l.toArray⟩)↔s.data.toList=l:=by
 constructor
 ·intro h;rw[h]
 ·intro h;rw[←h]
theorem ext_list(s:ByteArray) (i j:Nat) (h:j≤s.size):(s.extract i j).data.toList=(s.data.toList.drop i).take (j - i):=by
 simp[ByteArray.data_extract,List.take_drop]
theorem below6{B:Nat} {a w1:World} (h:Below B a w1) {g:Nat} (hg:B≤g) (v0 v1 v2 v3 v4 v5:Value) :
  Below B a ((((((w1.setCell ⟨g,0,none⟩ v0).setCell ⟨g,1,none⟩ v1).setCell ⟨g,2,none⟩ v2).setCell ⟨g,3,none⟩ v3).setCell ⟨g,4,none⟩ v4).setCell ⟨g,5,none⟩ v5) :=
 (((((h.setCell hg _).setCell hg _).setCell hg _).setCell hg _).setCell hg _).setCell hg _
theorem seq_yes{s z:ByteArray} (h:s=z):(s.toList==z.toList)=true:=by rw[beq_iff_eq,h]
theorem seq_no{s z:ByteArray} (h:s≠z):(s.toList==z.toList)=false:=by
 rw[beq_eq_false_iff_ne];intro e;rw[ByteArray.toList_eq,ByteArray.toList_eq] at e;exact h (Go.WideShapes.bytes_inj e)
theorem lst_yes{s:ByteArray} {l:List UInt8} (h:l=s.data.toList):(l==s.toList)=true:=by rw[beq_iff_eq,ByteArray.toList_eq,h]
theorem lst_no{s:ByteArray} {l:List UInt8} (h:l≠s.data.toList):(l==s.toList)=false:=by rw[beq_eq_false_iff_ne,ByteArray.toList_eq];exact h
theorem refsdec_any(s:ByteArray) (w:World) (hs:s.size≤maxLen) :
  Calls Tryz.prog 93 #[.string s] w fun e w'=>e=.returned (.tuple #[PcV (decPc s.data.toList),.int .i64 (decEr s.data.toList)])∧Below w.heap.size w w':=by
 unfold maxLen at hs;have hsl:s.data.toList.length=s.size:=Array.length_toList;have hbx:Below w.heap.size w (w.alloc (.cells #[.int .i64 0,.int .i64 0,.int .i64 0,.int .i64 0,.int .i64 0,.string ⟨#[]⟩] 94)):=(Below.refl _ _).alloc (Nat.le_refl _) _;have HBX:=zh hbx;clear hbx;by_cases h36:s.size=36
 ·have hq:((s.size:Int) != 36)=false:=by rw[h36];rfl
  have HB:=zh blank_any;obtain⟨z,hz⟩:∃z:ByteArray,z=⟨(List.replicate 36 (0:UInt8)).toArray⟩:=⟨_,rfl⟩;rw[←hz] at HB;have HZ:=zh hz;have H36:=zh h36;by_cases hbl:s=z
  ·have hE:=decEr_blank (l:=s.data.toList) (by rw[hsl,h36]) (by rw[hbl,hz]);have hP:=decPc_bad (l:=s.data.toList) (by rw[hE];decide);rw[hE,hP,PcV_zero];have q2:=seq_yes hbl;clear hE hP hbl hz h36 hsl;go_enter Tryz.func93,Tryz.ntmps93;go_wp2_with fail;refine(HB.out _).mono ?_;rintro e w1 ⟨rfl,hb⟩;have hb2:=below_box hb;obtain⟨hc1,hf1⟩:=bcell hb
   have hz1:w.heap.size<w1.heap.size:=by have:=hb.size;simp at this;omega
   go_wp2_with fail;exact bodyPost_ret (v:=.tuple #[.agg #[.int .i64 0,.int .i64 0,.int .i64 0,.int .i64 0,.int .i64 0,.string ⟨#[]⟩],.int .i64 102]) (by simp[results,Tryz.results93,go_sem,hc1,hz1]) rfl ⟨rfl,below6 hb2 (Nat.le_refl _) _ _ _ _ _ _⟩
  ·have q2:=seq_no hbl
   have hbl2:s.data.toList≠List.replicate 36 0:=fun h=>hbl (by rw[hz];exact(str_eq s _).2 h)
   have h32:(32:Int)≤(s.size:Int):=by omega
   have he:(s.extract 0 32).data.toList=s.data.toList.take 32:=by rw[ext_list s 0 32 (by omega)];simp
   have hes:(s.extract 0 32).size≤65536:=by
    show(s.extract 0 32).data.size≤_
    rw[←Array.length_toList,he,List.length_take];omega
   have HS:=zh (fun w=>sealed_str (s.extract 0 32) w hes);rw[he] at HS;by_cases hsum:sealB (s.data.toList.take 32)=s.data.toList
   ·have q3:=lst_yes hsum;have hn1:(s.extract 4 9).data.toList=(s.data.toList.drop 4).take 5:=ext_list s 4 9 (by omega);have hn2:(s.extract 9 14).data.toList=(s.data.toList.drop 9).take 5:=ext_list s 9 14 (by omega);have hn3:(s.extract 16 32).data.toList=(s.data.toList.drop 16).take 16:=ext_list s 16 32 (by omega)
    have hz5:∀i j,j≤s.size→(s.extract i j).size≤j - i:=fun i j h=>by
     show(s.extract i j).data.size≤_
     rw[←Array.length_toList,ext_list s i j h,List.length_take];omega
    have HN1:=zh (fun w=>number_any (s.extract 4 9) w (Nat.le_trans (hz5 4 9 (by omega)) (by omega)));have HN2:=zh (fun w=>number_any (s.extract 9 14) w (Nat.le_trans (hz5 9 14 (by omega)) (by omega)));rw[hn1] at HN1;rw[hn2] at HN2;have hpi:=decP_in s.data.toList (by rw[hsl,h36]);have HPI:=zh hpi
    have j1:1<s.size:=by omega
    have j2:2<s.size:=by omega
    have j3:3<s.size:=by omega
    have hpv:Value.agg #[.int .i64 ((s[1]'j1).toNat:Int),.int .i64 ((s[2]'j2).toNat:Int),.int .i64 ((s[3]'j3).toNat:Int),.int .i64 (num ((s.data.toList.drop 4).take 5):Int),.int .i64 (num ((s.data.toList.drop 9).take 5):Int),.string (s.extract 16 32)]=PcV (decP s.data.toList):=by
     have g:∀k (h:k<s.size),s[k]=s.data.toList.getD k 0:=fun k h=>by
      rw[getD_lt _ _ (by rw[hsl];exact h)];rfl
     unfold PcV decP;simp only;rw[g 1,g 2,g 3,←hn3,←(str_eq (s.extract 16 32) _).2 rfl]
    have HPV:=zh hpv;have HENC:=zh (fun w=>refsenc_any (decP s.data.toList) w hpi.1 (by rw[hpi.2];omega));rw[←hpv] at HENC;obtain⟨es,hes1⟩:=zx (encS (decP s.data.toList));obtain⟨ee,hee1⟩:=zx (encE (decP s.data.toList));rw[←hes1,←hee1] at HENC;have HES:=zh hes1;have HEE:=zh hee1;have HS3:=zh hn3;have HBL:=zh hbl2;have HSU:=zh hsum;have HSL:=zh hsl;obtain⟨sl,hsl2⟩:=zx (sealB (s.data.toList.take 32));rw[←hsl2] at q3 HS;clear hbl hz h36 hsl hbl2 he hes hsum hn1 hn2 hn3 hz5 hpi hsl2 hpv hes1 hee1;go_enter Tryz.func93,Tryz.ntmps93;go_wp2_with fail;refine(HB.out _).mono ?_;rintro e w1 ⟨rfl,hb⟩;have hb2:=below_box hb;obtain⟨hc1,hf1⟩:=bcell hb
    have hz1:w.heap.size<w1.heap.size:=by have:=hb.size;simp at this;omega
    go_wp2_with fail;refine(HS.out _).mono ?_;rintro e w2 ⟨rfl,hb3⟩;obtain⟨hc2,hf2⟩:=bcell hb3
    have hz2:w.heap.size<w2.heap.size:=by have:=hb3.size;omega
    have hb4:=hb2.trans (hb3.mono hb2.size);go_wp2_with fail;have h36':=H36.out
    have u1:∀c:UInt8,IntKind.i64.wrap (c.toNat:Int)=(c.toNat:Int):=fun c=>by have:=c.toNat_lt;rw[IntKind.wrap_i64];omega
    have i1:(1:Int)<(s.size:Int):=by omega
    have i2:(2:Int)<(s.size:Int):=by omega
    have i3:(3:Int)<(s.size:Int):=by omega
    have i9:(9:Int)≤(s.size:Int):=by omega
    have i14:(14:Int)≤(s.size:Int):=by omega
    clear h36';refine wp_region_held_drew (S:=(fun _=>True)) (by kernel_rfl) trivial (fun hHeld=>?_);refine tkd 0 _ ?_;refine tkd 1 _ ?_;refine tkd 2 _ ?_;refine tkd 3 _ ?_;refine tkd 4 _ ?_;refine tkd 5 _ ?_;refine tkd 6 _ ?_;refine tkd 7 _ ?_;refine tkd 8 _ ?_;refine tkd 9 _ ?_;refine tkd 10 _ ?_;refine tkd 12 _ ?_;refine tkd 13 _ ?_;refine tkd 15 _ ?_;refine tkd 16 _ ?_;refine wpAnyH_ready (rs:=[11,18]) (by kernel_rfl) (by simp) ?_;refine AllReadyH.cons rfl (fun K hK=>?_) ?_
    ·go_simp
     (go_at_call_of 134 (Value.string (s.extract 4 9));refine(HN1.out _).mono ?_;rintro e w3 ⟨rfl,rfl⟩)
     go_wp2_with fail;refine hK.out _ _ ?_ (fun hHeld=>?_)
     ·trivial
     clear hK K;(try simp only[Act.put,z1,z2,z3]);refine wpAnyH_ready (rs:=[14,18]) (by kernel_rfl) (by simp) ?_;refine AllReadyH.cons rfl (fun K hK=>?_) ?_
     ·go_simp
      (go_at_call_of 134 (Value.string (s.extract 9 14));refine(HN2.out _).mono ?_;rintro e w3 ⟨rfl,rfl⟩)
      go_wp2_with fail;refine hK.out _ _ ?_ (fun hHeld=>?_)
      ·trivial
      clear hK K;(try simp only[Act.put,z1,z2,z3]);refine tkd 17 _ ?_;refine wpAnyH_ready (rs:=[18]) (by kernel_rfl) (by simp) ?_;refine AllReadyH.cons rfl (fun K hK=>?_) ?_
      ·go_simp;refine hK.out _ _ ?_ (fun hHeld=>?_)
       ·trivial
       clear hK K;(try simp only[Act.put,z1,z2,z3]);refine wpAnyH_ready (rs:=[19]) (by kernel_rfl) (by simp) ?_;refine AllReadyH.cons rfl (fun K hK=>?_) ?_
       ·go_simp;refine hK.out _ _ ?_ (fun hHeld=>?_)
        ·trivial
        clear hK K;(try simp only[Act.put,z1,z2,z3]);refine wpAnyH_done (by kernel_rfl) ?_ _;go_wp2_with fail;refine(HENC.out _).mono ?_;rintro e w9 ⟨rfl,hb9⟩;have hbq:Below w.heap.size w w9:=hb4.trans ((below_boxd hb9).mono hb4.size);obtain⟨hc9,hf9⟩:=bcell hb9
        have hz9:w2.heap.size<w9.heap.size:=by have:=hb9.size;simp at this;omega
        have hz10:w.heap.size<w2.heap.size+1:=by omega
        have hz11:w.heap.size<w9.heap.size:=by omega
        have hzne:w.heap.size≠w2.heap.size:=by omega
        by_cases hok:validP (decP s.data.toList)=true∧encB (decP s.data.toList)=s.data.toList
        ·have hE:=decEr_ok (l:=s.data.toList) (by rw[HSL.out];exact H36.out) HBL.out HSU.out hok;have hP:=decPc_ok hE
         have e1:es=encB (decP s.data.toList):=by rw[HES.out];unfold encS;rw[if_pos hok.1]
         have e2:ee=0:=by rw[HEE.out];unfold encE;rw[if_pos hok.1]
         have q4:=lst_yes (e1.trans hok.2);have HE:=zh hE;have HP:=zh hP;subst e2;clear hE hP e1 hok;go_wp2_with fail;exact bodyPost_ret (v:=.tuple #[.agg #[.int .i64 ((s[1]'j1).toNat:Int),.int .i64 ((s[2]'j2).toNat:Int),.int .i64 ((s[3]'j3).toNat:Int),.int .i64 (num ((s.data.toList.drop 4).take 5):Int),.int .i64 (num ((s.data.toList.drop 9).take 5):Int),.string (s.extract 16 32)],.int .i64 0]) (by simp[results,Tryz.results93,go_sem,hc1,hz1,hc2,hz2,hc9,hz9,hz10,hz11,hzne]) rfl ⟨by rw[HE.out,HP.out,HPV.out],below6 hbq (Nat.le_refl _) _ _ _ _ _ _⟩
        ·have hE:=decEr_form (l:=s.data.toList) (by rw[HSL.out];exact H36.out) HBL.out HSU.out hok;have hP:=decPc_bad (l:=s.data.toList) (by rw[hE];decide);have HE:=zh hE;have HP:=zh hP;by_cases hv:validP (decP s.data.toList)=true
         ·have e1:es=encB (decP s.data.toList):=by rw[HES.out];unfold encS;rw[if_pos hv]
          have e2:ee=0:=by rw[HEE.out];unfold encE;rw[if_pos hv]
          have q4:=lst_no (fun h=>hok ⟨hv,e1.symm.trans h⟩);subst e2;clear hE hP e1 hok;go_wp2_with fail;exact bodyPost_ret (v:=.tuple #[.agg #[.int .i64 0,.int .i64 0,.int .i64 0,.int .i64 0,.int .i64 0,.string ⟨#[]⟩],.int .i64 104]) (by simp[results,Tryz.results93,go_sem,hc1,hz1,hc2,hz2,hc9,hz9,hz10,hz11,hzne]) rfl ⟨by rw[HE.out,HP.out,PcV_zero],below6 hbq (Nat.le_refl _) _ _ _ _ _ _⟩
         ·have e2:ee=100:=by rw[HEE.out];unfold encE;rw[if_neg hv]
          subst e2;clear hE hP hok;go_wp2_with fail;exact bodyPost_ret (v:=.tuple #[.agg #[.int .i64 0,.int .i64 0,.int .i64 0,.int .i64 0,.int .i64 0,.string ⟨#[]⟩],.int .i64 104]) (by simp[results,Tryz.results93,go_sem,hc1,hz1,hc2,hz2,hc9,hz9,hz10,hz11,hzne]) rfl ⟨by rw[HE.out,HP.out,PcV_zero],below6 hbq (Nat.le_refl _) _ _ _ _ _ _⟩
       exact AllReadyH.nil
      exact AllReadyH.nil
     refine AllReadyH.cons rfl (fun K hK=>?_) ?_
     ·go_simp;refine hK.out _ _ ?_ (fun hHeld=>?_)
      ·trivial
      clear hK K;(try simp only[Act.put,z1,z2,z3]);refine wpAnyH_ready (rs:=[14]) (by kernel_rfl) (by simp) ?_;refine AllReadyH.cons rfl (fun K hK=>?_) ?_
      ·go_simp
       (go_at_call_of 134 (Value.string (s.extract 9 14));refine(HN2.out _).mono ?_;rintro e w3 ⟨rfl,rfl⟩)
       go_wp2_with fail;refine hK.out _ _ ?_ (fun hHeld=>?_)
       ·trivial
       clear hK K;(try simp only[Act.put,z1,z2,z3]);refine tkd 17 _ ?_;refine wpAnyH_ready (rs:=[19]) (by kernel_rfl) (by simp) ?_;refine AllReadyH.cons rfl (fun K hK=>?_) ?_
       ·go_simp;refine hK.out _ _ ?_ (fun hHeld=>?_)
        ·trivial
        clear hK K;(try simp only[Act.put,z1,z2,z3]);refine wpAnyH_done (by kernel_rfl) ?_ _;go_wp2_with fail;refine(HENC.out _).mono ?_;rintro e w9 ⟨rfl,hb9⟩;have hbq:Below w.heap.size w w9:=hb4.trans ((below_boxd hb9).mono hb4.size);obtain⟨hc9,hf9⟩:=bcell hb9
        have hz9:w2.heap.size<w9.heap.size:=by have:=hb9.size;simp at this;omega
        have hz10:w.heap.size<w2.heap.size+1:=by omega
        have hz11:w.heap.size<w9.heap.size:=by omega
        have hzne:w.heap.size≠w2.heap.size:=by omega
        by_cases hok:validP (decP s.data.toList)=true∧encB (decP s.data.toList)=s.data.toList
        ·have hE:=decEr_ok (l:=s.data.toList) (by rw[HSL.out];exact H36.out) HBL.out HSU.out hok;have hP:=decPc_ok hE
         have e1:es=encB (decP s.data.toList):=by rw[HES.out];unfold encS;rw[if_pos hok.1]
         have e2:ee=0:=by rw[HEE.out];unfold encE;rw[if_pos hok.1]
         have q4:=lst_yes (e1.trans hok.2);have HE:=zh hE;have HP:=zh hP;subst e2;clear hE hP e1 hok;go_wp2_with fail;exact bodyPost_ret (v:=.tuple #[.agg #[.int .i64 ((s[1]'j1).toNat:Int),.int .i64 ((s[2]'j2).toNat:Int),.int .i64 ((s[3]'j3).toNat:Int),.int .i64 (num ((s.data.toList.drop 4).take 5):Int),.int .i64 (num ((s.data.toList.drop 9).take 5):Int),.string (s.extract 16 32)],.int .i64 0]) (by simp[results,Tryz.results93,go_sem,hc1,hz1,hc2,hz2,hc9,hz9,hz10,hz11,hzne]) rfl ⟨by rw[HE.out,HP.out,HPV.out],below6 hbq (Nat.le_refl _) _ _ _ _ _ _⟩
        ·have hE:=decEr_form (l:=s.data.toList) (by rw[HSL.out];exact H36.out) HBL.out HSU.out hok;have hP:=decPc_bad (l:=s.data.toList) (by rw[hE];decide);have HE:=zh hE;have HP:=zh hP;by_cases hv:validP (decP s.data.toList)=true
         ·have e1:es=encB (decP s.data.toList):=by rw[HES.out];unfold encS;rw[if_pos hv]
          have e2:ee=0:=by rw[HEE.out];unfold encE;rw[if_pos hv]
          have q4:=lst_no (fun h=>hok ⟨hv,e1.symm.trans h⟩);subst e2;clear hE hP e1 hok;go_wp2_with fail;exact bodyPost_ret (v:=.tuple #[.agg #[.int .i64 0,.int .i64 0,.int .i64 0,.int .i64 0,.int .i64 0,.string ⟨#[]⟩],.int .i64 104]) (by simp[results,Tryz.results93,go_sem,hc1,hz1,hc2,hz2,hc9,hz9,hz10,hz11,hzne]) rfl ⟨by rw[HE.out,HP.out,PcV_zero],below6 hbq (Nat.le_refl _) _ _ _ _ _ _⟩
         ·have e2:ee=100:=by rw[HEE.out];unfold encE;rw[if_neg hv]
          subst e2;clear hE hP hok;go_wp2_with fail;exact bodyPost_ret (v:=.tuple #[.agg #[.int .i64 0,.int .i64 0,.int .i64 0,.int .i64 0,.int .i64 0,.string ⟨#[]⟩],.int .i64 104]) (by simp[results,Tryz.results93,go_sem,hc1,hz1,hc2,hz2,hc9,hz9,hz10,hz11,hzne]) rfl ⟨by rw[HE.out,HP.out,PcV_zero],below6 hbq (Nat.le_refl _) _ _ _ _ _ _⟩
       exact AllReadyH.nil
      exact AllReadyH.nil
     exact AllReadyH.nil
    refine AllReadyH.cons rfl (fun K hK=>?_) ?_
    ·go_simp;refine hK.out _ _ ?_ (fun hHeld=>?_)
     ·trivial
     clear hK K;(try simp only[Act.put,z1,z2,z3]);refine wpAnyH_ready (rs:=[11]) (by kernel_rfl) (by simp) ?_;refine AllReadyH.cons rfl (fun K hK=>?_) ?_
     ·go_simp
      (go_at_call_of 134 (Value.string (s.extract 4 9));refine(HN1.out _).mono ?_;rintro e w3 ⟨rfl,rfl⟩)
      go_wp2_with fail;refine hK.out _ _ ?_ (fun hHeld=>?_)
      ·trivial
      clear hK K;(try simp only[Act.put,z1,z2,z3]);refine wpAnyH_ready (rs:=[14]) (by kernel_rfl) (by simp) ?_;refine AllReadyH.cons rfl (fun K hK=>?_) ?_
      ·go_simp
       (go_at_call_of 134 (Value.string (s.extract 9 14));refine(HN2.out _).mono ?_;rintro e w3 ⟨rfl,rfl⟩)
       go_wp2_with fail;refine hK.out _ _ ?_ (fun hHeld=>?_)
       ·trivial
       clear hK K;(try simp only[Act.put,z1,z2,z3]);refine tkd 17 _ ?_;refine wpAnyH_ready (rs:=[19]) (by kernel_rfl) (by simp) ?_;refine AllReadyH.cons rfl (fun K hK=>?_) ?_
       ·go_simp;refine hK.out _ _ ?_ (fun hHeld=>?_)
        ·trivial
        clear hK K;(try simp only[Act.put,z1,z2,z3]);refine wpAnyH_done (by kernel_rfl) ?_ _;go_wp2_with fail;refine(HENC.out _).mono ?_;rintro e w9 ⟨rfl,hb9⟩;have hbq:Below w.heap.size w w9:=hb4.trans ((below_boxd hb9).mono hb4.size);obtain⟨hc9,hf9⟩:=bcell hb9
        have hz9:w2.heap.size<w9.heap.size:=by have:=hb9.size;simp at this;omega
        have hz10:w.heap.size<w2.heap.size+1:=by omega
        have hz11:w.heap.size<w9.heap.size:=by omega
        have hzne:w.heap.size≠w2.heap.size:=by omega
        by_cases hok:validP (decP s.data.toList)=true∧encB (decP s.data.toList)=s.data.toList
        ·have hE:=decEr_ok (l:=s.data.toList) (by rw[HSL.out];exact H36.out) HBL.out HSU.out hok;have hP:=decPc_ok hE
         have e1:es=encB (decP s.data.toList):=by rw[HES.out];unfold encS;rw[if_pos hok.1]
         have e2:ee=0:=by rw[HEE.out];unfold encE;rw[if_pos hok.1]
         have q4:=lst_yes (e1.trans hok.2);have HE:=zh hE;have HP:=zh hP;subst e2;clear hE hP e1 hok;go_wp2_with fail;exact bodyPost_ret (v:=.tuple #[.agg #[.int .i64 ((s[1]'j1).toNat:Int),.int .i64 ((s[2]'j2).toNat:Int),.int .i64 ((s[3]'j3).toNat:Int),.int .i64 (num ((s.data.toList.drop 4).take 5):Int),.int .i64 (num ((s.data.toList.drop 9).take 5):Int),.string (s.extract 16 32)],.int .i64 0]) (by simp[results,Tryz.results93,go_sem,hc1,hz1,hc2,hz2,hc9,hz9,hz10,hz11,hzne]) rfl ⟨by rw[HE.out,HP.out,HPV.out],below6 hbq (Nat.le_refl _) _ _ _ _ _ _⟩
        ·have hE:=decEr_form (l:=s.data.toList) (by rw[HSL.out];exact H36.out) HBL.out HSU.out hok;have hP:=decPc_bad (l:=s.data.toList) (by rw[hE];decide);have HE:=zh hE;have HP:=zh hP;by_cases hv:validP (decP s.data.toList)=true
         ·have e1:es=encB (decP s.data.toList):=by rw[HES.out];unfold encS;rw[if_pos hv]
          have e2:ee=0:=by rw[HEE.out];unfold encE;rw[if_pos hv]
          have q4:=lst_no (fun h=>hok ⟨hv,e1.symm.trans h⟩);subst e2;clear hE hP e1 hok;go_wp2_with fail;exact bodyPost_ret (v:=.tuple #[.agg #[.int .i64 0,.int .i64 0,.int .i64 0,.int .i64 0,.int .i64 0,.string ⟨#[]⟩],.int .i64 104]) (by simp[results,Tryz.results93,go_sem,hc1,hz1,hc2,hz2,hc9,hz9,hz10,hz11,hzne]) rfl ⟨by rw[HE.out,HP.out,PcV_zero],below6 hbq (Nat.le_refl _) _ _ _ _ _ _⟩
         ·have e2:ee=100:=by rw[HEE.out];unfold encE;rw[if_neg hv]
          subst e2;clear hE hP hok;go_wp2_with fail;exact bodyPost_ret (v:=.tuple #[.agg #[.int .i64 0,.int .i64 0,.int .i64 0,.int .i64 0,.int .i64 0,.string ⟨#[]⟩],.int .i64 104]) (by simp[results,Tryz.results93,go_sem,hc1,hz1,hc2,hz2,hc9,hz9,hz10,hz11,hzne]) rfl ⟨by rw[HE.out,HP.out,PcV_zero],below6 hbq (Nat.le_refl _) _ _ _ _ _ _⟩
       exact AllReadyH.nil
      exact AllReadyH.nil
     exact AllReadyH.nil
    exact AllReadyH.nil
   ·have hE:=decEr_sum (l:=s.data.toList) (by rw[hsl,h36]) hbl2 hsum;have hP:=decPc_bad (l:=s.data.toList) (by rw[hE];decide);rw[hE,hP,PcV_zero];have q3:=lst_no hsum;clear hE hP hbl hz h36 hsl hbl2 he hes hsum;generalize sealB (s.data.toList.take 32)=sl at *;go_enter Tryz.func93,Tryz.ntmps93;go_wp2_with fail;refine(HB.out _).mono ?_;rintro e w1 ⟨rfl,hb⟩;have hb2:=below_box hb;obtain⟨hc1,hf1⟩:=bcell hb
    have hz1:w.heap.size<w1.heap.size:=by have:=hb.size;simp at this;omega
    go_wp2_with fail;refine(HS.out _).mono ?_;rintro e w2 ⟨rfl,hb3⟩;obtain⟨hc2,hf2⟩:=bcell hb3
    have hz2:w.heap.size<w2.heap.size:=by have:=hb3.size;omega
    go_wp2_with fail;have hb4:=hb2.trans (hb3.mono hb2.size);exact bodyPost_ret (v:=.tuple #[.agg #[.int .i64 0,.int .i64 0,.int .i64 0,.int .i64 0,.int .i64 0,.string ⟨#[]⟩],.int .i64 103]) (by simp[results,Tryz.results93,go_sem,hc1,hz1,hc2,hz2]) rfl ⟨rfl,below6 hb4 (Nat.le_refl _) _ _ _ _ _ _⟩
 ·have hE:=decEr_len (l:=s.data.toList) (by rw[hsl];exact h36);have hP:=decPc_bad (l:=s.data.toList) (by rw[hE];decide);rw[hE,hP,PcV_zero]
  have hq:((s.size:Int) != 36)=true:=by simp;omega
  clear hE hP h36 hsl;go_enter Tryz.func93,Tryz.ntmps93;go_wp2_with fail;exact bodyPost_ret (v:=.tuple #[.agg #[.int .i64 0,.int .i64 0,.int .i64 0,.int .i64 0,.int .i64 0,.string ⟨#[]⟩],.int .i64 101]) (by simp[results,Tryz.results93,go_sem]) rfl ⟨rfl,HBX.out⟩
def putP(l:List UInt8) (at_ n v j:Nat):List UInt8:=(List.range l.length).map fun p=>if at_+n - j≤p∧p<at_+n then UInt8.ofNat (v / 256 ^ (at_+n - 1 - p)) else l.getD p 0

theorem below_drewL{w w2:World} (h:Below w.drew.heap.size w.drew w2):Below w.heap.size w w2:=⟨h.os,h.tape,h.output,h.size,h.block⟩
def SlAt{α:Type} (size:Nat) (K:World→(Nat→Prop)→List Value→α→Prop) (w:World) (R:Nat→Prop) (es:List α) (b off:Nat):Prop :=
 ∀k a,es[k]?=some a→∃cs,cs.length=size∧(∀i c,cs[i]?=some c→w.cell? ⟨b,off+k * size+i,none⟩=some c)∧K w R cs a
def SlS{α:Type} (size:Nat) (K:World→(Nat→Prop)→List Value→α→Prop) (w:World) (R:Nat→Prop) (v:Value) (es:List α):Prop:=Row R v es.length (SlAt size K w R es)
structure Steady {α:Type} (K:World→(Nat→Prop)→List Value→α→Prop):Prop where
 keep:∀{w w':World} {R:Nat→Prop} {cs:List Value} {a:α},Kept R w w'→K w R cs a→K w' R cs a
 mono:∀{w:World} {R R':Nat→Prop} {cs:List Value} {a:α},(∀b,R b→R' b)→K w R cs a→K w R' cs a
theorem SlS.keep{α:Type} {size:Nat} {K:World→(Nat→Prop)→List Value→α→Prop} (hK:Steady K) {w w':World} {R:Nat→Prop} {v:Value} {es:List α} (h:SlS size K w R v es) (hk:Kept R w w'):SlS size K w' R v es :=
 Row.imp h (fun _ hb=>hb) fun b off hb hc k a ha=>by
  obtain⟨cs,h1,h2,h3⟩:=hc k a ha;exact⟨cs,h1,fun i c hi=>(hk.cell hb).trans (h2 i c hi),hK.keep hk h3⟩
theorem SlS.mono{α:Type} {size:Nat} {K:World→(Nat→Prop)→List Value→α→Prop} (hK:Steady K) {w:World} {R R':Nat→Prop} {v:Value} {es:List α} (h:SlS size K w R v es) (hr:∀b,R b→R' b):SlS size K w R' v es :=
 Row.imp h hr fun b off _ hc k a ha=>by
  obtain⟨cs,h1,h2,h3⟩:=hc k a ha;exact⟨cs,h1,h2,hK.mono hr h3⟩
theorem SlS.below{α:Type} {size:Nat} {K:World→(Nat→Prop)→List Value→α→Prop} (hK:Steady K) {w w':World} {v:Value} {es:List α} (h:SlS size K w (Bl w.heap.size) v es) (hb:Below w.heap.size w w'):SlS size K w' (Bl w'.heap.size) v es :=
 SlS.mono hK (SlS.keep hK h (kept_below hb)) (Bl.mono hb.size)
theorem SlS.form{α:Type} {size:Nat} {K:World→(Nat→Prop)→List Value→α→Prop} {w:World} {R:Nat→Prop} {v:Value} {es:List α} (h:SlS size K w R v es):∃A c,v=.slice A es.length c∧es.length≤c∧es.length≤maxLen:=by
 obtain⟨A',c',e,h1,h2,h3⟩:=h;exact⟨A',c',e,h1,h2⟩
theorem SlS.at_{α:Type} {size:Nat} {K:World→(Nat→Prop)→List Value→α→Prop} {w:World} {R:Nat→Prop} {A:Option Addr} {n c:Nat} {es:List α} (h:SlS size K w R (.slice A n c) es) {k:Nat} (hk:k<es.length) :
  ∃b off cs,A=some ⟨b,off,none⟩∧R b∧cs.length=size∧(∀i c,cs[i]?=some c→w.cell? ⟨b,off+k * size+i,none⟩=some c)∧K w R cs es[k]:=by
 obtain⟨A',c',e,_,_,h3⟩:=h;obtain⟨b,off,e2,hb,hc⟩:=h3 (by omega);obtain⟨cs,g1,g2,g3⟩:=hc k es[k] (List.getElem?_eq_getElem hk);injection e with e;exact⟨b,off,cs,e.trans e2,hb,g1,g2,g3⟩
def StrK(w:World) (R:Nat→Prop) (cs:List Value) (s:ByteArray):Prop:=cs=[.string s]∧s.size≤maxLen
def BoolK(w:World) (R:Nat→Prop) (cs:List Value) (x:Bool):Prop:=cs=[.bool x]
structure Ac where
 vol:Int
 stripe:Int
 ver:Int
 side:Int
def AcK(w:World) (R:Nat→Prop) (cs:List Value) (a:Ac):Prop:=cs=[.int .i64 a.vol,.int .i64 a.stripe,.int .i64 a.ver,.int .i64 a.side]∧I64 a.vol∧I64 a.stripe∧I64 a.ver∧I64 a.side
def DrvK(w:World) (R:Nat→Prop) (cs:List Value) (l:List ByteArray):Prop:=∃v,cs=[v]∧SlS 1 StrK w R v l
theorem strK:Steady StrK:=⟨fun _ h=>h,fun _ h=>h⟩
theorem boolK:Steady BoolK:=⟨fun _ h=>h,fun _ h=>h⟩
theorem acK:Steady AcK:=⟨fun _ h=>h,fun _ h=>h⟩
theorem drvK:Steady DrvK:=⟨fun hk ⟨v,e,h⟩=>⟨v,e,SlS.keep strK h hk⟩,fun hr ⟨v,e,h⟩=>⟨v,e,SlS.mono strK h hr⟩⟩
structure Re where
 plat:List (List ByteArray)
 on:List Bool
 acks:List Ac
def ReS(w:World) (R:Nat→Prop) (vp vo va:Value) (r:Re):Prop:=SlS 1 DrvK w R vp r.plat∧SlS 1 BoolK w R vo r.on∧SlS 4 AcK w R va r.acks
theorem ReS.keep{w w':World} {R:Nat→Prop} {vp vo va:Value} {r:Re} (h:ReS w R vp vo va r) (hk:Kept R w w'):ReS w' R vp vo va r:=⟨SlS.keep drvK h.1 hk,SlS.keep boolK h.2.1 hk,SlS.keep acK h.2.2 hk⟩
theorem ReS.mono{w:World} {R R':Nat→Prop} {vp vo va:Value} {r:Re} (h:ReS w R vp vo va r) (hr:∀b,R b→R' b):ReS w R' vp vo va r:=⟨SlS.mono drvK h.1 hr,SlS.mono boolK h.2.1 hr,SlS.mono acK h.2.2 hr⟩
theorem ReS.below{w w':World} {vp vo va:Value} {r:Re} (h:ReS w (Bl w.heap.size) vp vo va r) (hb:Below w.heap.size w w'):ReS w' (Bl w'.heap.size) vp vo va r:=(h.keep (kept_below hb)).mono (Bl.mono hb.size)
def verOf(l:List Ac) (v s:Int):Option Int:=(l.find? fun a=>a.vol==v&&a.stripe==s).map (·.ver)
theorem verOf_take{l:List Ac} {v s:Int} {j:Nat} (h:verOf (l.take j) v s=none) (hj:j<l.length) (hn:¬(l[j].vol=v∧l[j].stripe=s)):verOf (l.take (j+1)) v s=none:=by
 unfold verOf at h ⊢;rw[Option.map_eq_none_iff] at h ⊢;rw[List.take_succ_eq_append_getElem hj,List.find?_append,h]
 have:(l[j].vol==v&&l[j].stripe==s)=false:=by
  rw[Bool.and_eq_false_iff];by_cases e:l[j].vol=v
  ·exact .inr (by rw[beq_eq_false_iff_ne];exact fun e2=>hn ⟨e,e2⟩)
  ·exact .inl (by rw[beq_eq_false_iff_ne];exact e)
 simp[List.find?,this]
theorem verOf_hit{l:List Ac} {v s:Int} {j:Nat} (h:verOf (l.take j) v s=none) (hj:j<l.length) (h1:l[j].vol=v) (h2:l[j].stripe=s):verOf l v s=some l[j].ver:=by
 unfold verOf at h ⊢;rw[Option.map_eq_none_iff] at h
 have e:l=l.take j++l[j] :: l.drop (j+1):=by rw[←List.drop_eq_getElem_cons hj,List.take_append_drop]
 have ht:(l[j].vol==v&&l[j].stripe==s)=true:=by simp[h1,h2]
 have e2:l.find? (fun a=>a.vol==v&&a.stripe==s)=some l[j]:=by
  have e3:=congrArg (List.find? (fun a:Ac=>a.vol==v&&a.stripe==s)) e;rw[List.find?_append,h] at e3;rw[e3];simp[List.find?,ht]
 rw[e2];rfl
theorem four{cs:List Value} {a b c d:Value} {w:World} {p o:Nat} (h:∀i c,cs[i]?=some c→w.cell? ⟨p,o+i,none⟩=some c) (e:cs=[a,b,c,d]) :
  w.cell? ⟨p,o,none⟩=some a∧w.cell? ⟨p,o+1,none⟩=some b∧w.cell? ⟨p,o+2,none⟩=some c∧w.cell? ⟨p,o+3,none⟩=some d:=by
 subst e;exact⟨h 0 _ rfl,h 1 _ rfl,h 2 _ rfl,h 3 _ rfl⟩
theorem version_any(va:Value) (l:List Ac) (v s:Int) (w:World) (R:Nat→Prop) (ha:SlS 4 AcK w R va l) (hv:I64 v) (hs:I64 s) :
  Calls Tryz.prog 130 #[va,.int .i64 v,.int .i64 s] w fun e w'=>e=.returned (.tuple #[.int .i64 ((verOf l v s).getD 0),.bool (verOf l v s).isSome])∧w=w':=by
 obtain⟨A,c,rfl,-,hm⟩:=ha.form;unfold maxLen at hm;have HA:=zh ha;clear ha hv hs;go_enter Tryz.func130,Tryz.ntmps130;go_wp2_with fail;go_loopg [8] l.length (fun z v8 wr=>w=wr∧∃j:Nat,j≤l.length∧z=l.length - j∧v8=.int .i64 (j:Int)∧Hid (verOf (l.take j) v s=none))
 case atStart=>exact⟨rfl,0,by omega,rfl,rfl,rfl⟩
 case round =>
  obtain⟨rfl,j,hj,rfl,rfl,HN⟩:=hrel;by_cases hlt:j<l.length
  ·obtain⟨b,off,cs,rfl,hR,-,hc,hk,-⟩:=HA.out.at_ hlt;obtain⟨d0,d1,d2,d3⟩:=four hc hk
   have hst:=fun hn=>verOf_take HN.out hlt hn
   have hht:=fun h1 h2=>verOf_hit HN.out hlt h1 h2
   generalize l[j]=x at *;have HST:=zh hst;have HHT:=zh hht;clear hc hk hst hht;by_cases h1:x.vol=v
   ·by_cases h2:x.stripe=s
    ·have hE:=HHT.out h1 h2;have HE:=zh hE
     have q1:(x.vol==v)=true:=by simpa using h1
     have q2:(x.stripe==s)=true:=by simpa using h2
     clear hE h1 h2;go_wp2_with fail;go_ret2;exact⟨by rw[HE.out];rfl,rfl⟩
    ·have q1:(x.vol==v)=true:=by simpa using h1
     have q2:(x.stripe==s)=false:=by simpa using h2
     have HS:=zh (HST.out (fun h=>h2 h.2));clear h1 h2;go_wp2_with fail;go_roundg (l.length - (j+1))
     case measure=>omega
     case rel=>exact⟨rfl,j+1,by omega,rfl,by go_num,HS⟩
   ·have q1:(x.vol==v)=false:=by simpa using h1
    have HS:=zh (HST.out (fun h=>h1 h.1));clear h1;go_wp2_with fail;go_roundg (l.length - (j+1))
    case measure=>omega
    case rel=>exact⟨rfl,j+1,by omega,rfl,by go_num,HS⟩
  ·have hE:verOf l v s=none:=by have:=HN.out;rwa [List.take_of_length_le (by omega)] at this
   have HE:=zh hE;clear hE;go_wp2_with fail;go_ret2;exact⟨by rw[HE.out];rfl,rfl⟩
theorem IntS.form7{w:World} {R:Nat→Prop} {v:Value} {xs:List Int} (h:IntS w R v xs):∃A c,v=.slice A xs.length c∧xs.length≤c∧xs.length≤maxLen:=by
 obtain⟨⟨A,c,h1,h2,h3,-⟩,-⟩:=h;exact⟨A,c,h1,h2,h3⟩
theorem IntS.at7{w:World} {R:Nat→Prop} {A:Option Addr} {n c:Nat} {xs:List Int} (h:IntS w R (.slice A n c) xs) {k:Nat} (hk:k<xs.length):∃b off,A=some ⟨b,off,none⟩∧R b∧w.cell? ⟨b,off+k,none⟩=some (.int .i64 xs[k])∧I64 xs[k]:=by
 obtain⟨⟨A',c',e,_,_,h3⟩,h4⟩:=h;obtain⟨b,off,e2,hb,hc⟩:=h3 (by omega);injection e with e;exact⟨b,off,e.trans e2,hb,hc k _ (List.getElem?_eq_getElem hk),h4 _ (List.getElem_mem hk)⟩
def isB(p:Pc) (v f s:Int):Bool:=p.vol==v&&p.frag==f&&p.stripe==s
theorem is_any(p:Pc) (v f s:Int) (w:World) :
  Calls Tryz.prog 112 #[PcV p,.int .i64 v,.int .i64 f,.int .i64 s] w fun e w'=>e=.returned (.bool (isB p v f s))∧Below w.heap.size w w':=by
 obtain⟨a,b,c,g,r,l⟩:=p;unfold PcV isB;simp only;generalize (⟨l.toArray⟩:ByteArray)=x
 cases h1:(a==v) with
 | false =>
  go_enter Tryz.func112,Tryz.ntmps112;go_wp2;go_ret;exact⟨rfl,(Below.refl _ _).alloc (Nat.le_refl _) _⟩
 | true =>
  cases h2:(b==f) with
  | false =>
   go_enter Tryz.func112,Tryz.ntmps112;go_wp2;go_ret;exact⟨rfl,(Below.refl _ _).alloc (Nat.le_refl _) _⟩
  | true =>
   cases h3:(c==s) with
   | false =>
    go_enter Tryz.func112,Tryz.ntmps112;go_wp2;go_ret;exact⟨rfl,(Below.refl _ _).alloc (Nat.le_refl _) _⟩
   | true =>
    go_enter Tryz.func112,Tryz.ntmps112;go_wp2;go_ret;exact⟨rfl,(Below.refl _ _).alloc (Nat.le_refl _) _⟩
def onB(r:Re) (d:Nat):Bool:=r.on.getD d false
theorem on_any(vp vo va:Value) (r:Re) (d:Nat) (w:World) (h:ReS w (Bl w.heap.size) vp vo va r) (hd:d≤1048576) :
  Calls Tryz.prog 186 #[.agg #[vp,vo,va],.int .i64 (d:Int)] w fun e w'=>e=.returned (.bool (onB r d))∧Below w.heap.size w w':=by
 obtain⟨A,c,rfl,-,hm⟩:=h.2.1.form;unfold maxLen at hm;by_cases hlt:d<r.on.length
 ·obtain⟨b,off,cs,rfl,hR,-,hc,hk⟩:=h.2.1.at_ hlt;have hk':cs=[.bool r.on[d]]:=hk;have hcell:=hc 0 (.bool r.on[d]) (by rw[hk'];rfl);simp only[Nat.mul_one,Nat.add_zero] at hcell
  have hcell2:(w.alloc (.cells #[vp,.slice (some ⟨b,off,none⟩) r.on.length c,va] 40)).cell? ⟨b,off+d,none⟩=some (.bool r.on[d]) :=
   (((Below.refl w.heap.size w).alloc (Nat.le_refl _) _).cell (p:=⟨b,off+d,none⟩) hR).trans hcell
  have hE:onB r d=r.on[d]:=getD_lt _ _ hlt;rw[hE];generalize r.on[d]=x at *;clear hc hk hk' hcell h hE;go_enter Tryz.func186,Tryz.ntmps186;go_wp2;go_ret;exact⟨rfl,(Below.refl _ _).alloc (Nat.le_refl _) _⟩
 ·have hE:onB r d=false:=by unfold onB;rw[List.getD,List.getElem?_eq_none (by omega)];rfl
  rw[hE];clear h hE;go_enter Tryz.func186,Tryz.ntmps186;go_wp2;go_ret;exact⟨rfl,(Below.refl _ _).alloc (Nat.le_refl _) _⟩
structure Fd where
 drive:Nat
 p:Pc
def FdC(f:Fd):List Value:=[.int .i64 (f.drive:Int),.int .i64 f.p.vol,.int .i64 f.p.frag,.int .i64 f.p.stripe,.int .i64 f.p.gen,.int .i64 f.p.ver,.string ⟨f.p.data.toArray⟩]
def goodP(acks:List Ac) (s:ByteArray):Option Pc :=
 if decEr s.data.toList=0∧verOf acks (decP s.data.toList).vol (decP s.data.toList).stripe=some (decP s.data.toList).ver then some (decP s.data.toList) else none
def drvP(acks:List Ac) (d:Nat) (l:List ByteArray):List Fd:=l.filterMap fun s=>(goodP acks s).map fun p=>⟨d,p⟩
def piecesTo(r:Re) (d:Nat):List Fd:=(List.range d).flatMap fun d=>drvP r.acks d (r.plat.getD d [])
def pieces(r:Re):List Fd:=piecesTo r r.plat.length
theorem piecesTo_succ(r:Re) (d:Nat):piecesTo r (d+1)=piecesTo r d++drvP r.acks d (r.plat.getD d []):=by simp[piecesTo,List.range_succ]
theorem drvP_succ(acks:List Ac) (d:Nat) (l:List ByteArray) (j:Nat) (h:j<l.length):drvP acks d (l.take (j+1))=drvP acks d (l.take j)++(match goodP acks l[j] with | some p=>[⟨d,p⟩] | none=>[]):=by
 unfold drvP;rw[List.take_succ_eq_append_getElem h,List.filterMap_append]
 congr 1
 cases hg:goodP acks l[j] <;> simp[List.filterMap_cons,hg]
theorem drvP_yes{acks:List Ac} {d:Nat} {l:List ByteArray} {j:Nat} (h:j<l.length) {p:Pc} (hg:goodP acks l[j]=some p):drvP acks d (l.take (j+1))=drvP acks d (l.take j)++[⟨d,p⟩]:=by rw[drvP_succ _ _ _ _ h,hg]
theorem drvP_no{acks:List Ac} {d:Nat} {l:List ByteArray} {j:Nat} (h:j<l.length) (hg:goodP acks l[j]=none):drvP acks d (l.take (j+1))=drvP acks d (l.take j):=by rw[drvP_succ _ _ _ _ h,hg,List.append_nil]
theorem drvP_length(acks:List Ac) (d:Nat) (l:List ByteArray):(drvP acks d l).length≤l.length:=List.length_filterMap_le _ _
theorem piecesTo_length(r:Re) (m:Nat) (hm:∀l∈r.plat,l.length≤m):∀d,(piecesTo r d).length≤d * m:=by
 intro d
 induction d with
 | zero=>simp[piecesTo]
 | succ d ih =>
  rw[piecesTo_succ,List.length_append];have h1:=drvP_length r.acks d (r.plat.getD d [])
  have h2:(r.plat.getD d []).length≤m:=by
   by_cases h:d<r.plat.length
   ·rw[getD_lt _ _ h];exact hm _ (List.getElem_mem h)
   ·rw[List.getD,List.getElem?_eq_none (by omega)];simp
  rw[Nat.succ_mul];omega
def OwnFd(w:World) (base:Nat) (e:TypeId) (v:Value) (fs:List Fd):Prop:=w.ownsRow base e 7 v fs.length (fs.flatMap FdC)
theorem info_fd:(Tryz.prog.info? 203).map (fun i=>(i.zero,i.size,i.bytes))=some (some (.agg #[.int .i64 0,.int .i64 0,.int .i64 0,.int .i64 0,.int .i64 0,.int .i64 0,.string ⟨#[]⟩]),7,64):=by kernel_rfl
theorem app_fd{ops:Array Oper} {rest:List Oper} {o:Oper} {a:Act} {Q:Exit→Act→World→Prop} {w:World} (f:Fd) (s x:Operand) (hgd:o.guard=none) (ho:o.op=.call { callee:=.builtin .append,args:=#[s,x],argTypes:=#[200,200] })
  (base:Nat) (v:Value) (n:Nat) (xs:List Value) (hs:a.eval s=v) (hown:w.ownsRow base 203 7 v n xs)
  (hx:a.eval x=.slice (some ⟨w.heap.size,0,none⟩) 1 1) (hn:n+1≤16777216) (hbase:base≤w.heap.size)
  (h:∀v' w',w'.ownsRow base 203 7 v' (n+1) (xs++FdC f)→w.grownBy w' v.ownBlock→(v'.ownBlock=v.ownBlock∨v'.ownBlock=some (w.heap.size+1))→wpList Tryz.prog ops Q rest (a.put o.dst v') w') :
  wpList Tryz.prog ops Q (o :: rest) a (w.alloc (.cells (FdC f).toArray 203)):=by
 obtain⟨i0,hi0,hz0,hz1,hz2⟩:=info_parts info_fd;refine wpList_append1 hgd s x _ ho base i0 _ 7 64 Tryz.underlying200 hi0 hz0 hz1 hz2 rfl (by omega) (by omega) v n xs hs hown hx rfl (fun u hu=>?_) hn hbase (fun v' w' h1=>h v' w' (by simpa using h1));simp[FdC] at hu;rcases hu with rfl | rfl | rfl | rfl | rfl | rfl | rfl <;> rfl
theorem flat_one(fs:List Fd) (f:Fd):(fs++[f]).flatMap FdC=fs.flatMap FdC++FdC f:=by simp
theorem app_fd2{ops:Array Oper} {rest:List Oper} {o:Oper} {a:Act} {Q:Exit→Act→World→Prop} {w:World} (f:Fd) (v0 v1 v2 v3 v4 v5:Int) (t:ByteArray) (hf:FdC f=[.int .i64 v0,.int .i64 v1,.int .i64 v2,.int .i64 v3,.int .i64 v4,.int .i64 v5,.string t]) (s x:Operand) (hgd:o.guard=none) (ho:o.op=.call { callee:=.builtin .append,args:=#[s,x],argTypes:=#[200,200] })
  (base:Nat) (v:Value) (n:Nat) (xs:List Value) (hs:a.eval s=v) (hown:w.ownsRow base 203 7 v n xs)
  (hx:a.eval x=.slice (some ⟨w.heap.size,0,none⟩) 1 1) (hn:n+1≤16777216) (hbase:base≤w.heap.size)
  (h:∀v' w',w'.ownsRow base 203 7 v' (n+1) (xs++FdC f)→w.grownBy w' v.ownBlock→(v'.ownBlock=v.ownBlock∨v'.ownBlock=some (w.heap.size+1))→wpList Tryz.prog ops Q rest (a.put o.dst v') w') :
  wpList Tryz.prog ops Q (o :: rest) a (w.alloc (.cells #[.int .i64 v0,.int .i64 v1,.int .i64 v2,.int .i64 v3,.int .i64 v4,.int .i64 v5,.string t] 203)):=by
 have h1:=app_fd f s x hgd ho base v n xs hs hown hx hn hbase h;rw[hf] at h1;exact h1
theorem pieces_any(vp vo va:Value) (r:Re) (w:World) (h:ReS w (Bl w.heap.size) vp vo va r) (hp:r.plat.length≤1000) (hl:∀l∈r.plat,l.length≤1000) :
  Calls Tryz.prog 111 #[.agg #[vp,vo,va]] w fun e w'=>∃v,e=.returned v∧OwnFd w' w.heap.size 203 v (pieces r)∧Below w.heap.size w w':=by
 obtain⟨Ap,cp,rfl,-,-⟩:=h.1.form;have HR:=zh h;have HPL:=zh hl;have HTO:=zh (piecesTo_length r 1000 hl);obtain⟨W0,hW0⟩:=zx (w.alloc (.cells #[.slice Ap r.plat.length cp,vo,va] 40));obtain⟨q,hq⟩:=zx w.heap.size
 have c0:W0.cell? ⟨q,0,none⟩=some (.slice Ap r.plat.length cp):=by rw[hW0,hq];simp
 have c2:W0.cell? ⟨q,2,none⟩=some va:=by rw[hW0,hq];simp
 have hb0:Below w.heap.size w W0:=by rw[hW0];exact(Below.refl _ _).alloc (Nat.le_refl _) _
 have hq0:q<W0.heap.size:=by rw[hW0,hq];simp
 have HQ:=zh hq;have HW0:=zh hW0;have HB0:=zh hb0;have HC0:=zh c0;have HC2:=zh c2;obtain⟨D,hD⟩:=zx r.plat.length;rw[←hD] at HW0 HC0 hp ⊢;have HD:=zh hD;clear h hl hW0 hq hb0 c0 c2 hD;go_enter Tryz.func111,Tryz.ntmps111;go_wp2_with fail;rw[←HW0.out,←HQ.out];go_loopg [3,4] D (fun z v3 v4 wr=>∃d:Nat,d≤D∧z=D - d∧v4=.int .i64 (d:Int)∧OwnFd wr W0.heap.size 203 v3 (piecesTo r d)∧Below W0.heap.size W0 wr)
 case atStart=>exact⟨0,by omega,rfl,rfl,World.ownsRow_nil _ _ _ _,Below.refl _ _⟩
 case round =>
  obtain⟨d,hd,rfl,rfl,hO,hbr⟩:=hrel;have e0:=(hbr.cell (p:=⟨q,0,none⟩) hq0).trans HC0.out;by_cases hlt:d<D
  ·have HO:=zh hO
   have hdl:d<r.plat.length:=by rw[←HD.out];exact hlt
   obtain⟨l,hl⟩:=zx (r.plat[d])
   have hgl:r.plat.getD d []=l:=by rw[hl];exact getD_lt _ _ hdl
   have hl1000:l.length≤1000:=by rw[hl];exact HPL.out _ (List.getElem_mem hdl)
   obtain⟨bp,op,csp,hAp,hRp,-,hcp,vd,hvd,hsl⟩:=HR.out.1.at_ hdl;rw[←hl] at hsl;have hcd:=hcp 0 vd (by rw[hvd];rfl);obtain⟨Ad,cd,rfl,-,-⟩:=hsl.form;have HSL:=zh hsl;have HCD:=zh hcd;have HGL:=zh hgl;subst hAp;obtain⟨wo,rfl⟩:=zx (wr:World);clear hO hl hgl hcp hvd hsl hcd csp;go_wp2_with fail;go_loopg [3,5] l.length (fun z v3 v5 wr=>∃j:Nat,j≤l.length∧z=l.length - j∧v5=.int .i64 (j:Int)∧OwnFd wr W0.heap.size 203 v3 (piecesTo r d++drvP r.acks d (l.take j))∧Below W0.heap.size W0 wr)
   case atStart=>exact⟨0,by omega,rfl,rfl,by simpa[drvP] using HO.out,hbr⟩
   case round =>
    clear hbr e0;obtain⟨j,hj,rfl,rfl,hO,hbr⟩:=hrel;have hbw:=HB0.out.trans (hbr.mono HB0.out.size);have e0:=(hbr.cell (p:=⟨q,0,none⟩) hq0).trans HC0.out;have e2:=(hbr.cell (p:=⟨q,2,none⟩) hq0).trans HC2.out
    have ed:wr.cell? ⟨bp,op+d,none⟩=some (.slice Ad l.length cd):=by
     have h1:=(hbw.cell (p:=⟨bp,op+d * 1+0,none⟩) hRp).trans HCD.out
     simpa using h1
    by_cases hlt2:j<l.length
    ·-- W1{
     obtain⟨bs,os,css,hAs,hRs,-,hcs,hse,hsm⟩:=HSL.out.at_ hlt2;have hes:=hcs 0 (.string l[j]) (by rw[hse];rfl);obtain⟨s,hs⟩:=zx (l[j]);rw[←hs] at hes hsm
     have es:wr.cell? ⟨bs,os+j,none⟩=some (.string s):=by
      have h1:=(hbw.cell (p:=⟨bs,os+j * 1+0,none⟩) hRs).trans hes
      simpa using h1
     subst hAs;have HDEC:=zh (fun w=>refsdec_any s w hsm)
     have hyes:=fun p hg=>drvP_yes (acks:=r.acks) (d:=d) (l:=l) hlt2 (p:=p) hg
     have hno:=fun hg=>drvP_no (acks:=r.acks) (d:=d) (l:=l) hlt2 hg
     rw[←hs] at hyes hno;have HY:=zh hyes;have HN:=zh hno;obtain⟨E,hE⟩:=zx (decEr s.data.toList);obtain⟨P,hP⟩:=zx (decPc s.data.toList);rw[←hE,←hP] at HDEC;have HE:=zh hE;have HP:=zh hP
     have hlen:(piecesTo r d++drvP r.acks d (l.take j)).length+1≤16777216:=by
      have h1:=HTO.out d;have h2:=drvP_length r.acks d (l.take j);have h3:(l.take j).length≤j:=List.length_take_le _ _;rw[List.length_append];have h4:d * 1000≤1000 * 1000:=Nat.mul_le_mul_right 1000 (by omega);omega
     obtain⟨fs,hfs⟩:=zx (piecesTo r d++drvP r.acks d (l.take j));rw[←hfs] at hO hlen;have HFS:=zh hfs;have hO7:wr.ownsRow W0.heap.size 203 7 _ fs.length (fs.flatMap FdC):=hO;obtain⟨A3,c3,rfl⟩:=own_form hO7;have HO2:=zh hO7;have hsz:=hbr.size
     have hpi:PcI P:=by
      rw[hP];unfold decPc;split
      ·rename_i h0
       have h36:s.data.toList.length=36:=by
        by_cases h:s.data.toList.length=36
        ·exact h
        ·rw[decEr_len h] at h0;cases h0
       exact(decP_in _ h36).1
      ·refine⟨?_,?_,?_,?_,?_,?_⟩ <;> simp[I64]
     have HPI:=zh hpi;obtain⟨pa,pb,pc,pg,pr,px⟩:=P;unfold PcV at HDEC;simp only at HDEC;obtain⟨x,hx⟩:∃x:ByteArray,x=⟨px.toArray⟩:=⟨_,rfl⟩;rw[←hx] at HDEC;have HX:=zh hx;clear hO7 hcs hes hs hse hsm hyes hno hE hP hfs hO hpi hx css;go_wp2_with fail;refine(HDEC.out _).mono ?_;rintro e w2 ⟨rfl,hb2⟩;have hbr2:=hbr.trans (hb2.mono hsz);have hsz2:=hbr2.size;have HO3:=zh (own_below HO2.out hb2);have k2:=(hb2.cell (p:=⟨q,2,none⟩) (Nat.lt_of_lt_of_le hq0 hsz)).trans e2;by_cases hE0:E=0
     ·have hE0':=HE.out
      have hE1:((E:Int) != 0)=false:=by simpa using hE0
      have hPd:(⟨pa,pb,pc,pg,pr,px⟩:Pc)=decP s.data.toList:=HP.out.trans (decPc_ok (hE0'.symm.trans hE0));obtain⟨W3,hW3⟩:=zx (w2.alloc (.cells #[.int .i64 pa,.int .i64 pb,.int .i64 pc,.int .i64 pg,.int .i64 pr,.string x] 94))
      have hb23:Below w2.heap.size w2 W3:=by rw[hW3];exact(Below.refl _ _).alloc (Nat.le_refl _) _
      have hbr3:=hbr2.trans (hb23.mono hsz2);have hbw3:=HB0.out.trans (hbr3.mono HB0.out.size)
      have hgp:goodP r.acks s=if verOf r.acks pa pc=some pr then some ⟨pa,pb,pc,pg,pr,px⟩ else none:=by
       unfold goodP;rw[←hPd];by_cases hv:verOf r.acks pa pc=some pr
       ·rw[if_pos ⟨hE0'.symm.trans hE0,hv⟩,if_pos hv]
       ·rw[if_neg (fun h=>hv h.2),if_neg hv]
      have HVR:=zh (fun(hx3:SlS 4 AcK W3 (Bl w.heap.size) va r.acks)=>version_any va r.acks pa pc W3 _ hx3 HPI.out.1 HPI.out.2.2.1);have HACK:=zh (SlS.keep acK HR.out.2.2 (kept_below hbw3))
      have g0:W3.cell? ⟨w2.heap.size,0,none⟩=some (.int .i64 pa):=by rw[hW3];simp
      have g1:W3.cell? ⟨w2.heap.size,1,none⟩=some (.int .i64 pb):=by rw[hW3];simp
      have g2:W3.cell? ⟨w2.heap.size,2,none⟩=some (.int .i64 pc):=by rw[hW3];simp
      have g3:W3.cell? ⟨w2.heap.size,3,none⟩=some (.int .i64 pg):=by rw[hW3];simp
      have g4:W3.cell? ⟨w2.heap.size,4,none⟩=some (.int .i64 pr):=by rw[hW3];simp
      have g5:W3.cell? ⟨w2.heap.size,5,none⟩=some (.string x):=by rw[hW3];simp
      have k3:=(hb23.cell (p:=⟨q,2,none⟩) (Nat.lt_of_lt_of_le hq0 hsz2)).trans k2;have HO4:=zh (own_below HO3.out hb23);have HW3:=zh hW3;have HGP:=zh hgp;have hq2w:q<w2.heap.size:=Nat.lt_of_lt_of_le hq0 hsz2;obtain⟨vo1,hvo1⟩:=zx (verOf r.acks pa pc);rw[←hvo1] at HVR HGP;clear hE0' hE0 hPd hW3 hb23 hgp hvo1;go_wp2_with fail;rw[←HW3.out];refine(HVR.out HACK.out).mono ?_;rintro e w4 ⟨rfl,rfl⟩;have hsz3:=hbr3.size
      cases vo1 with
      | none =>
       have hgn:goodP r.acks s=none:=by rw[HGP.out];rfl
       have HGN:=zh (HN.out hgn);clear hgn;go_wp2_with fail;go_roundg (l.length - (j+1))
       case measure=>omega
       case rel=>exact⟨j+1,by omega,rfl,by go_num,by rw[HGN.out,←HFS.out];exact HO4.out,hbr3⟩
      | some u =>
       by_cases hu:u=pr
       ·have hgn:goodP r.acks s=some ⟨pa,pb,pc,pg,pr,px⟩:=by rw[HGP.out,hu];exact if_pos rfl
        have HGN:=zh (HY.out _ hgn)
        have q1:(u==pr)=true:=by simpa using hu
        have hfd:FdC ⟨d,⟨pa,pb,pc,pg,pr,px⟩⟩=[.int .i64 (d:Int),.int .i64 pa,.int .i64 pb,.int .i64 pc,.int .i64 pg,.int .i64 pr,.string x]:=by rw[HX.out];rfl
        have hown:=HO4.out;clear hgn hu;go_wp2_with (at_builtin;refine app_fd2 ⟨d,⟨pa,pb,pc,pg,pr,px⟩⟩ _ _ _ _ _ _ _ hfd (.tmp 58) (.tmp 62) rfl rfl W0.heap.size _ fs.length _ (by rfl) hown (by rfl) hlen hsz3 ?_;intro v' w5 hown' hg hat);go_roundg (l.length - (j+1))
        case measure=>omega
        case rel =>
         refine⟨j+1,by omega,rfl,by go_num,?_,hbr3.grown hg hsz3 (fun b h=>(hown.lt b h).1)⟩;rw[HGN.out,←List.append_assoc,←HFS.out];unfold OwnFd;rw[flat_one,List.length_append];exact hown'
       ·have hgn:goodP r.acks s=none:=by rw[HGP.out];exact if_neg (fun h=>hu (by injection h))
        have HGN:=zh (HN.out hgn)
        have q1:(u==pr)=false:=by simpa using hu
        clear hgn hu;go_wp2_with fail;go_roundg (l.length - (j+1))
        case measure=>omega
        case rel=>exact⟨j+1,by omega,rfl,by go_num,by rw[HGN.out,←HFS.out];exact HO4.out,hbr3⟩
     ·have hE1:((E:Int) != 0)=true:=by simpa using hE0
      have hgn:goodP r.acks s=none:=by
       unfold goodP;rw[if_neg (fun h=>hE0 (HE.out.trans h.1))]
      have HGN:=zh (HN.out hgn);clear hgn hE0;go_wp2_with fail;go_roundg (l.length - (j+1))
      case measure=>omega
      case rel=>exact⟨j+1,by omega,rfl,by go_num,by rw[HGN.out,←HFS.out];exact HO3.out.alloc _,hbr2.alloc hsz2 _⟩
    ·have hjl:j=l.length:=by omega
     have HJ:=zh hjl;have HO2:=zh hO;clear hjl hO;go_wp2_with fail;go_roundg (D - (d+1))
     case measure=>omega
     case rel=>exact⟨d+1,by omega,rfl,by go_num,by
      have h1:=HO2.out;rw[HJ.out,List.take_of_length_le (Nat.le_refl _)] at h1;rw[piecesTo_succ,HGL.out]
      exact h1,hbr⟩
  ·have hdD:d=D:=by omega
   have HDD:=zh hdD;have HO:=zh hO;have hbz:=HB0.out.trans (hbr.mono HB0.out.size);clear hdD hO;go_wp2_with fail;go_ret;refine⟨_,rfl,?_,hbz⟩;have h1:=HO.out;rw[HDD.out,HD.out] at h1;exact own_base h1 HB0.out.size
def FdK(w:World) (R:Nat→Prop) (cs:List Value) (f:Fd):Prop:=cs=FdC f∧f.drive≤1048576
theorem fdK:Steady FdK:=⟨fun _ h=>h,fun _ h=>h⟩
theorem flat_at7:∀(fs:List Fd) (k:Nat) (f:Fd),fs[k]?=some f→∀i c,(FdC f)[i]?=some c→(fs.flatMap FdC)[k * 7+i]?=some c
 | [],k,f,h=>by simp at h
 | x :: r,0,f,h=>by
  simp at h;subst h;intro i c hc;have hi:i<(FdC x).length:=(List.getElem?_eq_some_iff.1 hc).1;rw[List.flatMap_cons,Nat.zero_mul,Nat.zero_add,List.getElem?_append_left hi];exact hc
 | x :: r,k+1,f,h=>by
  intro i c hc;have hl:(FdC x).length=7:=rfl;rw[List.flatMap_cons,List.getElem?_append_right (by rw[hl];omega),hl];have:=flat_at7 r k f (by simpa using h) i c hc;rw[←this]
  congr 1
  omega
theorem OwnFd.slS{w:World} {base:Nat} {e:TypeId} {v:Value} {fs:List Fd} (h:OwnFd w base e v fs) (hd:∀f∈fs,f.drive≤1048576):SlS 7 FdK w (Fr base w.heap.size) v fs:=by
 have h1:w.ownsRow base e 7 v fs.length (fs.flatMap FdC):=h
 have hc:=fun g=>h1.cells (g:=g)
 have hlt:=h1.lt;rcases h1.2 with ⟨rfl,h0⟩ | ⟨g,cap,cur,rfl,_,_,h2,h3,_⟩
 ·unfold SlS;rw[h0];exact Row.nil _ _ _
 ·refine⟨_,cap,rfl,h2,Nat.le_trans h2 h3,fun _=>⟨g,0,rfl,hlt g rfl,fun k f hf=>⟨FdC f,rfl,fun i c hi=>?_,rfl,hd f (List.mem_of_getElem? hf)⟩⟩⟩
  have e1:∀j,(⟨g,0,none⟩:Addr).add j=⟨g,0+j,none⟩:=fun j=>by unfold Addr.add;split <;> simp_all
  rw[Nat.add_assoc,←e1];exact hc g rfl _ _ (flat_at7 fs k f hf i c hi)
theorem piecesTo_drive(r:Re) (d:Nat):∀f∈piecesTo r d,f.drive<d:=by
 intro f hf;simp only[piecesTo,List.mem_flatMap,List.mem_range] at hf;obtain⟨k,hk,hm⟩:=hf;unfold drvP at hm;rw[List.mem_filterMap] at hm;obtain⟨s,-,hs⟩:=hm
 cases hg:goodP r.acks s with
 | none=>rw[hg] at hs;cases hs
 | some p=>rw[hg] at hs;simp at hs;rw[←hs];exact hk
def srcB(r:Re) (v f s:Int) (on:Bool) (x:Fd):Bool:=isB x.p v f s&&(!on||onB r x.drive)
def srcI(r:Re) (l:List Fd) (v f s:Int) (on:Bool):Int:=match l.findIdx? (srcB r v f s on) with | some i=>(i:Int) | none => -1
theorem srcI_hit{r:Re} {l:List Fd} {v f s:Int} {on:Bool} {j:Nat} (hn:∀i (h:i<l.length),i<j→srcB r v f s on l[i]=false) (hj:j<l.length) (hb:srcB r v f s on l[j]=true):srcI r l v f s on=(j:Int):=by
 unfold srcI
 have:l.findIdx? (srcB r v f s on)=some j:=by
  rw[List.findIdx?_eq_some_iff_getElem];exact⟨hj,hb,fun i hi=>by rw[hn i (by omega) hi];simp⟩
 rw[this]
theorem srcI_miss{r:Re} {l:List Fd} {v f s:Int} {on:Bool} (hn:∀i (h:i<l.length),srcB r v f s on l[i]=false):srcI r l v f s on = -1:=by
 unfold srcI
 have:l.findIdx? (srcB r v f s on)=none:=by
  rw[List.findIdx?_eq_none_iff];intro x hx;obtain⟨i,hi,rfl⟩:=List.getElem_of_mem hx;exact hn i hi
 rw[this]
theorem seven{cs:List Value} {f:Fd} {w:World} {b o:Nat} (h:∀i c,cs[i]?=some c→w.cell? ⟨b,o+i,none⟩=some c) (e:cs=FdC f) :
  w.cell? ⟨b,o,none⟩=some (.int .i64 (f.drive:Int))∧w.cell? ⟨b,o+1,none⟩=some (.int .i64 f.p.vol)∧w.cell? ⟨b,o+2,none⟩=some (.int .i64 f.p.frag)∧w.cell? ⟨b,o+3,none⟩=some (.int .i64 f.p.stripe)∧w.cell? ⟨b,o+4,none⟩=some (.int .i64 f.p.gen)∧w.cell? ⟨b,o+5,none⟩=some (.int .i64 f.p.ver)∧w.cell? ⟨b,o+6,none⟩=some (.string ⟨f.p.data.toArray⟩):=by
 subst e;exact⟨h 0 _ rfl,h 1 _ rfl,h 2 _ rfl,h 3 _ rfl,h 4 _ rfl,h 5 _ rfl,h 6 _ rfl⟩
end Go.Proofs.YtcfkllnpkmebpaaGreatDoor
