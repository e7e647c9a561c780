/- Parts. -/
import Derived.Test.YtgfaieppacabjaaGreatMq04
import Derived.Deep.CutBlock
import Derived.Deep.AppendLies
import Derived.WideKeyEntry
import Derived.Maps.RangeWalk
import Derived.Lib.BufferWrite
import Derived.Shelf.SlicesE.Clone
set_option linter.unusedSectionVars false
set_option maxRecDepth 100000
set_option maxHeartbeats 12800000
set_option linter.unusedVariables false
set_option linter.unusedSimpArgs false
namespace Go.Proofs.YtgfaieppacabjaaGreat
open Go.RowKit
theorem complete_any(k m1 m2:Int)(vh:Value)(hs:List Frg)(w:World)(hk:I64 k)(hm1:I64 m1)(hm2:I64 m2)(hh:FragS w (Bl w.heap.size) vh hs)(hl:hs.length<=65536)(hd:∀h∈hs,h.data.length<=65536) :
  Calls Tryz.prog 23 #[.int .i64 k,.int .i64 m1,.int .i64 m2,vh] w fun e w'=>∃v,e=.returned (.tuple #[v,.int .i64 (comE k m1 m2 hs)])/\(comE k m1 m2 hs=0->OwnFg w' w.heap.size v (comH k.toNat m1.toNat m2.toNat hs))/\(comE k m1 m2 hs≠0->v=.slice none 0 0)/\Below w.heap.size w w':=by
 obtain⟨Ah,ch,hvh,-,-⟩:=hh.form;have HC1:=zh (rcode_any k m1 · hk hm1);have HC2:=zh (rcode_any k m2 · hk hm2);have HD:=zh (decode_any k m1 vh hs w hk hm1 hh hl hd);subst hvh
 cases h1:codeB k m1 with
 | false =>
  have hE:comE k m1 m2 hs=1:=by unfold comE;rw[if_pos (Or.inl h1)]
  rw[h1] at HC1;rw[hE];clear hE h1 hh;go_enter Tryz.func23,Tryz.ntmps23;go_wp2_with fail;refine(HC1.out _).mono ?_;rintro e w' ⟨rfl,rfl⟩;go_wp2;go_ret2;exact⟨_,rfl,(fun h=>by cases h),fun _=>rfl,zB _ _⟩
 | true =>
  rw[h1] at HC1
  cases h2:codeB k m2 with
  | false =>
   have hE:comE k m1 m2 hs=1:=by unfold comE;rw[if_pos (Or.inr (Or.inl h2))]
   rw[h2] at HC2;rw[hE];clear hE h1 h2 hh;go_enter Tryz.func23,Tryz.ntmps23;go_wp2_with fail;refine(HC1.out _).mono ?_;rintro e w' ⟨rfl,rfl⟩;go_wp2_with fail;refine(HC2.out _).mono ?_;rintro e w' ⟨rfl,rfl⟩;go_wp2;go_ret2;exact⟨_,rfl,(fun h=>by cases h),fun _=>rfl,zB _ _⟩
  | true =>
   rw[h2] at HC2;by_cases hlt:m2<m1
   ·have hE:comE k m1 m2 hs=1:=by unfold comE;rw[if_pos (Or.inr (Or.inr hlt))]
    rw[hE];clear hE h1 h2 hh;go_enter Tryz.func23,Tryz.ntmps23;go_wp2_with fail;refine(HC1.out _).mono ?_;rintro e w' ⟨rfl,rfl⟩;go_wp2_with fail;refine(HC2.out _).mono ?_;rintro e w' ⟨rfl,rfl⟩;go_wp2;go_ret2;exact⟨_,rfl,(fun h=>by cases h),fun _=>rfl,zB _ _⟩
   ·have hE:comE k m1 m2 hs=decE k m1 hs:=by unfold comE;rw[if_neg (by simp[h1,h2,hlt])]
    rw[hE];by_cases hz:decE k m1 hs=0
    ·-- W1{
     have hg1:=(codeB_iff k m1).1 h1;have hg2:=(codeB_iff k m2).1 h2;obtain⟨K,rfl⟩:∃K:Nat,k=(K:Int):=⟨k.toNat,by omega⟩;obtain⟨M1,rfl⟩:∃M:Nat,m1=(M:Int):=⟨m1.toNat,by omega⟩;obtain⟨M2,rfl⟩:∃M:Nat,m2=(M:Int):=⟨m2.toNat,by omega⟩;obtain⟨n1,hn1⟩:=zx (K+M1);obtain⟨n2,hn2⟩:=zx (K+M2)
     have en1:((K:Int)+(M1:Int)).toNat=K+M1:=by omega
     have ek:((K:Int)).toNat=K:=by omega
     have em1:((M1:Int)).toNat=M1:=by omega
     have em2:((M2:Int)).toNat=M2:=by omega
     rw[hz,en1,ek] at HD;rw[hz,ek,em1,em2]
     have hlen:(comD K M1 hs).length=K:=by unfold comD;rw[List.length_take,wordT_length];omega
     have hwid:Wide (comD K M1 hs) (rowLen hs):=fun r hr=>wordT_wide _ _ _ _ r (List.mem_of_mem_take hr)
     have hrl:rowLen hs<=65536:=by
      unfold rowLen;rw[List.getD_eq_getElem?_getD]
      cases e:(datas hs)[0]? with
      | none=>simp
      | some r =>
       have hm:=List.mem_of_getElem? e;simp only[datas,List.mem_map] at hm;obtain⟨h,hh1,rfl⟩:=hm;exact hd h hh1
     have HE:=zh (fun(v:Value) (w:World) h=>encode_any K M2 (rowLen hs) v (comD K M1 hs) w h2 hlen h hwid hrl);have hTl:(wordT K (K+M2) (comD K M1 hs) (rowLen hs)).length=K+M2:=wordT_length _ _ _ _
     change Hid (Calls _ _ _ _ (fun e w'=>∃v,e=_/\(_->MatS w' _ v (comD K M1 hs))/\_)) at HD
     unfold comH;generalize wordT K (K+M2) (comD K M1 hs) (rowLen hs)=T at *;generalize comD K M1 hs=D at *;have HTL:=zh hTl;clear hE h1 h2 hh en1 ek em1 em2 hlen hwid hrl hz hd hTl;go_enter Tryz.func23,Tryz.ntmps23;go_wp2_with fail;refine(HC1.out _).mono ?_;rintro e w' ⟨rfl,rfl⟩;go_wp2_with fail;refine(HC2.out _).mono ?_;rintro e w' ⟨rfl,rfl⟩;go_wp2_with fail;refine HD.out.mono ?_;rintro e w1 ⟨v,rfl,hv,-,hb1⟩;have hv:=hv (by trivial);have he:=HE.out v w1 hv;obtain⟨Av,cv,rfl,-,-⟩:=hv.form;have HE2:=zh he;clear hv he;generalize D.length=dl at *;go_wp2_with fail;refine HE2.out.mono ?_;rintro e w2 ⟨v2,rfl,hv2,hb2⟩;obtain⟨A2,c2,rfl,hc2,-⟩:=hv2.form;rw[HTL.out] at hc2 hv2 ⊢;have hb:=hb1.trans (hb2.mono hb1.size);have HV2:=zh hv2;clear hv2 hb1 hb2;go_wp2_with fail;go_loopg [13,14] (M2 - M1) (fun z v13 v14 wr=>∃j:Nat,j<=M2 - M1/\z=M2 - M1 - j/\v14=.int .i64 ((K+M1+j:Nat):Int)/\OwnFg wr w2.heap.size v13 (fragsT T (K+M1) j)/\Below w2.heap.size w2 wr)
     case atStart=>exact⟨0,by omega,rfl,by go_num,OwnFg.nil _ _,zB _ _⟩
     case round =>
      obtain⟨j,hj,rfl,rfl,hO,hbr⟩:=hrel;obtain⟨A13,c13,hv13⟩:=hO.form;rw[fragsT_length] at hv13;subst hv13;have hb0:=hb.trans (hbr.mono hb.size);by_cases hlt2:j<M2-M1
      ·obtain⟨b,off,va,rfl,hR,hcell,hva⟩:=HV2.out.at_ (k:=K+M1+j) (by rw[HTL.out];omega);have hc3:=(hbr.cell (p:=⟨b,off+(K+M1+j),none⟩) hR).trans hcell;have hva3:=hva.keep (w':=wr) (kept_below hbr);obtain⟨row,hrow⟩:=zx (T[K+M1+j]'(by rw[HTL.out];omega))
       have hgd:T.getD (K+M1+j) []=row:=by rw[hrow];exact getD_lt _ _ _
       rw[<-hrow] at hva3;obtain⟨Ar,cr,rfl,-,-⟩:=hva3.form;obtain⟨⟨cs,ho,hc⟩,hk0⟩:=hO;rw[fragsT_length] at ho;have hsz3:=hbr.size;have HC:=zh hc;have HVA:=zh hva3;have HGD:=zh hgd;have HK0:=zh hk0;have hblt:b<w2.heap.size:=hR;clear hc hva3 hcell hva hgd hk0 hrow;go_wp2_with (at_builtin;refine app_frag (.tmp 60) (.tmp 67) rfl rfl _ _ _ _ (by rfl) ho (by rfl) rfl rfl (by omega) hsz3 ?_;intro v' w4 hown4 hg4 hat);go_roundg (M2-M1-(j+1))
       case measure=>omega
       case rel =>
        refine⟨j+1,by omega,rfl,by go_num,?_,hbr.grown hg4 hsz3 (fun b h=>(ho.lt b h).1)⟩;rw[fragsT_succ];have hlt13:=ho.lt;refine OwnFg.push (h:=⟨((K+M1+j:Nat):Int),T.getD (K+M1+j) []⟩) HK0.out HC.out (by rw[fragsT_length];exact ho) (by show I64 ((K+M1+j:Nat):Int);unfold I64;omega) ?_ (by rw[fragsT_length];exact hown4) hg4 hat;show ByS _ _ _ (T.getD (K+M1+j) []);rw[HGD.out];exact HVA.out.mono (fun b hb=>⟨zM hb hsz3,fun e=>by have h1:=(hlt13 b e).1;have h2:b<w2.heap.size:=hb;omega⟩)
      ·have hje:j=M2-M1:=by omega
       have HJE:=zh hje;have HO:=zh hO;clear hO hje;go_wp2;go_ret2;rw[<-HJE.out];exact⟨_,rfl,fun _=>HO.out.base hb.size,(fun h=>absurd rfl h),hb0⟩
    ·-- W2{
     have hE2:=hz;have HE:=zh hE2;generalize decE k m1 hs=E at *
     have hne:((E:Int) != 0)=true:=by simp[hE2]
     clear hE h1 h2 hh hz hE2;go_enter Tryz.func23,Tryz.ntmps23;go_wp2_with fail;refine(HC1.out _).mono ?_;rintro e w' ⟨rfl,rfl⟩;go_wp2_with fail;refine(HC2.out _).mono ?_;rintro e w' ⟨rfl,rfl⟩;go_wp2_with fail;refine HD.out.mono ?_;rintro e w' ⟨v,rfl,-,hv,hb⟩;obtain rfl:=hv HE.out;go_wp2;go_ret2;exact⟨_,rfl,(fun h=>absurd h HE.out),fun _=>rfl,hb⟩
theorem awake_decE:decE 1 0 [⟨0,[0]⟩]=0:=by kernel_rfl
theorem awake_comE:comE 1 0 2 [⟨0,[0]⟩]=0:=by unfold comE;rw[if_neg (by decide),awake_decE]
theorem awake_comE2:comE 1 2 1 []=1:=by unfold comE;rw[if_pos (by decide)]
theorem awake_frag(w:World)(g1 g2:Nat)(h1:w.cell? ⟨g1,0,none⟩=some (.int .u8 0))(h2:w.cell? ⟨g2,0,none⟩=some (.int .i64 0))(h3:w.cell? ⟨g2,1,none⟩=some (.slice (some ⟨g1,0,none⟩) 1 1))(hg1:g1<w.heap.size)(hg2:g2<w.heap.size) :
  FragS w (Bl w.heap.size) (.slice (some ⟨g2,0,none⟩) 1 1) [⟨0,[0]⟩]:=by
 refine⟨⟨_,1,rfl,zR _,by unfold maxLen;simp,fun _=>⟨g2,0,rfl,hg2,fun k h hk=>?_⟩⟩,fun h hh=>by
  rw[List.mem_singleton.1 hh];exact⟨by decide,by decide⟩⟩
 have hk0:k=0:=by have:=(zL.1 hk).1;simpa using this
 subst hk0;simp only[List.getElem?_cons_zero,Option.some.injEq] at hk;subst hk;refine⟨_,h2,h3,⟨_,1,rfl,zR _,by unfold maxLen;simp,fun _=>⟨g1,0,rfl,hg1,fun j x hj=>?_⟩⟩⟩
 have hj0:j=0:=by have:=(zL.1 hj).1;simpa using this
 subst hj0;simp only[List.getElem?_cons_zero,Option.some.injEq] at hj;subst hj;exact h1
theorem awake_any(w:World):Calls Tryz.prog 7 #[] w fun e w'=>e=.returned (.bool true)/\Below w.heap.size w w':=by
 go_enter Tryz.func7,Tryz.ntmps7;go_wp2_with fail;obtain⟨g,hg⟩:=zx w.heap.size;obtain⟨W,hW⟩:=zx ((w.alloc (.cells #[.int .u8 0] 5)).alloc (.cells #[.int .i64 0,.slice (some ⟨w.heap.size,0,none⟩) 1 1] 74))
 have hbW:Below w.heap.size w W:=by rw[hW];exact((zB _ _).alloc (zR _) _).alloc (by simp) _
 have hfr:FragS W (Bl W.heap.size) (.slice (some ⟨w.heap.size+1,0,none⟩) 1 1) [⟨0,[0]⟩]:=by
  rw[hW];exact awake_frag _ w.heap.size (w.heap.size+1) (by simp) (by simp) (by simp) (by simp;omega) (by simp)
 have hc1:=complete_any 1 0 2 _ _ W (by unfold I64;omega) (by unfold I64;omega) (by unfold I64;omega) hfr (by simp) (by simp);rw[awake_comE] at hc1;rw[<-hg] at hc1 hW ⊢;rw[<-hW];clear hfr hW;refine hc1.mono ?_;rintro e w1 ⟨v,rfl,ho,-,hb1⟩;have ho:=ho (by trivial);have ho2:OwnFg w1 W.heap.size v [⟨1,[0]⟩,⟨2,[0]⟩]:=ho;obtain⟨A,c,rfl⟩:=ho2.form;have hfs:=ho2.fragS;have hn:FragS w1 (Bl w1.heap.size) (.slice none 0 0) []:=⟨Row.nil _ _ _,fun h hh=>by cases hh⟩;have hc2:=complete_any 1 2 1 _ _ w1 (by unfold I64;omega) (by unfold I64;omega) (by unfold I64;omega) hn (by simp) (by simp);rw[awake_comE2] at hc2;have HC2:=zh hc2;clear hc1 hc2 ho hn;go_wp2_with fail;refine HC2.out.mono ?_;rintro e w2 ⟨v,rfl,-,hv,hb2⟩;obtain rfl:=hv (by decide);have hf2:=hfs.below hb2;obtain⟨b,off,va,rfl,hR,c0,c1,hva,-⟩:=hf2.at_ (k:=0) (by simp);obtain⟨b',off',vb,he,hR',d0,d1,hvb,-⟩:=hf2.at_ (k:=1) (by simp)
 obtain⟨rfl,rfl⟩:b=b'/\off=off':=by injection he with h;injection h with h1 h2;exact⟨h1,h2⟩
 simp only[Nat.zero_mul,Nat.add_zero,Nat.one_mul,List.getElem_cons_zero,List.getElem_cons_succ] at c0 c1 d0 d1 hva;obtain⟨A1,c1',rfl,-,-⟩:=hva.form;have hva':ByS w2 (Bl w2.heap.size) (.slice A1 1 c1') [0]:=hva;obtain⟨b1,o1,rfl,-,e0⟩:=hva'.at_ (k:=0) (by simp);simp only[Nat.add_zero,List.getElem_cons_zero] at e0;have hbb:=(hbW.trans (hb1.mono hbW.size)).trans (hb2.mono (Nat.le_trans hbW.size hb1.size));clear hf2 hfs hva hvb he ho2 hva';have e1:w2.cell? ⟨b1,o1,none⟩=some (.int .u8 0):=e0;clear e0;go_wp2;go_ret;exact⟨rfl,hbb⟩
theorem cells9{W:World}{g:Nat}{a b c d e f h i j:Value}{t:TypeId}(q:W.heap[g]?=some (.cells #[a,b,c,d,e,f,h,i,j] t (0,0))):W.cell? ⟨g,0,none⟩=some a/\W.cell? ⟨g,1,none⟩=some b/\W.cell? ⟨g,2,none⟩=some c/\W.cell? ⟨g,3,none⟩=some d/\W.cell? ⟨g,4,none⟩=some e/\W.cell? ⟨g,5,none⟩=some f/\W.cell? ⟨g,6,none⟩=some h/\W.cell? ⟨g,7,none⟩=some i/\W.cell? ⟨g,8,none⟩=some j:=by
 refine⟨?_,?_,?_,?_,?_,?_,?_,?_,?_⟩ <;> (rw[cell_of_row _ _ _ _ _ _ q];rfl)
theorem new7{w W:World}{a b c d e f g:Value}{t:TypeId}(h:W=w.alloc (.cells #[a,b,c,d,e,f,g] t)):W.heap[w.heap.size]?=some (.cells #[a,b,c,d,e,f,g] t (0,0))/\Below w.heap.size w W:=by
 subst h;exact⟨zN _ _,(zB _ _).alloc (zR _) _⟩
end Go.Proofs.YtgfaieppacabjaaGreat
