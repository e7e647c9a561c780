/- A made fleet and reality, walked. -/
import Derived.Deep.AppendLies
import Derived.Deep.CutBlock
import Derived.Deep.CutRange
import Derived.Deep.MidRow
import Derived.Test.YtcfkllnpkmebpaaGreatDoorMq11
import Derived.Test.YtcfkllnpkmebpaaGreatDoorMq12
import Derived.Test.YtcfkllnpkmebpaaGreatDoorMq01
set_option maxRecDepth 100000
set_option maxHeartbeats 12800000
namespace Go.Proofs.YtcfkllnpkmebpaaGreatDoor
open Go.RowKit
set_option linter.unusedVariables false
set_option linter.unusedSimpArgs false
theorem made_any(vt:Value) (xs:List Int) (w:World) (R:Nat→Prop) (hx:IntS w R vt xs) (hR:∀b,R b→b<w.heap.size):Calls Tryz.prog 11 #[vt] w (MadePost w):=by
 obtain⟨At,nt,ct,rfl⟩:∃A n c,vt=.slice A n c:=by obtain⟨A,c,e,-⟩:=hx.1;exact⟨A,_,c,e⟩
 obtain⟨vt,hvt⟩:=zx (Value.slice At nt ct);obtain⟨W1,hW1⟩:=zx (((w.alloc (.cells #[.int .i64 0,.slice none 0 0,.slice none 0 0,.slice none 0 0,.slice none 0 0,.slice none 0 0,.slice none 0 0] 35)).alloc (.cells #[.slice none 0 0,.slice none 0 0,.slice none 0 0] 40)).alloc (.cells #[.slice At nt ct,.int .i64 0] 75));obtain⟨gT,hgT⟩:=zx (w.heap.size+1+1);obtain⟨g2,hg2⟩:=zx w.heap.size;have hmm:=@run_makeMap Tryz.prog;go_enter Tryz.func11,Tryz.ntmps11;go_wp2_with fail;rw[←hW1,←hgT,←hg2]
 have hT1:TapeB W1 gT (.slice At nt ct) 0:=by
  have h0:=heap_alloc_new ((w.alloc (.cells #[.int .i64 0,.slice none 0 0,.slice none 0 0,.slice none 0 0,.slice none 0 0,.slice none 0 0,.slice none 0 0] 35)).alloc (.cells #[.slice none 0 0,.slice none 0 0,.slice none 0 0] 40)) (.cells #[.slice At nt ct,.int .i64 0] 75);rw[show((w.alloc (.cells #[.int .i64 0,.slice none 0 0,.slice none 0 0,.slice none 0 0,.slice none 0 0,.slice none 0 0,.slice none 0 0] 35)).alloc (.cells #[.slice none 0 0,.slice none 0 0,.slice none 0 0] 40)).heap.size=gT by rw[hgT];simp] at h0;rw[hW1];exact h0
 have hb1:Below w.heap.size w W1:=by rw[hW1];exact(((Below.refl _ _).alloc (Nat.le_refl _) _).alloc (by simp) _).alloc (by simp;omega) _
 have hz1:W1.heap.size=gT+1:=by rw[hW1,hgT];simp
 have hf2:FltB W1 g2 0 (.slice none 0 0) (.slice none 0 0) (.slice none 0 0) (.slice none 0 0) (.slice none 0 0) (.slice none 0 0):=by
  have h0:=heap_alloc_new w (.cells #[.int .i64 0,.slice none 0 0,.slice none 0 0,.slice none 0 0,.slice none 0 0,.slice none 0 0,.slice none 0 0] 35);rw[hW1,hg2];exact(Below.heap_alloc _ _ _ (by simp;omega)).trans ((Below.heap_alloc _ _ _ (by simp)).trans h0)
 have hf3:W1.heap[g2+1]?=some (.cells #[.slice none 0 0,.slice none 0 0,.slice none 0 0] 40 (0,0)):=by
  have h0:=heap_alloc_new (w.alloc (.cells #[.int .i64 0,.slice none 0 0,.slice none 0 0,.slice none 0 0,.slice none 0 0,.slice none 0 0,.slice none 0 0] 35)) (.cells #[.slice none 0 0,.slice none 0 0,.slice none 0 0] 40);rw[show(w.alloc (.cells #[.int .i64 0,.slice none 0 0,.slice none 0 0,.slice none 0 0,.slice none 0 0,.slice none 0 0,.slice none 0 0] 35)).heap.size=g2+1 by rw[hg2];simp] at h0;rw[hW1];exact(Below.heap_alloc _ _ _ (by rw[hg2];simp)).trans h0
 have hx1:IntS W1 R (.slice At nt ct) xs:=hx.keep (fun b hb=>hb1.block b (hR b hb))
 have hRT:∀b,R b→b<W1.heap.size∧b≠gT:=fun b hb=>by have:=hR b hb;omega
 have HX1:=zh hx1;have HRT:=zh hRT;have HB1:=zh hb1;have HZ1:=zh (show W1.heap.size=gT+1∧gT=w.heap.size+1+1∧g2=w.heap.size from⟨hz1,hgT,hg2⟩);have HF2:=zh hf2;have HF3:=zh hf3;have HFL:=zh (fleet_any gT (.slice At nt ct) xs 0 2 W1 R hT1 hx1 hRT (by omega) (by omega) (by omega));clear hx hR hT1 hb1 hz1 hf2 hf3 hx1 hRT hW1 hgT hg2 hvt;refine HFL.out.mono ?_;rintro e w2 ⟨vl,vm,vd,vv,vp,vo,F,I0,rfl,hfs,hT2,hI0,hg,hok⟩;obtain⟨Al,nl,cl,rfl⟩:=hfs.1.form3;obtain⟨Am,nm,cm,rfl⟩:=hfs.2.1.form3;obtain⟨Ad,nd,cd,rfl⟩:=hfs.2.2.1.form3;obtain⟨Av,cv,hvv,-⟩:=hfs.2.2.2.1.form;obtain⟨Ap,cp,hvp,-⟩:=hfs.2.2.2.2.1.form;obtain⟨Ao,co,hvo,-⟩:=hfs.2.2.2.2.2.form;obtain⟨ND,hND⟩:=zx F.dves.length;obtain⟨NP,hNP⟩:=zx F.pols.length;obtain⟨NV,hNV⟩:=zx F.vols.length;rw[←hND] at hvv;rw[←hNP] at hvp;rw[←hNV] at hvo;subst hvv;subst hvp;subst hvo;have hext:=hok.ext
 obtain⟨EX,hEX⟩:∃EX:Nat,F.ext=(EX:Int)∧1≤EX∧EX≤2:=by
  rcases hext with h | h
  ·exact⟨1,h,by omega,by omega⟩
  ·exact⟨2,h,by omega,by omega⟩
 have HFS:=zh hfs;have HOK:=zh hok;have HNN:=zh (show ND=F.dves.length∧NP=F.pols.length∧NV=F.vols.length∧ND≤9∧1≤NP∧NP≤2∧NV≤2 from⟨hND,hNP,hNV,by have:=hok.dveN;omega,by have:=hok.pol1;omega,by have:=hok.polN;omega,by have:=hok.volN;omega⟩);have HEX:=zh hEX.2;have hEX1:=hEX.1;have HFE:=zh hEX1;have HH12:=zh (HotBy.grown hg (.inl (by simp)):HotBy [some gT] W1 w2);have HT2:=zh hT2;rw[hEX1];clear hfs hok hg hT2 hND hNP hNV hext hEX hEX1 HFL;go_upto_region 5 with fail;obtain⟨g6,hg6⟩:=zx w2.heap.size;obtain⟨W3,hW3⟩:=zx (w2.alloc (.cells #[.int .i64 (EX:Int),.slice Al nl cl,.slice Am nm cm,.slice Ad nd cd,.slice Av ND cv,.slice Ap NP cp,.slice Ao NV co] 35));obtain⟨gR,hgR⟩:=zx (g6+1);obtain⟨gM,hgM⟩:=zx (gR+1);obtain⟨W5,hW5⟩:=zx ((W3.alloc (.cells #[.slice none 0 0,.slice none 0 0,.slice none 0 0] 40)).alloc (.map #[] 0));rw[←hW3,←hg6,←hgR,←hgM,←hW5]
 have hz3:W3.heap.size=gR:=by rw[hW3,hgR,hg6];simp
 have hz4:(W3.alloc (.cells #[.slice none 0 0,.slice none 0 0,.slice none 0 0] 40)).heap.size=gM:=by rw[hgM,←hz3];simp
 have hF6:FltB W3 g6 (EX:Int) (.slice Al nl cl) (.slice Am nm cm) (.slice Ad nd cd) (.slice Av ND cv) (.slice Ap NP cp) (.slice Ao NV co):=by rw[hW3,hg6];exact heap_alloc_new _ _
 have hT3:TapeB W3 gT (.slice At nt ct) I0:=by rw[hW3];exact(Below.heap_alloc w2 _ gT HT2.out.lt).trans HT2.out
 have hgT3:gT<W3.heap.size:=hT3.lt
 have h35:HotBy [some gT] W3 W5:=by rw[hW5];exact(HotBy.alloc _ _ _).trans (HotBy.alloc _ _ _)
 have h35b:Below W3.heap.size W3 W5:=by rw[hW5];exact((Below.refl _ _).alloc (Nat.le_refl _) _).alloc (by simp) _
 have hmt:MadeT gT (.slice At nt ct) W3 gR gM W5 I0 (.slice none 0 0) (.slice none 0 0) (.slice none 0 0) (.slice none 0 0) (.slice none 0 0) (.slice none 0 0) [] [] [] 0 (fun _ _=>none):=by
  refine⟨(h35b.block gT hgT3).trans hT3,h35,?_,RowsP.nil _ _,World.ownsRow_nil _ _ _ _,World.ownsRow_nil _ _ _ _,?_,hgT3,by omega,by omega⟩
  ·rw[hW5,←hz3];exact(Below.heap_alloc _ _ _ (by simp)).trans (heap_alloc_new W3 _)
  ·rw[hW5,←hz4];exact MapKV.made _ _
 have hsa:StatA W1 R gT (.slice At nt ct) xs W3 g6:=⟨HX1.out,HRT.out,HH12.out.trans (by rw[hW3];exact HotBy.alloc _ _ _),by have:=HZ1.out.1;omega,by rw[hg6];exact HH12.out.size,hF6.lt⟩;have HMT:=zh hmt;have HSA:=zh hsa;have HF6:=zh hF6
 have HFS3:=zh (show FleetS W3 (Fr W1.heap.size W3.heap.size) (.slice Al nl cl) (.slice Am nm cm) (.slice Ad nd cd) (.slice Av ND cv) (.slice Ap NP cp) (.slice Ao NV co) F by
  rw[hW3];exact(HFS.out.keep ((kept_alloc w2 _).mono (fun b h=>h.2))).mono (Fr.more (Nat.le_refl _) (by simp)))
 have HS3:=zh (show W1.heap.size≤W3.heap.size∧W3.heap.size=gR∧gM=gR+1 from⟨hsa.hot.size,hz3,by omega⟩);have HF23:=zh (show FltB W3 g2 0 (.slice none 0 0) (.slice none 0 0) (.slice none 0 0) (.slice none 0 0) (.slice none 0 0) (.slice none 0 0) from(hsa.hot.block g2 HF2.out.lt (fun e=>by simp at e;have:=HZ1.out;omega)).trans HF2.out);have HF33:=zh (show W3.heap[g2+1]?=some (.cells #[.slice none 0 0,.slice none 0 0,.slice none 0 0] 40 (0,0)) from(hsa.hot.block (g2+1) (by have:=HZ1.out;omega) (fun e=>by simp at e;have:=HZ1.out;omega)).trans HF3.out);have HH3:=zh hsa.hot;obtain⟨vt,hvt⟩:=zx (Value.slice At nt ct);have HVT:=zh hvt;have HI0:=zh hI0;clear hg6 hW3 hgR hgM hW5 hz3 hz4 hF6 hT3 hgT3 h35 h35b hmt hsa hvt hI0 HFS HT2 HH12 HF2 HF3 hmm;go_wp2_with fail;go_loopg [9] ND (fun z v9 wr=>∃(d I:Nat) (vp vo:Value) (rs:List (Value×List ByteArray)) (on:List Bool),v9=.int .i64 (d:Int)∧z=ND - d∧d≤ND∧Hid (MadeT gT (.slice At nt ct) W3 gR gM wr I vp vo (.slice none 0 0) vp vo (.slice none 0 0) rs on [] 0 (fun _ _=>none))∧I=I0+d∧Hid (rs.length=d∧on.length=d∧∀(i:Nat) (x:Value×List ByteArray),rs[i]?=some x→x.2=[⟨blankB.toArray⟩]))
 case atStart=>exact⟨0,I0,_,_,[],[],rfl,rfl,Nat.zero_le _,HMT.out,rfl,⟨rfl,rfl,fun i x h=>by simp at h⟩⟩
 case round =>
  clear HMT;obtain⟨d,I,vp,vo,rs,on,rfl,rfl,hd,HM,rfl,HL⟩:=hrel;have hF:FltB wr g6 (EX:Int) (.slice Al nl cl) (.slice Am nm cm) (.slice Ad nd cd) (.slice Av ND cv) (.slice Ap NP cp) (.slice Ao NV co):=(HM.out.hot.block g6 HF6.out.lt (fun e=>by simp at e;have h1:=HSA.out.gF1;have h2:=HSA.out.gT;omega)).trans HF6.out;obtain⟨-,-,-,-,k4,-,-,-⟩:=hF.cells;clear hF;by_cases hlt:d<ND
  ·-- A1{
   have hq:ND≤9:=HNN.out.2.2.2.1;have HDN:=zh (show d≤9 by omega);have HLN:=zh (show rs.length=d∧on.length=d from⟨HL.out.1,HL.out.2.1⟩);obtain⟨Aw,cw,hvp⟩:=own_form HM.out.plat.top;obtain⟨Ax,cx,hvo⟩:=own_form HM.out.ons;rw[HLN.out.1] at hvp;rw[HLN.out.2] at hvo;subst hvp;subst hvo;obtain⟨k0,k1,k2,kf,hgl⟩:=HM.out.cells;obtain⟨i0,hi0,hz0,hz1,hz2⟩:=info_parts info_bool;obtain⟨j0,hj0,hy0,hy1,hy2⟩:=info_parts info_strs
   have hbl:=fun w=>blank_any w
   obtain⟨X,hX⟩:∃X:ByteArray,X=⟨(List.replicate 36 (0:UInt8)).toArray⟩:=⟨_,rfl⟩;rw[←hX] at hbl;have HBL:=zh hbl;have HX:=zh hX
   have HBS:=zh (show ∀s∈[X],s.size=36 by
    intro s hs;simp at hs;subst hs;rw[hX];show(List.replicate 36 (0:UInt8)).toArray.size=36
    simp)
   have HLT:=zh hlt;clear hbl hX hq hlt hd;go_upto_region 8 with fail;refine region_tail (S:=fun w'=>w'.cell? ⟨gR,0,none⟩=some (.slice Aw d cw)∧w'.cell? ⟨gR,1,none⟩=some (.slice Ax d cx)) [14,15,16] (by kernel_rfl) ⟨k0,k1⟩ (fun hHeld=>?_);refine tk 0 40 ?_;refine tk 1 41 ?_;refine tk 6 46 ?_;refine tk 7 47 ?_;refine tk 8 48 ?_;refine readyT (rs:=[2]) (by kernel_rfl) (by simp) ?_;refine AllReadyT.cons rfl (fun K hK=>?_) ?_
   ·go_simp;(go_at_call 31;refine(HBL.out _).mono ?_);rintro e w2 ⟨rfl,hb2⟩;have hM2:=HM.out.below (below_drewL hb2);obtain⟨k02,k12,-⟩:=hM2.cells;go_wp2_with fail;refine hK.out _ _ ?_ (fun hHeld=>?_)
    ·(refine⟨?_,?_⟩ <;> assumption)
    clear hK K;(try simp only[Act.put,z1,z2,z3]);refine readyT (rs:=[3]) (by kernel_rfl) (by simp) ?_;refine AllReadyT.cons rfl (fun K hK=>?_) ?_
    ·go_simp;have hM3:=hM2.alloc (.cells #[.string X] 9);obtain⟨k03,k13,-⟩:=hM3.cells;refine hK.out _ _ ?_ (fun hHeld=>?_)
     ·(refine⟨?_,?_⟩ <;> assumption)
     clear hK K;(try simp only[Act.put,z1,z2,z3]);refine readyT (rs:=[4]) (by kernel_rfl) (by simp) ?_;refine AllReadyT.cons rfl (fun K hK=>?_) ?_
     ·go_simp;have hM4:=hM3.alloc (.cells #[.slice (some ⟨w2.heap.size,0,none⟩) 1 1] 54);obtain⟨k04,k14,-⟩:=hM4.cells;have hn4:=heap_alloc_new (w2.alloc (.cells #[.string X] 9)) (.cells #[.slice (some ⟨w2.heap.size,0,none⟩) 1 1] 54);rw[show(w2.alloc (.cells #[.string X] 9)).heap.size=w2.heap.size+1 by simp] at hn4;have ht4:=hM4.plat.top;rw[HLN.out.1] at ht4;have hb4:=hM4.hot.size;refine hK.out _ _ ?_ (fun hHeld=>?_)
      ·(refine⟨?_,?_⟩ <;> assumption)
      clear hK K;(try simp only[Act.put,z1,z2,z3]);refine readyT (rs:=[5]) (by kernel_rfl) (by simp) ?_;refine AllReadyT.cons rfl (fun K hK=>?_) ?_
      ·refine step_append_lies _ (by rfl) _ _ _ (by rfl) W3.heap.size 54 j0 _ 1 24 Tryz.underlying36 hj0 hy0 hy1 hy2 rfl (by decide) (.slice Aw d cw) d (rs.map (·.1)) (by rfl) ht4 ⟨w2.heap.size+1,0,none⟩ 1 1 [.slice (some ⟨w2.heap.size,0,none⟩) 1 1] (by rfl) (by rfl) (World.news_of_block (cs:=#[.slice (some ⟨w2.heap.size,0,none⟩) 1 1]) (t:=54) (fr:=(0,0)) hn4) (by simp[Value.oneCell']) (by omega) (by have:=HDN.out;unfold maxLen;omega) (by have:=HDN.out;omega) hb4 (w2.heap.size+1+1) (by simp) ?_;intro gg cap w5 hown5 hg5 hat5 hlt5;have hrow:(((w2.alloc (.cells #[.string X] 9)).alloc (.cells #[.slice (some ⟨w2.heap.size,0,none⟩) 1 1] 54))).ownsRow W3.heap.size 9 1 (.slice (some ⟨w2.heap.size,0,none⟩) 1 1) [X].length ([X].map Value.string):=(World.ownsRow_lit w2 #[.string X] 1 hM2.hot.size (by unfold maxLen;omega) rfl).alloc _;have hM5:=hM4.pushP (l:=[X]) hrow (fun b e i x hx e2=>by have h1:=((hM2.plat.row i x hx).lt b e2).2;have h2:w2.heap.size=b:=(by injection e);omega) HBS.out hg5 (by rw[HLN.out.1];exact hown5);obtain⟨k05,k15,-⟩:=hM5.cells;refine hK.out _ _ ?_ (fun hHeld=>?_)
       ·(refine⟨?_,?_⟩ <;> assumption)
       clear hK K;(try simp only[Act.put,z1,z2,z3]);refine tk 13 53 ?_;refine readyT (rs:=[9]) (by kernel_rfl) (by simp) ?_;refine AllReadyT.cons rfl (fun K hK=>?_) ?_
       ·go_simp;(go_at_call 32;refine(InP.next_any HSA.out (hM5.hot.more (fun x hx _=>by simp at hx ⊢;exact .inl hx)) (InP.start hM5.tape) (by have:=HI0.out;have:=HDN.out;omega) 5 (by omega) (by omega) 5 rfl).mono ?_);rintro e w6 ⟨r,rfl,hr,hip,hh⟩;have hM6:=hM5.inP hip;obtain⟨k06,k16,-⟩:=hM6.cells;go_wp2_with fail;refine hK.out _ _ ?_ (fun hHeld=>?_)
        ·(refine⟨?_,?_⟩ <;> assumption)
        clear hK K;(try simp only[Act.put,z1,z2,z3]);refine tk 10 50 ?_;refine readyT (rs:=[11]) (by kernel_rfl) (by simp) ?_;refine AllReadyT.cons rfl (fun K hK=>?_) ?_
        ·go_simp;have hM7:=hM6.alloc (.cells #[.bool (decide (0<r))] 4);obtain⟨k07,k17,-⟩:=hM7.cells;have ht7:=hM7.ons;rw[HLN.out.2] at ht7;have hb7:=hM7.hot.size;refine hK.out _ _ ?_ (fun hHeld=>?_)
         ·(refine⟨?_,?_⟩ <;> assumption)
         clear hK K;(try simp only[Act.put,z1,z2,z3]);refine readyT (rs:=[12]) (by kernel_rfl) (by simp) ?_;refine AllReadyT.cons rfl (fun K hK=>?_) ?_
         ·refine step_append_lies _ (by rfl) _ _ _ (by rfl) W3.heap.size 4 i0 _ 1 1 Tryz.underlying37 hi0 hz0 hz1 hz2 rfl (by decide) (.slice Ax d cx) d (on.map Value.bool) (by rfl) ht7 ⟨w6.heap.size,0,none⟩ 1 1 [.bool (decide (0<r))] (by rfl) (by rfl) (World.news_of_block (cs:=#[.bool (decide (0<r))]) (t:=4) (fr:=(0,0)) (heap_alloc_new w6 _)) (by simp[Value.oneCell']) (by omega) (by have:=HDN.out;unfold maxLen;omega) (by have:=HDN.out;omega) hb7 (w6.heap.size+1) (by simp) ?_;intro gh cap2 w8 hown8 hg8 hat8 hlt8;have hM8:=hM7.pushO (x:=decide (0<r)) hg8 (by rw[HLN.out.2];exact hown8);obtain⟨k08,k18,-,f8,-⟩:=hM8.cells;have f08:=f8 0;refine hK.out _ _ ?_ (fun hHeld=>?_)
          ·(refine⟨?_,?_⟩ <;> assumption)
          clear hK K;(try simp only[Act.put,z1,z2,z3]);refine readyT (rs:=[14]) (by kernel_rfl) (by simp) ?_;refine AllReadyT.consT rfl rfl (fun K hK=>?_) ?_
          ·go_simp;have hM9:=hM8.set0 (.slice (some ⟨gg,0,none⟩) (d+1) cap);obtain⟨k09,k19,-,f9,-⟩:=hM9.cells;have f19:=f9 1;refine hK.out _ _ ?_;clear hK K;(try simp only[Act.put,z1,z2,z3]);refine readyT (rs:=[15]) (by kernel_rfl) (by simp) ?_;refine AllReadyT.consT rfl rfl (fun K hK=>?_) ?_
           ·go_simp;refine hK.out _ _ ?_;clear hK K;(try simp only[Act.put,z1,z2,z3]);refine readyT (rs:=[16]) (by kernel_rfl) (by simp) ?_;refine AllReadyT.consT rfl rfl (fun K hK=>?_) ?_
            ·go_simp;have hM10:=hM9.set1 (.slice (some ⟨gh,0,none⟩) (d+1) cap2);refine hK.out _ _ ?_;clear hK K;(try simp only[Act.put,z1,z2,z3]);refine doneT (by kernel_rfl) ?_ _;have HM10:=zh hM10
             have HL10:=zh (show(rs++[(Value.slice (some ⟨w2.heap.size,0,none⟩) 1 1,[X])]).length=d+1∧(on++[decide (0<r)]).length=d+1∧∀(i:Nat) (x:Value×List ByteArray),(rs++[(Value.slice (some ⟨w2.heap.size,0,none⟩) 1 1,[X])])[i]?=some x→x.2=[⟨blankB.toArray⟩] from⟨by rw[List.length_append,HLN.out.1];rfl,by rw[List.length_append,HLN.out.2];rfl,fun i x hx=>by
              rcases Nat.lt_or_ge i rs.length with h1 | h1
              ·rw[List.getElem?_append_left h1] at hx;exact HL.out.2.2 i x hx
              ·rw[List.getElem?_append_right h1] at hx
               have h2:i - rs.length=0:=by have:=(List.getElem?_eq_some_iff.1 hx).1;simp at this;omega
               rw[h2] at hx;simp at hx
               rw[←hx,HX.out];rfl⟩)
             clear hM2 hM3 hM4 hM5 hM6 hM7 hM8 hM9 hM10 hown5 hown8 hg5 hg8 hat5 hat8 hlt5 hlt8 k02 k12 k03 k13 k04 k14 k05 k15 k06 k16 k07 k17 k08 k18 k09 k19 f8 f08 f9 f19 ht4 ht7 hb4 hb7 hn4 hrow hip hh hb2 k0 k1 k2 kf
             have hd9:(d:Int)≤9:=by have:=HDN.out;omega
             go_wp2_with fail;go_roundg (ND - (d+1))
             case measure=>have:=HLT.out;omega
             case rel=>exact⟨d+1,I0+d+1,_,_,_,_,by go_num,rfl,HLT.out,HM10.out,by omega,HL10.out⟩
            exact AllReadyT.nil
           exact AllReadyT.nil
          exact AllReadyT.nil
         exact AllReadyT.nil
        exact AllReadyT.nil
       exact AllReadyT.nil
      exact AllReadyT.nil
     exact AllReadyT.nil
    exact AllReadyT.nil
   exact AllReadyT.nil
  ·-- A2{
   have hnlt:¬(d:Int)<(ND:Int):=by omega
   obtain rfl:ND=d:=by omega
   obtain⟨WL,rfl⟩:=zx (wr:World);have HLN:=zh (show rs.length=ND∧on.length=ND from⟨HL.out.1,HL.out.2.1⟩)
   have hpos:0<rs.length:=by rw[HLN.out.1,HNN.out.1];exact HOK.out.dve1
   obtain⟨gv,cw,hvp,-,-⟩:=World.ownsRow.form HM.out.plat.top hpos;obtain⟨gx,cx,hvo,-,-⟩:=World.ownsRow.form HM.out.ons (by rw[HLN.out.2,←HLN.out.1];exact hpos);rw[HLN.out.1] at hvp;rw[HLN.out.2] at hvo;subst hvp;subst hvo;obtain⟨I1,hI1⟩:=zx (I0+ND);have HI1:=zh (show I1≤1010 by have:=HI0.out;have:=HNN.out;omega);rw[←hI1] at HM
   have HST:=zh (show StI F ND I1 I1 rs [] 0 (fun _ _=>none) EX 0 0 from⟨HLN.out.1,fun i x hx=>by
    have h1:=HL.out.2.2 i x hx
    exact⟨by rw[h1];simp;omega,fun s hs=>by
     rw[h1] at hs;simp at hs;rw[hs]
     exact .inl (by simp)⟩,rfl,fun x hx=>by simp at hx,fun x hx=>by simp at hx,Nat.zero_le _⟩)
   clear HL hpos hI1 hlt hd;go_wp2_with fail;clear hnlt k4;go_loopg [10] NV (fun z v10 wr=>∃(v I:Nat) (va:Value) (rs:List (Value×List ByteArray)) (st:List Stp) (n:Nat) (f:Int→Int→Option Value),v10=.int .i64 (v:Int)∧z=NV - v∧v≤NV∧Hid (MadeT gT (.slice At nt ct) W3 gR gM wr I (.slice (some ⟨gv,0,none⟩) ND cw) (.slice (some ⟨gx,0,none⟩) ND cx) va (.slice (some ⟨gv,0,none⟩) ND cw) (.slice (some ⟨gx,0,none⟩) ND cx) va rs on (st.map Stp.ack) n f)∧I≤I1+60 * (EX * v)∧Hid (StI F ND I1 I rs st n f EX v 0))
   case atStart=>exact⟨0,I1,_,rs,[],0,_,rfl,rfl,Nat.zero_le _,HM.out,by omega,HST.out⟩
   case round =>
    clear HM HST;obtain⟨v,I,va,rs,st,n,f,rfl,rfl,hv,HM,hI,HST⟩:=hrel;have hF:FltB wr g6 (EX:Int) (.slice Al nl cl) (.slice Am nm cm) (.slice Ad nd cd) (.slice Av ND cv) (.slice Ap NP cp) (.slice Ao NV co):=(HM.out.hot.block g6 HF6.out.lt (fun e=>by simp at e;have h1:=HSA.out.gF1;have h2:=HSA.out.gT;omega)).trans HF6.out;have HFw:=zh hF;obtain⟨f0,-,-,-,f4,f5,f6,-⟩:=hF.cells;clear hF;by_cases hlt:v<NV
    ·-- B1{
     have hlt2:(v:Int)<(NV:Int):=by omega
     have hkf:Kept (Fr W1.heap.size W3.heap.size) W3 wr:=HM.out.hot.keptFr (fun b e=>by simp at e;have:=HSA.out.gT;omega) (Nat.le_refl _);have hsz3:=HM.out.hot.size;have hvl:=HNN.out.2.2.1;have hpl:=HNN.out.2.1;obtain⟨bo,oo,cs1,rfl,hRo,-,hco,hko⟩:=(SlS.keep volK HFS3.out.2.2.2.2.2 hkf).at_ (k:=v) (by omega);obtain⟨-,hnm,p,hpe,hpN⟩:=HOK.out.vols v F.vols[v] (List.getElem?_eq_getElem (by omega));obtain⟨bp,op,cs2,rfl,hRp,-,hcp,hkp⟩:=(SlS.keep polK HFS3.out.2.2.2.2.1 hkf).at_ (k:=p) hpN;obtain⟨-,-,hpw⟩:=HOK.out.pols p F.pols[p] (List.getElem?_eq_getElem hpN)
     obtain⟨k,hk⟩:∃k:Nat,F.pols[p].k=(k:Int)∧1≤k∧k≤2:=by
      rcases hpw.1 with h | h
      ·exact⟨1,h,by omega,by omega⟩
      ·exact⟨2,h,by omega,by omega⟩
     obtain⟨m,hm⟩:∃m:Nat,F.pols[p].m=(m:Int)∧m≤2:=⟨F.pols[p].m.toNat,by have:=hpw.2.1;omega,by have:=hpw.2.2.1;omega⟩;have HPX:=zh (show ∃(vx:VolM) (px:PolM),F.vols[v]?=some vx∧F.pols[vx.pol.toNat]?=some px∧(k:Int)=px.k∧(m:Int)=px.m from⟨F.vols[v],F.pols[p],List.getElem?_eq_getElem (by omega),by rw[hpe];exact List.getElem?_eq_getElem hpN,hk.1.symm,hm.1.symm⟩);obtain⟨vm,vr,tn,td,hn,hd,hke,hkm,hkr,htn,htd,hhn,hhd⟩:=hkp;obtain⟨Am2,nm2,cm2,rfl⟩:=IntS.form3 hkm;obtain⟨Ar2,nr2,cr2,rfl⟩:=hkr.form3;obtain⟨An2,nn2,cn2,rfl⟩:=htn.form3;obtain⟨Ad2,nd2,cd2,rfl⟩:=htd.form3;obtain⟨Ah2,nh2,ch2,rfl⟩:=hhn.form3;obtain⟨Ae2,ne2,ce2,rfl⟩:=hhd.form3;rw[hk.1,hm.1] at hke
     have hpe2:w_cell_pol wr bo oo v p:=by
      have:=hco 1 (.int .i64 F.vols[v].pol) (by rw[hko];rfl);rw[hpe] at this;exact this
     rw[hke] at hcp;have HCP:=zh (fun(w':World) (hw:Kept (Bl W3.heap.size) wr w')=>(show w'.rangeAt bp (op+p * 17) _ from fun i c hi=>(hw.cell hRp.2).trans (hcp i c hi)));have HCO:=zh (fun(w':World) (hw:Kept (Bl W3.heap.size) wr w')=>(hw.cell (b:=bo) (o:=oo+v * 2+1) hRo.2).trans hpe2);obtain⟨q,hq⟩:=zx (F.pols[p].q);obtain⟨s3,hs3⟩:=zx (F.pols[p].s3);obtain⟨s4,hs4⟩:=zx (F.pols[p].s4);obtain⟨X,hX⟩:=zx (F.pols[p].name);obtain⟨b1,hb1⟩:=zx (F.pols[p].target.neg);obtain⟨b2,hb2⟩:=zx (F.pols[p].horizon.neg);rw[←hq,←hs3,←hs4,←hX,←hb1,←hb2] at HCP;have HS12:=zh (fun(w':World) (hw:Kept (Bl W3.heap.size) wr w')=>(And.intro ((hw.cell (b:=g6) (o:=5) HF6.out.lt).trans f5) (And.intro ((hw.cell (b:=g6) (o:=6) HF6.out.lt).trans f6) (And.intro (HCO.out w' hw) (HCP.out w' hw)))));have HKM:=zh (show 1≤k∧k≤2∧m≤2 from⟨hk.2.1,hk.2.2,hm.2⟩)
     have hp2:(p:Int)<(NP:Int):=by omega
     have HP2:=zh hpN;have HLT:=zh hlt;clear hke hq hs3 hs4 hX hb1 hb2 hcp hco hko hkm hkr htn htd hhn hhd hk hm hpw hpe hpe2 hnm hpN hlt hkf hRo hRp hvl hpl;go_upto_region 12 with fail;refine region_tail (S:=fun w'=>w'.cell? ⟨g6,5,none⟩=some (.slice (some ⟨bp,op,none⟩) NP cp)∧w'.cell? ⟨g6,6,none⟩=some (.slice (some ⟨bo,oo,none⟩) NV co)∧w'.cell? ⟨bo,oo+v * 2+1,none⟩=some (.int .i64 (p:Int))∧w'.rangeAt bp (op+p * 17) [.string X,.int .i64 (k:Int),.int .i64 (m:Int),.int .i64 q,.int .i64 0,.int .i64 0,.int .i64 0,.int .i64 s3,.int .i64 s4,.slice Am2 nm2 cm2,.slice Ar2 nr2 cr2,.bool b1,.slice An2 nn2 cn2,.slice Ad2 nd2 cd2,.bool b2,.slice Ah2 nh2 ch2,.slice Ae2 ne2 ce2]) [11] (by kernel_rfl) (HS12.out _ (Kept.refl _ _)) (fun hHeld=>?_);refine tk 0 62 ?_;refine tk 1 63 ?_;refine tk 2 64 ?_;refine tk 3 65 ?_;refine tk 4 66 ?_;refine tk 5 67 ?_;refine tk 6 68 ?_;refine tk 7 69 ?_;refine tk 8 70 ?_;refine takeT (i:=9) (d:=71) (v:=(.agg #[.string X,.int .i64 (k:Int),.int .i64 (m:Int),.int .i64 q,.int .i64 0,.int .i64 0,.int .i64 0,.int .i64 s3,.int .i64 s4,.slice Am2 nm2 cm2,.slice Ar2 nr2 cr2,.bool b1,.slice An2 nn2 cn2,.slice Ad2 nd2 cd2,.bool b2,.slice Ah2 nh2 ch2,.slice Ae2 ne2 ce2])) rfl rfl (by kernel_rfl) (by kernel_rfl) (by kernel_rfl) (by kernel_rfl) (fun _ _ _ h=>h) (yieldsIf_load_mid (by rfl) 85 (.tmp 70) rfl bp (op+p * 17) (by rfl) [.string X,.int .i64 (k:Int),.int .i64 (m:Int),.int .i64 q,.int .i64 0,.int .i64 0,.int .i64 0,.int .i64 s3,.int .i64 s4,.slice Am2 nm2 cm2,.slice Ar2 nr2 cr2,.bool b1,.slice An2 nn2 cn2,.slice Ad2 nd2 cd2,.bool b2,.slice Ah2 nh2 ch2,.slice Ae2 ne2 ce2] _ (fun w hw=>hw.2.2.2) Tryz.underlying85 rfl size_pol) (by assumption) ?_;(try simp only[Act.put,z1,z2,z3]);refine readyT (rs:=[10]) (by kernel_rfl) (by simp) ?_;refine AllReadyT.cons rfl (fun K hK=>?_) ?_
     ·go_simp;refine hK.out _ _ ?_ (fun hHeld=>?_)
      ·exact HS12.out _ (fun b hb=>Below.heap_alloc wr.drew _ b (Nat.lt_of_lt_of_le hb hsz3))
      clear hK K;(try simp only[Act.put,z1,z2,z3]);refine readyT (rs:=[11]) (by kernel_rfl) (by simp) ?_;refine AllReadyT.consT rfl rfl (fun K hK=>?_) ?_
      ·rw[if_pos (by rfl)];refine wp_store_mid 85 (.tmp 11) (.tmp 71) rfl wr.heap.size 0 #[.string X,.int .i64 (k:Int),.int .i64 (m:Int),.int .i64 q,.int .i64 0,.int .i64 0,.int .i64 0,.int .i64 s3,.int .i64 s4,.slice Am2 nm2 cm2,.slice Ar2 nr2 cr2,.bool b1,.slice An2 nn2 cn2,.slice Ad2 nd2 cd2,.bool b2,.slice Ah2 nh2 ch2,.slice Ae2 ne2 ce2] (by rfl) (by rfl) (there_of_block (cs:=#[.string ⟨#[]⟩,.int .i64 0,.int .i64 0,.int .i64 0,.int .i64 0,.int .i64 0,.int .i64 0,.int .i64 0,.int .i64 0,.slice none 0 0,.slice none 0 0,.bool false,.slice none 0 0,.slice none 0 0,.bool false,.slice none 0 0,.slice none 0 0]) (heap_alloc_new wr _) (Nat.le_refl 17)) size_pol (by simp[Value.oneCell']) ?_;refine hK.out _ _ ?_;clear hK K;(try simp only[Act.put,z1,z2,z3]);refine doneT (by kernel_rfl) ?_ _;go_wp2_with fail;obtain⟨gp,hgp⟩:=zx wr.heap.size;obtain⟨wP,hwP⟩:=zx (((wr.alloc (.cells #[.string ⟨#[]⟩,.int .i64 0,.int .i64 0,.int .i64 0,.int .i64 0,.int .i64 0,.int .i64 0,.int .i64 0,.int .i64 0,.slice none 0 0,.slice none 0 0,.bool false,.slice none 0 0,.slice none 0 0,.bool false,.slice none 0 0,.slice none 0 0] 85)).drew).setCells wr.heap.size 0 [.string X,.int .i64 (k:Int),.int .i64 (m:Int),.int .i64 q,.int .i64 0,.int .i64 0,.int .i64 0,.int .i64 s3,.int .i64 s4,.slice Am2 nm2 cm2,.slice Ar2 nr2 cr2,.bool b1,.slice An2 nn2 cn2,.slice Ad2 nd2 cd2,.bool b2,.slice Ah2 nh2 ch2,.slice Ae2 ne2 ce2]);rw[←hwP,←hgp];have hth:World.there ((wr.alloc (.cells #[.string ⟨#[]⟩,.int .i64 0,.int .i64 0,.int .i64 0,.int .i64 0,.int .i64 0,.int .i64 0,.int .i64 0,.int .i64 0,.slice none 0 0,.slice none 0 0,.bool false,.slice none 0 0,.slice none 0 0,.bool false,.slice none 0 0,.slice none 0 0] 85)).drew) wr.heap.size 0 17:=there_of_block (cs:=#[.string ⟨#[]⟩,.int .i64 0,.int .i64 0,.int .i64 0,.int .i64 0,.int .i64 0,.int .i64 0,.int .i64 0,.int .i64 0,.slice none 0 0,.slice none 0 0,.bool false,.slice none 0 0,.slice none 0 0,.bool false,.slice none 0 0,.slice none 0 0]) (heap_alloc_new wr _) (Nat.le_refl 17);have hrg:=World.rangeAt_setCells_same _ wr.heap.size 0 [.string X,.int .i64 (k:Int),.int .i64 (m:Int),.int .i64 q,.int .i64 0,.int .i64 0,.int .i64 0,.int .i64 s3,.int .i64 s4,.slice Am2 nm2 cm2,.slice Ar2 nr2 cr2,.bool b1,.slice An2 nn2 cn2,.slice Ad2 nd2 cd2,.bool b2,.slice Ah2 nh2 ch2,.slice Ae2 ne2 ce2] hth;have hin:=((InP.start HM.out.tape).alloc (.cells #[.string ⟨#[]⟩,.int .i64 0,.int .i64 0,.int .i64 0,.int .i64 0,.int .i64 0,.int .i64 0,.int .i64 0,.int .i64 0,.slice none 0 0,.slice none 0 0,.bool false,.slice none 0 0,.slice none 0 0,.bool false,.slice none 0 0,.slice none 0 0] 85)).drew;have hho:=hot_setCells ((wr.alloc (.cells #[.string ⟨#[]⟩,.int .i64 0,.int .i64 0,.int .i64 0,.int .i64 0,.int .i64 0,.int .i64 0,.int .i64 0,.int .i64 0,.slice none 0 0,.slice none 0 0,.bool false,.slice none 0 0,.slice none 0 0,.bool false,.slice none 0 0,.slice none 0 0] 85)).drew) wr.heap.size [.string X,.int .i64 (k:Int),.int .i64 (m:Int),.int .i64 q,.int .i64 0,.int .i64 0,.int .i64 0,.int .i64 s3,.int .i64 s4,.slice Am2 nm2 cm2,.slice Ar2 nr2 cr2,.bool b1,.slice An2 nn2 cn2,.slice Ad2 nd2 cd2,.bool b2,.slice Ah2 nh2 ch2,.slice Ae2 ne2 ce2] 0;rw[←hwP] at hrg hho;have hin2:=hin.new HM.out.tape.lt hho (fun b e=>by simp at e;omega);have HIP:=zh hin2
       have hty:∃cs,wP.heap[wr.heap.size]?=some (.cells cs 85 (0,0)):=by rw[hwP];exact setCells_type _ 0 _ ⟨_,heap_alloc_new wr _⟩
       have HPQ:=zh (show PolQ wP gp k m from by rw[hgp];exact⟨hty,hrg 1 _ rfl,hrg 2 _ rfl⟩);clear hth hrg hin hho hin2 hty;have HMP:=zh (HM.out.inP HIP.out);have HGP:=zh (show gp<wP.heap.size∧W3.heap.size≤gp from⟨HPQ.out.cells.2.2,by rw[hgp];exact hsz3⟩);have HIB:=zh hI;obtain⟨wV,rfl⟩:=zx (wr:World);clear hgp hwP HIP HM hI f0 f4 f5 f6 HCP HCO HS12 hHeld HFw hsz3 hp2 hlt2;go_loopg [12] EX (fun z v12 wr=>∃(s I:Nat) (va:Value) (rs:List (Value×List ByteArray)) (st:List Stp) (n:Nat) (f:Int→Int→Option Value),v12=.int .i64 (s:Int)∧z=EX - s∧s≤EX∧Hid (MadeT gT (.slice At nt ct) W3 gR gM wr I (.slice (some ⟨gv,0,none⟩) ND cw) (.slice (some ⟨gx,0,none⟩) ND cx) va (.slice (some ⟨gv,0,none⟩) ND cw) (.slice (some ⟨gx,0,none⟩) ND cx) va rs on (st.map Stp.ack) n f)∧I≤I1+60 * (EX * v+s)∧Hid (StI F ND I1 I rs st n f EX v s)∧Hid (PolQ wr gp k m))
       case atStart=>exact⟨0,I,va,rs,st,n,f,rfl,rfl,Nat.zero_le _,HMP.out,HIB.out,HST.out,HPQ.out⟩
       case round =>
        clear HMP HST HPQ HIB;obtain⟨s,I,va,rs,st,n,f,rfl,rfl,hs,HM,hI,HST,HPQ⟩:=hrel;have hF:FltB wr g6 (EX:Int) (.slice Al nl cl) (.slice Am nm cm) (.slice Ad nd cd) (.slice Av ND cv) (.slice (some ⟨bp,op,none⟩) NP cp) (.slice (some ⟨bo,oo,none⟩) NV co):=(HM.out.hot.block g6 HF6.out.lt (fun e=>by simp at e;have h1:=HSA.out.gF1;have h2:=HSA.out.gT;omega)).trans HF6.out;have f0:=hF.cells.1;clear hF;by_cases hlt:s<EX
        ·-- C1{
         have hs2:(s:Int)<(EX:Int):=by omega
         have HSE:=zh (show s<EX from hlt)
         have HJ:=zh (show I≤1300 by
          have h1:=HI1.out;have h2:=HEX.out;have h3:=HNN.out.2.2.2.2.2.2;have h4:=HLT.out;have:EX * v≤2 * 1:=Nat.mul_le_mul h2.2 (by omega)
          omega)
         have HIB:=zh hI;clear hlt hI hs;go_wp2_with fail;refine(InP.next_any HSA.out (HM.out.hot.more (fun x hx _=>by simp at hx ⊢;exact .inl hx)) (InP.start HM.out.tape) (by have:=HJ.out;omega) 3 (by omega) (by omega) 3 rfl).mono ?_;rintro e w10 ⟨rn,rfl,hrn,hip,-⟩;have HPQ:=zh (HPQ.out.hot hip.hot (fun e=>by simp at e;have:=HGP.out;have:=HM.out.gT1;omega));have HM:=zh (HM.out.inP hip);have hwn:IntKind.i64.wrap (2+(rn:Int))=2+(rn:Int):=IntWalk.i64_in _ (by omega);clear hip;go_upto_region 17 with fail;clear hwn;obtain⟨Aa,ca,hva⟩:=own_form HM.out.aks;obtain⟨NA,hNA⟩:=zx ((st.map Stp.ack).length);rw[←hNA] at hva;subst hva
         have HNA:=zh (show NA=(st.map Stp.ack).length∧NA≤100 from⟨hNA,by
          have h1:=congrArg List.length HST.out.keys;rw[List.length_map] at h1;have h2:=keysTo_le EX v s HEX.out.2 (by have:=HLT.out;have:=HNN.out.2.2.2.2.2.2;omega) (by have:=HSE.out;have:=HEX.out;omega)
          rw[hNA,List.length_map];omega⟩)
         clear hNA;obtain⟨k0,k1,k2,kf,hgl⟩:=HM.out.cells;obtain⟨i0,hi0,hz0,hz1,hz2⟩:=info_parts info_ack;obtain⟨nv,hnv⟩:∃nv:Nat,nv=2+rn:=⟨_,rfl⟩
         have hnvI:2+(rn:Int)=(nv:Int):=by omega
         rw[hnvI];have HNV2:=zh (show 2≤nv∧nv≤4 by omega);clear hnv hnvI hrn k0 k1 kf;refine region_tail (S:=fun w'=>w'.cell? ⟨gR,2,none⟩=some (.slice Aa NA ca)) [11] (by kernel_rfl) k2 (fun hHeld=>?_);refine tk 0 81 ?_;refine tk 1 82 ?_;refine tk 2 83 ?_;refine tk 3 84 ?_;refine tk 4 85 ?_;refine tk 5 86 ?_;refine readyT (rs:=[6]) (by kernel_rfl) (by simp) ?_;refine AllReadyT.cons rfl (fun K hK=>?_) ?_
         ·go_simp;(go_at_call 32;refine(InP.next_any HSA.out (HM.out.drew.hot.more (fun x hx _=>by simp at hx ⊢;exact .inl hx)) (InP.start HM.out.drew.tape) (by have:=HJ.out;omega) 2 (by omega) (by omega) 2 rfl).mono ?_);rintro e w11 ⟨ra,rfl,hra,hip,hh⟩;have hM1:=HM.out.drew.inP hip;have HPQ:=zh (PolQ.hot (w:=w10.drew) HPQ.out hip.hot (fun e=>by simp at e;have:=HGP.out;have:=HM.out.gT1;omega));obtain⟨-,-,k21,-⟩:=hM1.cells;go_wp2_with fail;refine hK.out _ _ ?_ (fun hHeld=>?_)
          ·assumption
          clear hK K;(try simp only[Act.put,z1,z2,z3]);refine tk 7 88 ?_;refine readyT (rs:=[8]) (by kernel_rfl) (by simp) ?_;refine AllReadyT.cons rfl (fun K hK=>?_) ?_
          ·go_simp;have hM2:=hM1.alloc (.cells #[.int .i64 (v:Int),.int .i64 (s:Int),.int .i64 (nv:Int),.int .i64 (ra:Int)] 89);obtain⟨-,-,k22,-⟩:=hM2.cells;have ht2:=hM2.aks;rw[←HNA.out.1] at ht2;have hb2:=hM2.hot.size;refine hK.out _ _ ?_ (fun hHeld=>?_)
           ·assumption
           clear hK K;(try simp only[Act.put,z1,z2,z3]);refine readyT (rs:=[9]) (by kernel_rfl) (by simp) ?_;refine AllReadyT.cons rfl (fun K hK=>?_) ?_
           ·refine step_append_lies _ (by rfl) _ _ _ (by rfl) W3.heap.size 89 i0 _ 4 32 Tryz.underlying38 hi0 hz0 hz1 hz2 rfl (by decide) (.slice Aa NA ca) NA ((st.map Stp.ack).flatMap acC) (by rfl) ht2 ⟨w11.heap.size,0,none⟩ 1 1 [.int .i64 (v:Int),.int .i64 (s:Int),.int .i64 (nv:Int),.int .i64 (ra:Int)] (by rfl) (by rfl) (World.news_of_block (cs:=#[.int .i64 (v:Int),.int .i64 (s:Int),.int .i64 (nv:Int),.int .i64 (ra:Int)]) (t:=89) (fr:=(0,0)) (heap_alloc_new w11 _)) (by simp[Value.oneCell']) (by omega) (by have:=HNA.out;unfold maxLen;omega) (by have:=HNA.out;omega) hb2 (w11.heap.size+1) (by simp) ?_;intro gg cap w12 hown5 hg5 hat5 hlt5;have hM3:=hM2.pushA (x:=⟨(v:Int),(s:Int),(nv:Int),(ra:Int)⟩) hg5 (by rw[←HNA.out.1];exact hown5);obtain⟨-,-,k23,f3,-⟩:=hM3.cells;have f23:=f3 2;refine hK.out _ _ ?_ (fun hHeld=>?_)
            ·assumption
            clear hK K;(try simp only[Act.put,z1,z2,z3]);refine tk 10 91 ?_;refine readyT (rs:=[11]) (by kernel_rfl) (by simp) ?_;refine AllReadyT.consT rfl rfl (fun K hK=>?_) ?_
            ·go_simp;have hM4:=hM3.set2 (.slice (some ⟨gg,0,none⟩) (NA+1) cap);refine hK.out _ _ ?_;clear hK K;(try simp only[Act.put,z1,z2,z3]);refine doneT (by kernel_rfl) ?_ _;obtain⟨wA,hwA⟩:=zx (w12.setCell ⟨gR,2,none⟩ (.slice (some ⟨gg,0,none⟩) (NA+1) cap));rw[←hwA] at hM4;rw[←hwA];have HMA:=zh hM4
             have HPA:=zh (show PolQ wA gp k m by
              rw[hwA]
              have h1:=(HPQ.out.hot (HotBy.alloc [] w11 (.cells #[.int .i64 (v:Int),.int .i64 (s:Int),.int .i64 (nv:Int),.int .i64 (ra:Int)] 89)) (by simp)).hotT (HotBy.grown (hot:=[(Value.slice Aa NA ca).ownBlock]) hg5 (.inl (by simp))) (fun b e=>by
               obtain⟨cs,h2⟩:=own_type hM2.aks e
               exact⟨cs,_,h2,by decide⟩)
              exact h1.hotT (HotBy.setCell [some gR] _ _ _ (by simp)) (fun b e=>by injection e with e;subst e;exact⟨_,_,hM3.rea,by decide⟩))
             have HRA:=zh (show ra≤1 by omega);clear hM1 hM2 hM3 hM4 hown5 hg5 hat5 hlt5 k21 k22 k23 f3 f23 ht2 hb2 hip hh hHeld k2 HPQ HM hwA hra;obtain⟨IA,hIA⟩:=zx (I+1+1);rw[←hIA] at HMA;have HIA:=zh hIA;clear hIA;go_wp2_with fail;go_loopg [14,15,16] k (fun z v14 v15 v16 wr=>∃(j J:Nat) (rw:Mat),v16=.int .i64 (j:Int)∧z=k - j∧j≤k∧v15=.string ⟨rw.flatten.toArray⟩∧J=IA+2 * j∧Hid (InP gT (.slice At nt ct) wA wr J)∧Hid (OwnK 1 ByK wr wA.heap.size 53 v14 rw (Fz wA.heap.size wr.heap.size v14))∧Hid (rw.length=j∧Wide rw 16))
             case atStart=>exact⟨0,IA,[],rfl,rfl,Nat.zero_le _,rfl,rfl,InP.start HMA.out.tape,OwnK.nil _ _ _ _ _ _,rfl,fun r hr=>by simp at hr⟩
             case round =>
              obtain⟨j,J,rw,rfl,rfl,hj,rfl,rfl,HIP,HRO,HRW⟩:=hrel;have hpq:=HPA.out.hot HIP.out.hot (fun e=>by simp at e;have:=HGP.out;have:=HMA.out.gT1;omega);obtain⟨p1,p2,hpl⟩:=hpq.cells;have HPQ:=zh hpq;clear hpq;by_cases hlt:j<k
              ·-- D1{
               have hj2:(j:Int)<(k:Int):=by omega
               have hmk:∀w:World,(Instr.makeSlice 53 (.int .i64 16) (.int .i64 16)).run Tryz.prog w=.ok (.slice (some ⟨w.heap.size,0,none⟩) 16 16) (w.alloc (.cells (Array.replicate 16 (.int .u8 0)) 5)):=mk_u8 16 (by omega);go_upto_region 24 with fail;obtain⟨gb,hgb⟩:=zx wr.heap.size;obtain⟨wB,hwB⟩:=zx (wr.alloc (.cells (Array.replicate 16 (.int .u8 0)) 5));rw[←hgb,←hwB]
               have hbk:BlkB wB gb (List.replicate 16 0):=by rw[hwB,hgb];exact BlkB.new wr 16
               have hAr:wA.heap.size≤gb:=by rw[hgb];exact HIP.out.hot.size
               have HIB:=zh (show InP gT (.slice At nt ct) wA wB _ by rw[hwB];exact HIP.out.alloc _);have HAR:=zh hAr
               have hgt2:some gb∉[some gT]:=fun e=>by simp at e;have:=HMA.out.tape.lt;omega
               have HGT2:=zh hgt2;have HH0:=zh (HotBy.alloc [] wr (.cells (Array.replicate 16 (.int .u8 0)) 5));rw[←hwB] at HH0;have HBK:=zh hbk;have HLT2:=zh hlt;have HGB:=zh hgb;clear hgb hwB hbk hAr hgt2 hmk p1 p2 hpl hlt hj;go_wp2_with fail;refine(InP.next_any HSA.out (HMA.out.hot.more (fun x hx _=>by simp at hx ⊢;exact .inl hx)) HIB.out (by have:=HJ.out;have:=HIA.out;have:=HKM.out;have:=HLT2.out;omega) 256 (by omega) (by omega) 256 rfl).mono ?_;rintro e w13 ⟨y1,rfl,hy1,hip,hh⟩;have HBK:=zh (show BlkB w13 gb _ from(hh.block gb HBK.out.lt HGT2.out).trans HBK.out);have HH1:=zh hh;have HIB:=zh hip;clear hip hh;go_wp2_with fail;refine(InP.next_any HSA.out (HMA.out.hot.more (fun x hx _=>by simp at hx ⊢;exact .inl hx)) HIB.out (by have:=HJ.out;have:=HIA.out;have:=HKM.out;have:=HLT2.out;omega) 256 (by omega) (by omega) 256 rfl).mono ?_;rintro e w14 ⟨y2,rfl,hy2,hip,hh⟩;have hbk:BlkB w14 gb _:=(hh.block gb HBK.out.lt HGT2.out).trans HBK.out;have HBK:=zh hbk;have HH2:=zh hh;have HIB:=zh hip;have c0:=hbk.cell (j:=0) (by simp);have c15:=hbk.cell (j:=15) (by simp);have z0:=hbk.free 0;have z15:=hbk.free 15;clear hip hh hbk;go_upto_region 25 with fail;obtain⟨Y1,hY1⟩:∃y:UInt8,(y1:Int)=(y.toNat:Int):=⟨UInt8.ofNat y1,by rw[UInt8.toNat_ofNat',Nat.mod_eq_of_lt (by omega)]⟩;obtain⟨Y2,hY2⟩:∃y:UInt8,(y2:Int)=(y.toNat:Int):=⟨UInt8.ofNat y2,by rw[UInt8.toNat_ofNat',Nat.mod_eq_of_lt (by omega)]⟩;rw[hY1,hY2];obtain⟨wC,hwC⟩:=zx ((w14.setCell ⟨gb,0,none⟩ (.int .u8 (Y1.toNat:Int))).setCell ⟨gb,15,none⟩ (.int .u8 (Y2.toNat:Int)));rw[←hwC];obtain⟨l,hl⟩:=zx (((List.replicate 16 (0:UInt8)).set 0 Y1).set 15 Y2)
               have hll:l.length=16:=by rw[hl];simp
               have hbc:BlkB wC gb l:=by rw[hwC,hl];exact(HBK.out.set 0 Y1).set 15 Y2
               have HIC:=zh (show InP gT (.slice At nt ct) wA wC _ by rw[hwC];exact(HIB.out.set HMA.out.tape.lt gb 0 _ HAR.out).set HMA.out.tape.lt gb 15 _ HAR.out)
               have hhc:HotBy [some gT,some gb] wr wC:=by
                rw[hwC];exact(((HH0.out.more (fun x hx=>by simp at hx)).trans (HH1.out.more (fun x hx _=>by simp at hx ⊢;exact .inl hx))).trans (HH2.out.more (fun x hx _=>by simp at hx ⊢;exact .inl hx))).trans ((HotBy.setCell _ _ _ _ (by simp)).trans (HotBy.setCell _ _ _ _ (by simp)))
               have hro:=HRO.out.stayF byK hhc (fun b e=>by
                simp at e;rcases e with e | e
                ·left;rw[e];exact HMA.out.tape.lt
                ·right;rw[e,HGB.out];exact Nat.le_refl _)
               obtain⟨cs,o1,o2⟩:=hro;have hrl:=HRW.out.1;rw[hrl] at o1;obtain⟨A14,c14,rfl⟩:=own_form o1
               have hvb:∀b,(Value.slice A14 j c14).ownBlock=some b→b<gb:=fun b e=>by
                obtain⟨cs0,q1,-⟩:=HRO.out;have:=(q1.lt b e).2;rw[HGB.out];exact this
               have hcv:∀w':World,BlkB w' gb l→(convert 53 9 (.slice (some ⟨gb,0,none⟩) 16 16)).run Tryz.prog w'=.ok (.string ⟨l.toArray⟩) w':=fun w' h=>by
                have h1:=conv_bytes (h.byS (c:=16) (by omega) (by unfold maxLen;omega) (R:=fun _=>True) trivial);rw[hll] at h1;exact h1
               have HO1:=zh o1;have HO2:=zh o2;have HVB:=zh hvb;have HBC:=zh hbc;have HLL:=zh hll;have HCV:=zh hcv;have HDr:=zh (World.ownsRow.drew o1);have hbA:wA.heap.size≤wC.heap.size:=HIC.out.hot.size;have hgbl:gb<wC.heap.size:=hbc.lt
               have HCT:=zh (show ¬9223372036854775807<(List.map List.length rw).sum+l.length by
                have h1:=wide_sum rw 16 HRW.out.2;rw[HRW.out.1] at h1;rw[h1,hll];have:=HKM.out;have:=HLT2.out
                omega)
               obtain⟨i0,hi0,hz0,hz1,hz2⟩:=info_parts info_row
               have hj9:j≤2:=by have:=HKM.out;have:=HLT2.out;omega
               clear hwC hl hll hbc hhc o1 o2 hvb hcv hrl c0 c15 z0 z15 hY1 hY2 hy1 hy2 HBK HH0 HH1 HH2 HRO;refine region_tail (S:=fun w'=>BlkB w' gb l) [] (by kernel_rfl) HBC.out (fun hHeld=>?_);refine tk 0 109 ?_;refine tk 1 110 ?_;refine tk 4 113 ?_;refine tk 5 114 ?_;refine takeT (i:=6) (d:=115) (v:=?_) rfl rfl (by kernel_rfl) (by kernel_rfl) (by kernel_rfl) (by kernel_rfl) (fun _ _ _ h=>h) (Or.inl ⟨by rfl,?_⟩) (by assumption) ?_;rotate_left
               ·(intro w hSw;(try dsimp only at hSw);have hcw:=HCV.out w hSw;go_simp;first | done | with_reducible rfl)
               (try simp only[Act.put,z1,z2,z3]);refine takeT (i:=7) (d:=116) (v:=?_) rfl rfl (by kernel_rfl) (by kernel_rfl) (by kernel_rfl) (by kernel_rfl) (fun _ _ _ h=>h) (Or.inl ⟨by rfl,?_⟩) (by assumption) ?_;rotate_left
               ·(intro w hSw;(try dsimp only at hSw);have hct:=HCT.out;go_simp;first | done | with_reducible rfl)
               (try simp only[Act.put,z1,z2,z3]);refine readyT (rs:=[2]) (by kernel_rfl) (by simp) ?_;refine AllReadyT.cons rfl (fun K hK=>?_) ?_
               ·go_simp;have hb2:BlkB (wC.drew.alloc (.cells #[.slice (some ⟨gb,0,none⟩) 16 16] 53)) gb l:=(Below.heap_alloc wC.drew _ gb hgbl).trans HBC.out;refine hK.out _ _ ?_ (fun hHeld=>?_)
                ·assumption
                clear hK K;(try simp only[Act.put,z1,z2,z3]);refine readyT (rs:=[3]) (by kernel_rfl) (by simp) ?_;refine AllReadyT.cons rfl (fun K hK=>?_) ?_
                ·refine step_append_lies _ (by rfl) _ _ _ (by rfl) wA.heap.size 53 i0 _ 1 24 Tryz.underlying90 hi0 hz0 hz1 hz2 rfl (by decide) (.slice A14 j c14) j cs (by rfl) (World.ownsRow.alloc HDr.out _) ⟨wC.heap.size,0,none⟩ 1 1 [.slice (some ⟨gb,0,none⟩) 16 16] (by rfl) (by rfl) (World.news_of_block (cs:=#[.slice (some ⟨gb,0,none⟩) 16 16]) (t:=53) (fr:=(0,0)) (heap_alloc_new wC.drew _)) (by simp[Value.oneCell']) (by omega) (by unfold maxLen;omega) (by omega) (Nat.le_trans hbA (by simp[World.drew])) (wC.heap.size+1) (by simp[World.drew]) ?_;intro gg2 cap2 w15 hown5 hg5 hat5 hlt5;have hb3:BlkB w15 gb l:=(hg5.block gb (by simp[World.drew];omega) (fun e=>by have:=HVB.out gb e.symm;omega)).trans hb2;refine hK.out _ _ ?_ (fun hHeld=>?_)
                 ·assumption
                 clear hK K;(try simp only[Act.put,z1,z2,z3]);refine tk 8 14 ?_;refine tk 9 15 ?_;refine doneT (by kernel_rfl) ?_ _;have hh5:HotBy [(Value.slice A14 j c14).ownBlock] wC.drew w15:=(HotBy.alloc _ _ _).trans (HotBy.grown hg5 (.inl (by simp)))
                 have hby:ByS wC.drew (Fz wA.heap.size wC.drew.heap.size (.slice A14 j c14)) (.slice (some ⟨gb,0,none⟩) 16 16) l:=by
                  have h1:=HBC.out.byS (c:=16) (by have:=HLL.out;omega) (by have:=HLL.out;unfold maxLen;omega) (R:=Fz wA.heap.size wC.drew.heap.size (.slice A14 j c14)) ⟨HAR.out,hgbl,fun e=>by have:=HVB.out gb e;omega⟩;rw[HLL.out] at h1;exact h1
                 have hk:=OwnK.pushF (es:=rw) (a:=l) (v:=.slice A14 j c14) (v':=.slice (some ⟨gg2,0,none⟩) (j+1) cap2) (w2:=wC.drew) byK HO2.out (by rw[HRW.out.1];exact HO1.out.1) (fun b e=>(HO1.out.lt b e).2) (by rw[HRW.out.1];exact hown5) rfl ⟨_,rfl,hby⟩ hh5 (fun b e _ _=>by simp at e;exact e.symm) (by
                  rcases hat5 with h | h
                  ·exact .inl h.symm
                  ·exact .inr ⟨gg2,rfl,by show wC.heap.size≤gg2;omega⟩)
                 have HK:=zh hk;have hip5:=HIC.out.drew.new HMA.out.tape.lt hh5 (fun b e=>by simp at e;exact(HO1.out.lt b e.symm).1);have HI5:=zh hip5;have HCA:=zh (show(⟨rw.flatten.toArray⟩:ByteArray)++⟨l.toArray⟩=⟨(rw++[l]).flatten.toArray⟩ from cat_flat rw l)
                 have HRW2:=zh (show(rw++[l]).length=j+1∧Wide (rw++[l]) 16 from⟨by rw[List.length_append,HRW.out.1];rfl,fun r hr=>by
                  rcases List.mem_append.1 hr with h | h
                  ·exact HRW.out.2 r h
                  ·rw[List.mem_singleton.1 h];exact HLL.out⟩)
                 clear hh5 hby hk hip5 hown5 hg5 hat5 hlt5 hb2 hb3 hHeld;go_wp2_with fail;go_roundg (k - (j+1))
                 case measure=>have:=HLT2.out;omega
                 case rel=>exact⟨j+1,IA+2 * (j+1),rw++[l],by go_num,rfl,HLT2.out,by rw[HCA.out],rfl,by rw[show IA+2 * (j+1)=IA+2 * j+1+1 by omega];exact HI5.out,HK.out,HRW2.out⟩
                exact AllReadyT.nil
               exact AllReadyT.nil
              ·-- D2{
               have hj2:¬(j:Int)<(k:Int):=by omega
               have hjk:j=k:=by omega
               have HJK:=zh hjk;obtain⟨wE,rfl⟩:=zx (wr:World);have HWE:=zh (show wA.heap.size≤wE.heap.size from HIP.out.hot.size);have HME:=zh (HMA.out.inP HIP.out)
               have HSR:=zh (HRO.out.slS byK (R':=Fr wA.heap.size wE.heap.size) (fun b h=>⟨h.1,h.2.1⟩) (fun b e=>by
                obtain⟨cs0,q1,-⟩:=HRO.out
                exact q1.lt b e))
               have hvf:=HSR.out.form3;obtain⟨A14,n14,c14,rfl⟩:=hvf;have HVI:=zh (show I64 (v:Int)∧I64 (s:Int) from⟨by unfold I64;have:=HLT.out;have:=HNN.out;omega,by unfold I64;have:=HSE.out;have:=HEX.out;omega⟩)
               have HNL:=zh (show n<maxLen from by
                have h0:=HST.out.n;have h1:=congrArg List.length HST.out.keys;rw[List.length_map] at h1;have h2:=keysTo_le EX v s HEX.out.2 (by have:=HLT.out;have:=HNN.out.2.2.2.2.2.2;omega) (by have:=HSE.out;have:=HEX.out;omega)
                unfold maxLen;omega)
               clear hj hjk HRO HIP;go_upto_region 26 with fail;clear hj2 p1 p2;go_upto_region 27 with (refine kv_store rfl (.tmp 117) (.tmp 120) (.tmp 121) 41 67 9 rfl skey_two Tryz.underlying41 gM n f (v:Int) (s:Int) (.string ⟨rw.flatten.toArray⟩) (by rfl) (by rfl) (by rfl) HME.out.map HNL.out HVI.out.1 HVI.out.2 ?_;intro w16 hm16 hg16);have hhM:HotBy [some gM] wE w16:=HotBy.grown hg16 (.inl (by simp));have HSZE:=zh hhM.size;have HM16:=zh (HME.out.storeM hg16 hm16)
               have HP16:=zh (HPQ.out.hot hhM (fun e=>by
                obtain⟨⟨cs,h1⟩,-⟩:=HPQ.out;simp at e
                exact HME.out.nM h1 e))
               have HS16:=zh ((SlS.keep byK HSR.out (hhM.keptFr (fun b e=>by simp at e;have:=HMA.out.map.lt;omega) (Nat.le_refl _))).matS.mono (R':=Bl w16.heap.size) (fun b h=>Nat.lt_of_lt_of_le h.2 hhM.size));clear hm16 hg16 hhM HME HPQ HSR;obtain⟨p1,p2,hpl⟩:=HP16.out.cells;have HS167:=zh (show wA.heap.size≤w16.heap.size from Nat.le_trans HWE.out (HSZE.out));have hjk:=HJK.out;have hrl:=HRW.out.1;go_wp2_with fail;refine(refencode_fr k m 16 _ rw w16 ((codeB_iff k m).2 ⟨by have:=HKM.out;omega,by have:=HKM.out;omega,by omega,by have:=HKM.out;omega,by have:=HKM.out;omega⟩) (by omega) HS16.out HRW.out.2 (by omega)).mono ?_;rintro e w17 ⟨va',rfl,hall,hb17⟩;obtain⟨X0,hX0⟩:∃X0:Stp,X0=⟨v,s,nv,ra,k,m,rw⟩:=⟨_,rfl⟩
               have hwd:wordT k (k+m) rw 16=X0.word:=by rw[hX0];rfl
               rw[hwd] at hall;obtain⟨Aw2,cw2,hva2,-,-⟩:=hall.form
               have hwl:X0.word.length=k+m:=by rw[←hwd,wordT_length]
               rw[hwl] at hva2;subst hva2;have HX:=zh (show X0.vol=v∧X0.stripe=s∧X0.ver=nv∧X0.k=k∧X0.m=m∧X0.rows=rw from by rw[hX0];exact⟨rfl,rfl,rfl,rfl,rfl,rfl⟩)
               have hack:X0.ack=⟨(v:Int),(s:Int),(nv:Int),(ra:Int)⟩:=by rw[hX0];rfl
               have hmap:(st++[X0]).map Stp.ack=st.map Stp.ack++[⟨(v:Int),(s:Int),(nv:Int),(ra:Int)⟩]:=by rw[List.map_append,←hack];rfl
               have HM17:=zh (HM16.out.below hb17);rw[←hmap] at HM17;have HP17:=zh (HP16.out.hot (HotBy.below (hot:=[]) hb17) (by simp));have HO0:=zh (show StpOk F X0 from { pol:=by rw[HX.out.1,HX.out.2.2.2.1,HX.out.2.2.2.2.1];exact HPX.out,k1:=by rw[HX.out.2.2.2.1];exact HKM.out.1,k2:=by rw[HX.out.2.2.2.1];exact HKM.out.2.1,m2:=by rw[HX.out.2.2.2.2.1];exact HKM.out.2.2,ver1:=by rw[HX.out.2.2.1];exact HNV2.out.1,ver2:=by rw[HX.out.2.2.1];exact HNV2.out.2,side:=by rw[hX0];exact HRA.out,vol:=by rw[HX.out.1];have:=HLT.out;have:=HNN.out;omega,stripe:=by rw[HX.out.2.1];have:=HSE.out;have:=HEX.out;omega,len:=by rw[HX.out.2.2.2.2.2,HX.out.2.2.2.1,HRW.out.1];exact HJK.out,wide:=by rw[HX.out.2.2.2.2.2];exact HRW.out.2 })
               have HDA:=zh (show DataOk (st++[X0]) (upd f (v:Int) (s:Int) (.string ⟨rw.flatten.toArray⟩)) from by
                have h1:=HST.out.data.push HST.out.keys HX.out.1 HX.out.2.1;rw[HX.out.2.2.2.2.2] at h1
                exact h1)
               have HKE:=zh (show(st++[X0]).map (fun x=>(x.vol,x.stripe))=keysTo EX v (s+1) from by rw[List.map_append,HST.out.keys,keysTo_succ];simp[HX.out.1,HX.out.2.1])
               have HOA:=zh (show ∀x∈st++[X0],StpOk F x from fun x hx=>by
                rcases List.mem_append.1 hx with h | h
                ·exact HST.out.ok x h
                ·rw[List.mem_singleton.1 h];exact HO0.out)
               have HNE:=zh (show n+1≤(st++[X0]).length from by have:=HST.out.n;rw[List.length_append];simp;omega);obtain⟨IE,hIE⟩:=zx (IA+2 * j);rw[←hIE] at HM17;have HIE:=zh (show IE≤I+6∧I+2≤IE from by have:=HIA.out;have:=HJK.out;have:=HKM.out;omega);have HRJ:=zh (show RowJ ND I1 IE w16.heap.size w17.heap.size (st++[X0]) rs from⟨HST.out.len,fun i x hx=>⟨by have:=(HST.out.row i x hx).1;have:=HIE.out;omega,fun y hy=>((HST.out.row i x hx).2 y hy).more X0,fun b e=>.inl (HM16.out.plat.lt (.inr ⟨i,x,hx,e⟩)).2⟩⟩);obtain⟨st2,hst2⟩:=zx (st++[X0]);obtain⟨f2,hf2⟩:=zx (upd f (v:Int) (s:Int) (.string ⟨rw.flatten.toArray⟩));obtain⟨n2,hn2⟩:=zx (n+1);rw[←hst2] at HM17 HDA HKE HOA HNE HRJ;rw[←hf2] at HM17 HDA;rw[←hn2] at HM17 HNE;have HXM:=zh (show X0∈st2 from by rw[hst2];simp);have HAL:=zh hall;have HWL:=zh hwl;have HSZ:=zh (show w16.heap.size≤w17.heap.size∧wA.heap.size≤w16.heap.size from⟨hb17.size,by have:=HMA.out.hot.size;exact HS167.out⟩);clear hack hmap hIE hst2 hf2 hn2 hall hwl hwd hX0 hb17 hrl hjk p1 p2 hpl;go_wp2_with fail;go_loopg [20] (k+m) (fun z v20 wr=>∃(i J:Nat) (rs:List (Value×List ByteArray)),v20=.int .i64 (i:Int)∧z=k+m - i∧i≤k+m∧Hid (MadeT gT (.slice At nt ct) W3 gR gM wr J (.slice (some ⟨gv,0,none⟩) ND cw) (.slice (some ⟨gx,0,none⟩) ND cx) (.slice (some ⟨gg,0,none⟩) (NA+1) cap) (.slice (some ⟨gv,0,none⟩) ND cw) (.slice (some ⟨gx,0,none⟩) ND cx) (.slice (some ⟨gg,0,none⟩) (NA+1) cap) rs on (st2.map Stp.ack) n2 f2)∧J≤IE+13 * i∧Hid (RowJ ND I1 J w16.heap.size w17.heap.size st2 rs)∧Hid (PolQ wr gp k m)∧Hid (SlS 1 ByK wr (Fr w16.heap.size w17.heap.size) (.slice Aw2 (k+m) cw2) X0.word)∧w17.heap.size≤wr.heap.size)
               case atStart=>exact⟨0,IE,rs,rfl,rfl,Nat.zero_le _,HM17.out,by omega,HRJ.out,HP17.out,HAL.out,Nat.le_refl _⟩
               case round =>
                clear HM17 HRJ HP17 HAL;obtain⟨i,J,rs,rfl,rfl,hi,HM,hJ,HRJ,HPQ,HAL,hsz⟩:=hrel;by_cases hlt:i<k+m
                ·-- E1{
                 have hlt2:(i:Int)<(k:Int)+(m:Int):=by omega
                 have HJ3:=zh (show J≤1400 by have:=HIE.out;have:=HKM.out;have:=HJ.out;omega);have HIL:=zh (show i<k+m∧J≤IE+13 * i from⟨hlt,hJ⟩);clear hlt hJ hi;go_wp2_with fail;refine(InP.next_any HSA.out (HM.out.hot.more (fun x hx _=>by simp at hx ⊢;exact .inl hx)) (InP.start HM.out.tape) (by have:=HJ3.out;omega) 5 (by omega) (by omega) 5 rfl).mono ?_;rintro e w20 ⟨rc,rfl,hrc,hip,-⟩;have HPQ:=zh (HPQ.out.hot hip.hot (fun e=>by simp at e;have:=HGP.out;have:=HM.out.gT1;omega));have HAL:=zh (SlS.keep byK HAL.out (hip.hot.keptFr (fun b e=>by simp at e;have:=HMA.out.tape.lt;have:=HSZ.out;omega) hsz));have HM:=zh (HM.out.inP hip);have hsz:=Nat.le_trans hsz hip.hot.size;have hrj:RowJ ND I1 (J+1) w16.heap.size w17.heap.size st2 rs:=⟨HRJ.out.len,fun i x hx=>⟨Nat.le_trans (HRJ.out.row i x hx).1 (by omega),(HRJ.out.row i x hx).2⟩⟩;have HRJ:=zh hrj;obtain⟨c0,hc0⟩:∃c0:Nat,c0=1+rc / 4:=⟨_,rfl⟩
                 have hcI:IntKind.i64.wrap (1+(rc:Int) / 4)=(c0:Int):=by rw[show 1+(rc:Int) / 4=(c0:Int) by omega];exact IntWalk.i64_in _ (by omega)
                 have HC0:=zh (show c0≤2 by omega);clear hip hrj;go_upto_region 32 with fail;rw[show 1+(rc:Int) / 4=(c0:Int) by omega];clear hcI hc0 hrc;go_loopg [21] c0 (fun z v21 wr=>∃(c J2:Nat) (rs:List (Value×List ByteArray)),v21=.int .i64 (c:Int)∧z=0+c∧c≤c0∧Hid (MadeT gT (.slice At nt ct) W3 gR gM wr J2 (.slice (some ⟨gv,0,none⟩) ND cw) (.slice (some ⟨gx,0,none⟩) ND cx) (.slice (some ⟨gg,0,none⟩) (NA+1) cap) (.slice (some ⟨gv,0,none⟩) ND cw) (.slice (some ⟨gx,0,none⟩) ND cx) (.slice (some ⟨gg,0,none⟩) (NA+1) cap) rs on (st2.map Stp.ack) n2 f2)∧J2+6 * c≤J+1+6 * c0∧Hid (RowJ ND I1 J2 w16.heap.size w17.heap.size st2 rs)∧Hid (PolQ wr gp k m)∧Hid (SlS 1 ByK wr (Fr w16.heap.size w17.heap.size) (.slice Aw2 (k+m) cw2) X0.word)∧w17.heap.size≤wr.heap.size)
                 case atStart=>exact⟨c0,J+1,rs,rfl,by omega,Nat.le_refl _,HM.out,Nat.le_refl _,HRJ.out,HPQ.out,HAL.out,hsz⟩
                 case round =>
                  clear HM HRJ HPQ HAL hsz;obtain⟨c,J2,rs,rfl,rfl,hc,HM,hJ2,HRJ,HPQ,HAL,hsz⟩:=hrel;by_cases hlt:0<c
                  ·-- F1{
                   have hlt2:(0:Int)<(c:Int):=by omega
                   have hdc:decide (0<c)=true:=by simpa using hlt
                   obtain⟨wR,rfl⟩:=zx (wr:World);have HCC:=zh (show 0<c∧c≤c0∧J2+6 * c≤J+1+6 * c0 from⟨hlt,hc,hJ2⟩);have HJ4:=zh (show J2+6≤1500 by have:=HJ3.out;have:=HC0.out;omega)
                   have hiw:i<X0.word.length:=by rw[HWL.out];exact HIL.out.1
                   obtain⟨bw,ow,csw,rfl,hRw,-,hcw,vw,rfl,hby⟩:=HAL.out.at_ hiw;have hcw0:=hcw 0 vw rfl;rw[Nat.mul_one,Nat.add_zero] at hcw0;obtain⟨row,hrow⟩:=zx (X0.word[i]);rw[←hrow] at hby;have HRW0:=zh (show X0.word.getD i []=row∧row.length=16 from⟨by rw[getD_lt _ _ hiw,hrow],by rw[hrow];exact wordT_wide _ _ _ _ _ (List.getElem_mem hiw)⟩)
                   obtain⟨Ab,nb,cb,rfl⟩:∃A n c,vw=.slice A n c:=by
                    obtain⟨A,c,e,-⟩:=hby;exact⟨A,_,c,e⟩
                   have hss0:wR.cell? ⟨bw,ow+i,none⟩=some (.slice Ab nb cb)∧ByS wR (Fr w16.heap.size w17.heap.size) (.slice Ab nb cb) row:=⟨hcw0,hby⟩;have HSS:=zh (fun(w':World) (hw:HotBy [some gT] wR w')=>(And.intro (((hw.keptFr (lo:=w16.heap.size) (hi:=w17.heap.size) (fun b e=>by simp at e;have:=HMA.out.tape.lt;have:=HSZ.out;omega) hsz).cell hRw).trans hss0.1) (hss0.2.keep (hw.keptFr (lo:=w16.heap.size) (hi:=w17.heap.size) (fun b e=>by simp at e;have:=HMA.out.tape.lt;have:=HSZ.out;omega) hsz)):w'.cell? ⟨bw,ow+i,none⟩=some (.slice Ab nb cb)∧ByS w' (Fr w16.heap.size w17.heap.size) (.slice Ab nb cb) row));have HNX:=zh (fun w1 (h:InP gT (.slice At nt ct) wR w1 J2)=>InP.next_any HSA.out (HM.out.hot.more (fun x hx _=>by simp at hx ⊢;exact .inl hx)) h (by have:=HJ4.out;omega) 3 (by omega) (by omega) 3 rfl);have HI0':=zh (InP.start HM.out.tape)
                   have hilt:(i:Int)<((k+m:Nat):Int):=by have:=HIL.out;omega
                   clear hlt hc hJ2 hcw hcw0 hby hrow hRw;go_upto_region 34 with fail;go_cut [22] from 145 to 157 (fun v22 wc=>∃(gq g:Nat),v22=.pointer (some ⟨gq,0,none⟩)∧1≤g∧g≤3∧wR.heap.size≤gq∧Hid (PieceB wc gq ⟨(v:Int),(i:Int),(s:Int),(g:Int),(nv:Int),row⟩)∧Hid (InP gT (.slice At nt ct) wR wc (J2+1)))
                   case first =>
                    refine region_tail (S:=fun w'=>w'.cell? ⟨bw,ow+i,none⟩=some (.slice Ab nb cb)∧ByS w' (Fr w16.heap.size w17.heap.size) (.slice Ab nb cb) row) [14] (by kernel_rfl) (HSS.out _ (HotBy.refl _ _).drew) (fun hHeld=>?_);refine tk 0 145 ?_;refine tk 1 146 ?_;refine tk 2 147 ?_;refine tk 3 148 ?_;refine tk 6 151 ?_;refine tk 7 152 ?_;refine tk 8 153 ?_;refine tk 9 154 ?_;refine tk 10 155 ?_;refine takeT (i:=11) (d:=156) (v:=?_) rfl rfl (by kernel_rfl) (by kernel_rfl) (by kernel_rfl) (by kernel_rfl) (fun _ _ _ h=>h) (Or.inl ⟨by rfl,?_⟩) (by assumption) ?_;rotate_left
                    ·(intro w hSw;(try dsimp only at hSw);have hcw:=conv_bytes hSw.2;go_simp;first | done | with_reducible rfl)
                    (try simp only[Act.put,z1,z2,z3]);refine readyT (rs:=[4,13]) (by kernel_rfl) (by simp) ?_;refine AllReadyT.cons rfl (fun K hK=>?_) ?_
                    ·go_simp;(go_at_call 32;refine(HNX.out _ HI0'.out.drew).mono ?_);rintro e w21 ⟨rg,rfl,hrg,hip,hh⟩;have hs21:=HSS.out w21 hip.hot;have hwg:IntKind.i64.wrap (1+(rg:Int))=1+(rg:Int):=IntWalk.i64_in _ (by omega);go_wp2_with fail;refine hK.out _ _ ?_ (fun hHeld=>?_)
                     ·(first|exact HSS.out _ hip.hot|exact HSS.out _ (hip.hot.trans (HotBy.alloc _ _ _))|exact HSS.out _ ((HotBy.refl _ _).drew.trans (HotBy.alloc _ _ _)))
                     clear hK K;(try simp only[Act.put,z1,z2,z3]);refine tk 5 150 ?_;refine tk 12 157 ?_;refine readyT (rs:=[13]) (by kernel_rfl) (by simp) ?_;refine AllReadyT.cons rfl (fun K hK=>?_) ?_
                     ·go_simp;refine hK.out _ _ ?_ (fun hHeld=>?_)
                      ·(first|exact HSS.out _ hip.hot|exact HSS.out _ (hip.hot.trans (HotBy.alloc _ _ _))|exact HSS.out _ ((HotBy.refl _ _).drew.trans (HotBy.alloc _ _ _)))
                      clear hK K;(try simp only[Act.put,z1,z2,z3]);refine readyT (rs:=[14]) (by kernel_rfl) (by simp) ?_;refine AllReadyT.consT rfl rfl (fun K hK=>?_) ?_
                      ·go_simp;refine hK.out _ _ ?_;clear hK K;(try simp only[Act.put,z1,z2,z3]);refine doneT (by kernel_rfl) ?_ _;clear hwg;go_wp2_with fail;go_meet
                       case rel=>exact⟨w21.heap.size,1+rg,rfl,by omega,by omega,hip.hot.size,by rw[show((1+rg:Nat):Int)=1+(rg:Int) by omega];exact heap_alloc_new w21 _,hip.alloc _⟩
                      exact AllReadyT.nil
                     exact AllReadyT.nil
                    refine AllReadyT.cons rfl (fun K hK=>?_) ?_
                    ·go_simp;refine hK.out _ _ ?_ (fun hHeld=>?_)
                     ·(first|exact HSS.out _ hip.hot|exact HSS.out _ (hip.hot.trans (HotBy.alloc _ _ _))|exact HSS.out _ ((HotBy.refl _ _).drew.trans (HotBy.alloc _ _ _)))
                     clear hK K;(try simp only[Act.put,z1,z2,z3]);refine readyT (rs:=[4]) (by kernel_rfl) (by simp) ?_;refine AllReadyT.cons rfl (fun K hK=>?_) ?_
                     ·go_simp;(go_at_call 32;refine(HNX.out _ (HI0'.out.alloc (.cells #[.int .i64 0,.int .i64 0,.int .i64 0,.int .i64 0,.int .i64 0,.string { data:=#[] }] 94)).drew).mono ?_);rintro e w21 ⟨rg,rfl,hrg,hip,hh⟩;have hs21:=HSS.out w21 hip.hot;have hwg:IntKind.i64.wrap (1+(rg:Int))=1+(rg:Int):=IntWalk.i64_in _ (by omega);have hzb:w21.heap[wR.heap.size]?=some (.cells #[.int .i64 0,.int .i64 0,.int .i64 0,.int .i64 0,.int .i64 0,.string { data:=#[] }] 94 (0,0)):=(hh.block wR.heap.size (by simp[World.drew]) (fun e=>by simp at e;have:=HM.out.tape.lt;omega)).trans (heap_alloc_new wR _);obtain⟨q0,q1,q2,q3,q4,q5,qf⟩:=six_cells hzb;have qf0:=qf 0;have qf1:=qf 1;have qf2:=qf 2;have qf3:=qf 3;have qf4:=qf 4;have qf5:=qf 5;go_wp2_with fail;refine hK.out _ _ ?_ (fun hHeld=>?_)
                      ·(first|exact HSS.out _ hip.hot|exact HSS.out _ (hip.hot.trans (HotBy.alloc _ _ _))|exact HSS.out _ ((HotBy.refl _ _).drew.trans (HotBy.alloc _ _ _)))
                      clear hK K;(try simp only[Act.put,z1,z2,z3]);refine tk 5 150 ?_;refine tk 12 157 ?_;refine readyT (rs:=[14]) (by kernel_rfl) (by simp) ?_;refine AllReadyT.consT rfl rfl (fun K hK=>?_) ?_
                      ·go_simp;refine hK.out _ _ ?_;clear hK K;(try simp only[Act.put,z1,z2,z3]);refine doneT (by kernel_rfl) ?_ _;clear hwg;go_wp2_with fail;go_meet
                       case rel=>exact⟨wR.heap.size,1+rg,rfl,by omega,by omega,Nat.le_refl _,by rw[show((1+rg:Nat):Int)=1+(rg:Int) by omega];exact PieceB.six hzb ⟨_,_,_,_,_,row⟩,hip.six HM.out.tape.lt (Nat.le_refl _) _ _ _ _ _ _⟩
                      exact AllReadyT.nil
                     exact AllReadyT.nil
                    exact AllReadyT.nil
                   case rest =>
                    obtain⟨gq,g,rfl,hg1,hg3,hgq,HPB,HIP⟩:=hcut
                    have HPF:=zh (show X0.piece i g false=⟨(v:Int),(i:Int),(s:Int),(g:Int),(nv:Int),row⟩∧X0.piece i g true=⟨(v:Int),(i:Int),(s:Int),(g:Int),(nv:Int) - 1,oldB⟩ from by
                     unfold Stp.piece;rw[HX.out.1,HX.out.2.1,HX.out.2.2.1,HRW0.out.1]
                     exact⟨rfl,rfl⟩)
                    have HGQ:=zh hgq;have HGG:=zh (show 1≤g∧g≤3 from⟨hg1,hg3⟩);clear hg1 hg3 hgq HNX HI0' HSS hss0 hilt;go_wp2_with fail;refine(InP.next_any HSA.out (HM.out.hot.more (fun x hx _=>by simp at hx ⊢;exact .inl hx)) HIP.out (by have:=HJ4.out;omega) 6 (by omega) (by omega) 6 rfl).mono ?_;rintro e w22 ⟨ro,rfl,hro,hip,hh⟩;have HPB:=zh (HPB.out.hot hh (fun e=>by simp at e;have:=HM.out.tape.lt;have:=HGQ.out;omega));have HIP:=zh hip;clear hip hh
                    go_upto_if 160 with fail
                    go_cut [] from 160 to 164 (fun wc=>∃old:Bool,Hid (PieceB wc gq (X0.piece i g old))∧Hid (InP gT (.slice At nt ct) wR wc (J2+1+1)))
                    case first =>
                     by_cases h0:ro=0
                     ·have q0:((ro:Int)==0)=true:=by simpa using h0
                      clear h0;obtain⟨-,-,-,-,c4,c5,cf⟩:=HPB.out.cells;have cf4:=cf 4;have cf5:=cf 5;have hwv:IntKind.i64.wrap ((nv:Int) - 1)=(nv:Int) - 1:=IntWalk.i64_in _ (by have:=HNV2.out;omega);clear cf;go_wp2_with fail;go_meet
                      case rel=>exact⟨true,by rw[HPF.out.2];exact HPB.out.elder _ oldB,(HIP.out.set HM.out.tape.lt gq 4 _ HGQ.out).set HM.out.tape.lt gq 5 _ HGQ.out⟩
                     ·have q0:((ro:Int)==0)=false:=by simpa using h0
                      go_wp2_with fail;go_meet
                      case rel=>exact⟨false,by rw[HPF.out.1];exact HPB.out,HIP.out⟩
                    case rest =>
                     obtain⟨old,HPB2,HIP2⟩:=hcut;clear HPB HIP;obtain⟨p9,hp9⟩:=zx (X0.piece i g old);rw[←hp9] at HPB2
                     have hval:validP p9=true:=by
                      have h1:=HPF.out;have h2:=HGG.out;have h3:=HNV2.out;have h4:=HIL.out.1;have h5:=HKM.out;have h6:=HLT.out;have h7:=HNN.out.2.2.2.2.2.2;have h8:=HSE.out;have h9:=HEX.out;rw[hp9]
                      cases old with
                      | false=>rw[h1.1];exact validP_yes ⟨by omega,by omega,by omega,by omega,by omega,by omega,by omega,by omega,by omega,by omega,HRW0.out.2⟩
                      | true=>rw[h1.2];exact validP_yes ⟨by omega,by omega,by omega,by omega,by omega,by omega,by omega,by omega,by omega,by omega,rfl⟩
                     have hvi:=validP_iff.1 hval
                     have hpi:PcI p9:=by
                      unfold PcI I64 maxLen;exact⟨by omega,by omega,by omega,by omega,by omega,by omega⟩
                     have HEN:=zh (fun w=>refsenc_any p9 w hpi (by omega));rw[show encS p9=encB p9 by unfold encS;rw[hval];rfl,show encE p9=0 by unfold encE;rw[hval];rfl] at HEN;unfold PcV at HEN;have HP9:=zh hp9;have HBL:=zh (show(encB p9).length=36 from encB_length hvi.2.2.2.2.2.2.2.2.2.2);obtain⟨c0',c1',c2',c3',c4',c5',-⟩:=HPB2.out.cells;clear hp9 hval hvi hpi;go_wp2_with fail;refine(HEN.out _).mono ?_;rintro e w23 ⟨rfl,hb23⟩;have HIP:=zh (HIP2.out.below hb23);clear hb23 c0' c1' c2' c3' c4' c5' HPB2 HIP2 HEN;obtain⟨EB,hEB⟩:=zx (encB p9);rw[←hEB] at HBL ⊢;have HEB:=zh hEB;clear hEB;go_wp2_with fail;refine(InP.next_any HSA.out (HM.out.hot.more (fun x hx _=>by simp at hx ⊢;exact .inl hx)) HIP.out (by have:=HJ4.out;omega) 9 (by omega) (by omega) 9 rfl).mono ?_;rintro e w24 ⟨rf,rfl,hrf,hip,-⟩;have HIP:=zh hip;clear hip
                     go_upto_if 172 with fail
                     go_cut [23] from 172 to 180 (fun v23 wc=>∃(y:List UInt8) (bit J5:Nat),v23=.string ⟨y.toArray⟩∧Hid (Win bit EB y)∧J5≤J2+5∧J2+3≤J5∧Hid (InP gT (.slice At nt ct) wR wc J5))
                     case first =>
                      by_cases h0:rf=0
                      ·have q0:((rf:Int)==0)=true:=by simpa using h0
                       clear h0;go_wp2_with fail;refine(InP.next_any HSA.out (HM.out.hot.more (fun x hx _=>by simp at hx ⊢;exact .inl hx)) HIP.out (by have:=HJ4.out;omega) 288 (by omega) (by omega) 288 rfl).mono ?_;rintro e w25 ⟨rb,rfl,hrb,hip,-⟩;have HIP:=zh hip;clear hip;go_wp2_with fail;refine(InP.next_big HSA.out (HM.out.hot.more (fun x hx _=>by simp at hx ⊢;exact .inl hx)) HIP.out (by have:=HJ4.out;omega) 1048576 (by omega) (by omega) 1048576 rfl).mono ?_;rintro e w26 ⟨rk,rfl,hrk,hip,-⟩;have HIP:=zh hip;have hwm:IntKind.i64.wrap (1+(rk:Int))=1+(rk:Int):=IntWalk.i64_in _ (by omega);clear hip;go_wp2_with fail;refine(flip_win EB rb _ w26 (by have:=HBL.out;omega) (by have:=HBL.out;omega) (by omega)).mono ?_;rintro e w27 ⟨y,rfl,hwin,hb27⟩;have HW:=zh hwin;have HIP:=zh (HIP.out.below hb27);clear hwin hb27 hwm;go_wp2_with fail;go_meet
                       case rel=>exact⟨y,rb,_,rfl,HW.out,by omega,by omega,HIP.out⟩
                      ·have q0:((rf:Int)==0)=false:=by simpa using h0
                       go_wp2_with fail;go_meet
                       case rel=>exact⟨EB,0,_,rfl,Win.refl _ _,by omega,by omega,HIP.out⟩
                     case rest =>
                      obtain⟨y,bit,J5,rfl,HW,hJ5,hJ5b,HIP⟩:=hcut;have HMd:=zh (HM.out.inP HIP.out)
                      have hd1:1≤ND:=by rw[HNN.out.1];exact HOK.out.dve1
                      obtain⟨k0,-,-,-,hgl⟩:=HMd.out.cells;go_wp2_with fail;refine(InP.next_any HSA.out (HM.out.hot.more (fun x hx _=>by simp at hx ⊢;exact .inl hx)) HIP.out (by have:=HJ4.out;omega) ND hd1 (by have:=HNN.out;omega) (ND:Int) rfl).mono ?_;rintro e w28 ⟨dd,rfl,hdd,hip,-⟩;have HMf:=zh (HM.out.inP hip);have HIP:=zh hip
                      have hdr:dd<rs.length:=by rw[HRJ.out.len];exact hdd
                      obtain⟨x0,hx0⟩:∃x0,rs[dd]?=some x0:=⟨_,List.getElem?_eq_getElem hdr⟩;obtain⟨vr0,l0⟩:=x0;have hrow:=HMf.out.plat.row dd _ hx0;obtain⟨Ar0,cr0,hvr⟩:=own_form hrow;simp only at hvr;obtain⟨L0,hL0⟩:=zx l0.length;rw[←hL0] at hvr;subst hvr
                      have hcell:w28.cell? ⟨gv,dd,none⟩=some (.slice Ar0 L0 cr0):=by
                       have h1:=HMf.out.plat.top;rw[HRJ.out.len] at h1;rw[h1.cellAt dd (by omega),List.getElem?_map,hx0];rfl
                      obtain⟨m0,-,-,mf,hml⟩:=HMf.out.cells
                      have hrow2:w28.ownsRow W3.heap.size 9 1 (.slice Ar0 L0 cr0) L0 (l0.map Value.string):=by rw[hL0];rw[←hL0] at hrow ⊢;exact hrow
                      have HROW:=zh hrow2;have HX0:=zh hx0;have HL0:=zh hL0
                      have HL1:=zh (show L0≤2000 by
                       have h1:=(HRJ.out.row dd _ hx0).1;have h2:=HJ4.out;simp only at h1
                       omega)
                      have hb28:W3.heap.size≤w28.heap.size:=HMf.out.hot.size
                      have htop:w28.ownsRow W3.heap.size 54 1 (.slice (some ⟨gv,0,none⟩) ND cw) ND (rs.map (·.1)):=by have h1:=HMf.out.plat.top;rw[HRJ.out.len] at h1;exact h1
                      have HTOP:=zh htop;have hgvl:gv<w28.heap.size:=(htop.lt gv rfl).2
                      have hgvne:(Value.slice Ar0 L0 cr0).ownBlock≠some gv:=fun e=>HMf.out.plat.top_row hx0 rfl e
                      have hfz:w28.frozen? ⟨gv,dd,none⟩=false:=htop.frozenAt dd;have HGV:=zh hgvne;have HS28:=zh (Nat.le_trans hsz hip.hot.size);have HGV16:=zh (show gv<w16.heap.size from Nat.lt_of_lt_of_le (HMA.out.plat.top.lt gv rfl).2 HSZ.out.2)
                      have hdI:(dd:Int)<(ND:Int):=by omega
                      obtain⟨i0,hi0,hz0,hz1,hz2⟩:=info_parts info_str;have HDD:=zh hdd;clear hrow hrow2 hx0 hL0 hdr hip hgvne htop mf hd1 k0 hgl hdd;go_upto_region 41 with fail;refine region_tail (S:=fun w'=>w'.cell? ⟨gR,0,none⟩=some (.slice (some ⟨gv,0,none⟩) ND cw)∧w'.cell? ⟨gv,dd,none⟩=some (.slice Ar0 L0 cr0)) [12] (by kernel_rfl) ⟨m0,hcell⟩ (fun hHeld=>?_);refine tk 0 186 ?_;refine tk 1 187 ?_;refine tk 2 188 ?_;refine tk 3 189 ?_;refine tk 4 190 ?_;refine tk 5 191 ?_;refine tk 6 192 ?_;refine tk 7 193 ?_;refine tk 8 194 ?_;refine readyT (rs:=[9]) (by kernel_rfl) (by simp) ?_;refine AllReadyT.cons rfl (fun K hK=>?_) ?_
                      ·go_simp;have hq1:(w28.drew.alloc (.cells #[.string ⟨y.toArray⟩] 9)).cell? ⟨gR,0,none⟩=some (.slice (some ⟨gv,0,none⟩) ND cw):=(HMf.out.drew.alloc _).cells.1;have hq2:(w28.drew.alloc (.cells #[.string ⟨y.toArray⟩] 9)).cell? ⟨gv,dd,none⟩=some (.slice Ar0 L0 cr0):=(World.cell?_of_block (w:=w28.drew) ((HotBy.alloc [] w28.drew (.cells #[.string ⟨y.toArray⟩] 9)).block gv hgvl (by simp))).trans hcell;refine hK.out _ _ ?_ (fun hHeld=>?_)
                       ·(refine⟨?_,?_⟩ <;> assumption)
                       clear hK K;(try simp only[Act.put,z1,z2,z3]);refine readyT (rs:=[10]) (by kernel_rfl) (by simp) ?_;refine AllReadyT.cons rfl (fun K hK=>?_) ?_
                       ·refine step_append_lies _ (by rfl) _ _ _ (by rfl) W3.heap.size 9 i0 _ 1 16 Tryz.underlying54 hi0 hz0 hz1 hz2 rfl (by decide) (.slice Ar0 L0 cr0) L0 (l0.map Value.string) (by rfl) (World.ownsRow.alloc (World.ownsRow.drew HROW.out) _) ⟨w28.heap.size,0,none⟩ 1 1 [.string ⟨y.toArray⟩] (by rfl) (by rfl) (World.news_of_block (cs:=#[.string ⟨y.toArray⟩]) (t:=9) (fr:=(0,0)) (heap_alloc_new w28.drew _)) (by simp[Value.oneCell']) (by omega) (by have:=HL1.out;unfold maxLen;omega) (by have:=HL1.out;omega) (Nat.le_trans hb28 (by simp[World.drew])) (w28.heap.size+1) (by simp[World.drew]) ?_;intro gg5 cap5 w29 hown5 hg5 hat5 hlt5;have hh29:HotBy [(Value.slice Ar0 L0 cr0).ownBlock] w28.drew w29:=(HotBy.alloc _ _ _).trans (HotBy.grown hg5 (.inl (by simp)));have htop29:=own_hot (World.ownsRow.drew HTOP.out) hh29 (fun b hb e=>by simp at e;have h1:gv=b:=(by injection hb);exact HGV.out (by rw[h1];exact e.symm));have hq3:w29.cell? ⟨gR,0,none⟩=some (.slice (some ⟨gv,0,none⟩) ND cw):=(World.cell?_of_block (w:=w28.drew) (hh29.block gR hml (fun e=>by simp at e;exact own_nty HROW.out HMf.out.rea (by decide) e.symm))).trans m0;have hq4:w29.cell? ⟨gv,dd,none⟩=some (.slice Ar0 L0 cr0):=(World.cell?_of_block (w:=w28.drew) (hh29.block gv hgvl (fun e=>by simp at e;exact HGV.out e.symm))).trans hcell;have hq5:=htop29.frozenAt dd;refine hK.out _ _ ?_ (fun hHeld=>?_)
                        ·(refine⟨?_,?_⟩ <;> assumption)
                        clear hK K;(try simp only[Act.put,z1,z2,z3]);refine tk 11 197 ?_;refine readyT (rs:=[12]) (by kernel_rfl) (by simp) ?_;refine AllReadyT.consT rfl rfl (fun K hK=>?_) ?_
                        ·go_simp;refine hK.out _ _ ?_;clear hK K;(try simp only[Act.put,z1,z2,z3]);refine doneT (by kernel_rfl) ?_ _;have hMl:=HMf.out.drew.alloc (.cells #[.string ⟨y.toArray⟩] 9);have hlen:=HRJ.out.len
                         have hyl:y.length=36:=by rw[HW.out.1];exact HBL.out
                         have hput:=MadeT.putP (g:=gv) (cap:=cw) (d:=dd) (v:=.slice (some ⟨gg5,0,none⟩) (L0+1) cap5) (l:=l0++[⟨y.toArray⟩]) (x0:=(.slice Ar0 L0 cr0,l0)) (by rw[hlen];exact hMl) HX0.out hg5 (by rw[List.length_append,←HL0.out,List.map_append];exact hown5) (fun b e=>by
                          rcases hat5 with h | h
                          ·left;rw[h];exact e
                          ·right;have h1:gg5=b:=by injection e
                           simp[World.drew];omega) (fun z hz=>by
                          rcases List.mem_append.1 hz with h | h
                          ·exact HMf.out.plat.size dd _ HX0.out z h
                          ·rw[List.mem_singleton.1 h];show y.toArray.size=36;simp;exact hyl)
                         rw[List.length_set,hlen] at hput;have HPU:=zh hput;have hh30:HotBy [(Value.slice Ar0 L0 cr0).ownBlock,some gv] w28.drew (w29.setCell ⟨gv,dd,none⟩ (.slice (some ⟨gg5,0,none⟩) (L0+1) cap5)):=(hh29.more (fun x hx _=>by simp at hx ⊢;exact .inl hx)).trans (HotBy.setCell _ _ _ _ (by simp))
                         have HRN:=zh (show RowJ ND I1 (J5+1) w16.heap.size w17.heap.size st2 (rs.set dd (.slice (some ⟨gg5,0,none⟩) (L0+1) cap5,l0++[⟨y.toArray⟩])) from⟨by rw[List.length_set];exact hlen,fun i' x hx=>by
                          rcases getSome_set hx with ⟨rfl,rfl⟩ | ⟨h1,h2⟩
                          ·have h3:=HRJ.out.row dd _ HX0.out;refine⟨?_,fun z hz=>?_,fun b e=>?_⟩
                           ·have h4:=h3.1;simp only[List.length_append,List.length_singleton] at h4 ⊢;omega
                           ·rcases List.mem_append.1 hz with h | h
                            ·exact h3.2.1 z h
                            ·rw[List.mem_singleton.1 h];refine .inr ⟨X0,HXM.out,i,g,old,bit,by rw[HX.out.2.2.2.1,HX.out.2.2.2.2.1];exact HIL.out.1,HGG.out.1,HGG.out.2,?_⟩;rw[←HP9.out,←HEB.out]
                             simpa using HW.out
                           ·have h1:gg5=b:=by injection e
                            rcases hat5 with h | h
                            ·exact h3.2.2 b (by rw[←h1];exact h)
                            ·right;have:=HS28.out;omega
                          ·have h3:=HRJ.out.row i' x h2
                           exact⟨Nat.le_trans h3.1 (by omega),h3.2⟩⟩)
                         have HPN:=zh (show PolQ (w29.setCell ⟨gv,dd,none⟩ (.slice (some ⟨gg5,0,none⟩) (L0+1) cap5)) gp k m from by
                          have h0:=HPQ.out.hot HIP.out.hot (fun e=>by simp at e;have:=HGP.out;have:=HM.out.gT1;omega)
                          have h1:=(PolQ.hot (w:=w28.drew) h0 (HotBy.alloc [] w28.drew (.cells #[.string ⟨y.toArray⟩] 9)) (by simp)).hotT (HotBy.grown (hot:=[(Value.slice Ar0 L0 cr0).ownBlock]) hg5 (.inl (by simp))) (fun b e=>by
                           obtain⟨cs,h2⟩:=own_type ((World.ownsRow.drew HROW.out).alloc (.cells #[.string ⟨y.toArray⟩] 9)) e
                           exact⟨cs,_,h2,by decide⟩)
                          exact h1.hotT (HotBy.setCell [some gv] _ _ _ (by simp)) (fun b e=>by
                           injection e with e;subst e;obtain⟨cs,h2⟩:=own_type htop29 rfl
                           exact⟨cs,_,h2,by decide⟩))
                         have HAN:=zh (show SlS 1 ByK (w29.setCell ⟨gv,dd,none⟩ (.slice (some ⟨gg5,0,none⟩) (L0+1) cap5)) (Fr w16.heap.size w17.heap.size) (.slice (some ⟨bw,ow,none⟩) (k+m) cw2) X0.word from by
                          have h0:=SlS.keep byK HAL.out (HIP.out.hot.keptFr (fun b e=>by simp at e;have:=HMA.out.tape.lt;have:=HSZ.out;omega) hsz);refine SlS.keep byK h0 (hh30.keptFr (w:=w28.drew) (fun b e=>?_) HS28.out);simp at e;rcases e with e | e
                          ·exact(HRJ.out.row dd _ HX0.out).2.2 b e.symm
                          ·left;rw[e];exact HGV16.out)
                         have HSN:=zh (show w17.heap.size≤(w29.setCell ⟨gv,dd,none⟩ (.slice (some ⟨gg5,0,none⟩) (L0+1) cap5)).heap.size from Nat.le_trans HS28.out hh30.size)
                         have hsub:IntKind.i64.wrap ((c:Int) - 1)=((c - 1:Nat):Int):=by have:=HCC.out;have:=HC0.out;rw[show(c:Int) - 1=((c - 1:Nat):Int) by omega];exact IntWalk.i64_in _ (by omega)
                         clear hMl hlen hyl hput hh30 hh29 htop29 hown5 hg5 hat5 hlt5 hHeld;go_wp2_with fail;go_roundg (0+(c - 1))
                         case measure=>have:=HCC.out;omega
                         case rel=>exact⟨c - 1,J5+1,_,rfl,rfl,by have:=HCC.out;omega,HPU.out,by have:=HCC.out;omega,HRN.out,HPN.out,HAN.out,HSN.out⟩
                        exact AllReadyT.nil
                       exact AllReadyT.nil
                      exact AllReadyT.nil
                  ·-- F2{
                   have hlt2:¬(0:Int)<(c:Int):=by omega
                   have hc00:c=0:=by omega
                   have HCC:=zh hc00
                   have hi9:(i:Int)≤10:=by have:=HIL.out;have:=HKM.out;omega
                   have HJ5:=zh (show J2≤IE+13 * (i+1) by have:=HIL.out;have:=HC0.out;omega);clear hlt hc hc00 hJ2;go_wp2_with fail;go_roundg (k+m - (i+1))
                   case measure=>have:=HIL.out;omega
                   case rel=>exact⟨i+1,J2,rs,by go_num,rfl,HIL.out.1,HM.out,HJ5.out,HRJ.out,HPQ.out,HAL.out,hsz⟩
                ·-- E2{
                 have hlt2:¬(i:Int)<(k:Int)+(m:Int):=by omega
                 have HSS:=zh (show StI F ND I1 J rs st2 n2 f2 EX v (s+1) from⟨HRJ.out.len,fun i x hx=>⟨(HRJ.out.row i x hx).1,(HRJ.out.row i x hx).2.1⟩,HKE.out,HOA.out,HDA.out,HNE.out⟩);have HJJ:=zh (show J≤I1+60 * (EX * v+(s+1)) by have:=HIE.out;have:=HKM.out;have:=HIB.out;omega)
                 have hs9:(s:Int)≤2:=by have:=HSE.out;have:=HEX.out;omega
                 clear HRJ hi hJ hlt;go_wp2_with fail;go_roundg (EX - (s+1))
                 case measure=>have:=HSE.out;omega
                 case rel=>exact⟨s+1,J,_,rs,st2,n2,f2,by go_num,rfl,HSE.out,HM.out,HJJ.out,HSS.out,HPQ.out⟩
            exact AllReadyT.nil
           exact AllReadyT.nil
          exact AllReadyT.nil
         exact AllReadyT.nil
        ·-- C2{
         have hnlt2:¬(s:Int)<(EX:Int):=by omega
         have hv2:(v:Int)≤2:=by have:=HLT.out;have:=HNN.out.2.2.2.2.2.2;omega
         have hse:s=EX:=by omega
         have HST':=zh (show StI F ND I1 I rs st n f EX (v+1) 0 from⟨HST.out.len,HST.out.row,by rw[HST.out.keys,hse,keysTo_next],HST.out.ok,HST.out.data,HST.out.n⟩);have HI':=zh (show I≤I1+60 * (EX * (v+1)) by rw[hse] at hI;rw[Nat.mul_succ];exact hI);clear hse hlt hs hI;go_wp2_with fail;go_roundg (NV - (v+1))
         case measure=>have:=HLT.out;omega
         case rel=>exact⟨v+1,I,_,rs,st,n,f,by go_num,rfl,HLT.out,HM.out,HI'.out,HST'.out⟩
      exact AllReadyT.nil
     exact AllReadyT.nil
    ·-- B2{
     have hnlt:¬(v:Int)<(NV:Int):=by omega
     have hvv:v=NV:=by omega
     have HVV:=zh hvv
     have HIB:=zh (show I≤1300 by
      have h1:=HI1.out;have h2:=HEX.out;have h3:=HNN.out.2.2.2.2.2.2;have:EX * v≤2 * 2:=Nat.mul_le_mul h2.2 (by omega)
      omega)
     obtain⟨wF,rfl⟩:=zx (wr:World)
     have HSL:=zh (show rs.length=ND∧on.length=ND∧∀(i:Nat) (x:Value×List ByteArray),rs[i]?=some x→x.2.length≤500∧∀s∈x.2,SecOk st s.data.toList from⟨HST.out.len,HLN.out.2,fun i x hx=>⟨by
      have h0:=(HST.out.row i x hx).1;have h2:=HEX.out;have h3:=HNN.out.2.2.2.2.2.2;have:EX * v≤2 * 2:=Nat.mul_le_mul h2.2 (by omega)
      omega,(HST.out.row i x hx).2⟩⟩)
     clear hvv hlt hI hv f0 f4 f5;go_wp2_with fail;clear hnlt f6;go_loopg [26] ND (fun z v26 wr=>∃(d J:Nat) (rs:List (Value×List ByteArray)) (on:List Bool),v26=.int .i64 (d:Int)∧z=ND - d∧d≤ND∧Hid (MadeT gT (.slice At nt ct) W3 gR gM wr J (.slice (some ⟨gv,0,none⟩) ND cw) (.slice (some ⟨gx,0,none⟩) ND cx) va (.slice (some ⟨gv,0,none⟩) ND cw) (.slice (some ⟨gx,0,none⟩) ND cx) va rs on (st.map Stp.ack) n f)∧J=I+d∧Hid (rs.length=ND∧on.length=ND∧∀(i:Nat) (x:Value×List ByteArray),rs[i]?=some x→x.2.length≤500∧∀s∈x.2,SecOk st s.data.toList))
     case atStart=>exact⟨0,I,rs,on,rfl,rfl,Nat.zero_le _,HM.out,rfl,HSL.out⟩
     case round =>
      clear HM HSL;obtain⟨d,J,rs,on,rfl,rfl,hd,HM,rfl,HSL⟩:=hrel;have hF:FltB wr g6 (EX:Int) (.slice Al nl cl) (.slice Am nm cm) (.slice Ad nd cd) (.slice Av ND cv) (.slice Ap NP cp) (.slice Ao NV co):=(HM.out.hot.block g6 HF6.out.lt (fun e=>by simp at e;have h1:=HSA.out.gF1;have h2:=HSA.out.gT;omega)).trans HF6.out;have HFw:=zh hF;obtain⟨-,-,-,-,f4,-,-,-⟩:=hF.cells;clear hF;by_cases hlt:d<ND
      ·-- K1{
       have hlt2:(d:Int)<(ND:Int):=by omega
       have HDN:=zh (show d<ND∧ND≤9 from⟨hlt,HNN.out.2.2.2.1⟩)
       have hd9:(d:Int)≤9:=by have:=HDN.out;omega
       clear hd;go_wp2_with fail;refine(InP.next_any HSA.out (HM.out.hot.more (fun x hx _=>by simp at hx ⊢;exact .inl hx)) (InP.start HM.out.tape) (by have:=HIB.out;have:=HDN.out;omega) 9 (by omega) (by omega) 9 rfl).mono ?_;rintro e w40 ⟨r9,rfl,hr9,hip,-⟩;have HM:=zh (HM.out.inP hip);clear hip;by_cases h0:r9=0
       ·have q0:((r9:Int)==0)=true:=by simpa using h0
        clear h0;obtain⟨k0,k1,k2,kf,hgl⟩:=HM.out.cells;have htp:=HM.out.plat.top;rw[HSL.out.1] at htp;have hon:=HM.out.ons;rw[HSL.out.2.1] at hon;have z1:=htp.frozenAt d;have z2:=htp.cellAt d (by omega);have z3:=hon.frozenAt d;have z4:=hon.cellAt d (by omega);obtain⟨x0,hx0⟩:∃x0,rs[d]?=some x0:=⟨_,List.getElem?_eq_getElem (by rw[HSL.out.1];exact HDN.out.1)⟩;rw[List.getElem?_map,hx0] at z2;obtain⟨y0,hy0⟩:∃y0,on[d]?=some y0:=⟨_,List.getElem?_eq_getElem (by rw[HSL.out.2.1];exact HDN.out.1)⟩;rw[List.getElem?_map,hy0] at z4;simp only[Option.map_some] at z2 z4
        have hvx:=fun b=>(HM.out.plat.row d x0 hx0).lt b
        have hmd:=MadeT.dead (g:=gv) (cap:=cw) (by rw[HSL.out.1];exact HM.out) hx0;rw[List.length_set,HSL.out.1] at hmd;have HMD:=zh hmd;obtain⟨m0,m1,-,-,-⟩:=hmd.cells;have hon5:=hmd.ons;rw[HSL.out.2.1] at hon5;have n3:=hon5.frozenAt d;have n4:=hon5.cellAt d (by omega);rw[List.getElem?_map,hy0] at n4;simp only[Option.map_some] at n4
        have hgg:gx≠gv:=fun e=>by
         subst e;exact own_apart htp hon (by decide) rfl rfl rfl
        have HXX:=zh hx0;clear hmd hx0 hy0 htp hon hon5 hvx kf k2;go_upto_region 46 with fail;refine region_tail (S:=fun w'=>w'.cell? ⟨gR,0,none⟩=some (.slice (some ⟨gv,0,none⟩) ND cw)∧w'.cell? ⟨gR,1,none⟩=some (.slice (some ⟨gx,0,none⟩) ND cx)) [9] (by kernel_rfl) ⟨k0,k1⟩ (fun hHeld=>?_);refine tk 0 208 ?_;refine tk 1 209 ?_;refine tk 2 210 ?_;refine tk 3 211 ?_;refine tk 4 212 ?_;refine tk 5 213 ?_;refine tk 6 214 ?_;refine readyT (rs:=[7]) (by kernel_rfl) (by simp) ?_;refine AllReadyT.cons rfl (fun K hK=>?_) ?_
        ·go_simp;refine hK.out _ _ ?_ (fun hHeld=>?_)
         ·(first|exact⟨m0,m1⟩|(refine⟨?_,?_⟩ <;> assumption))
         clear hK K;(try simp only[Act.put,z1,z2,z3]);refine tk 8 215 ?_;refine readyT (rs:=[9]) (by kernel_rfl) (by simp) ?_;refine AllReadyT.consT rfl rfl (fun K hK=>?_) ?_
         ·go_simp;refine hK.out _ _ ?_;clear hK K;(try simp only[Act.put,z1,z2,z3]);refine doneT (by kernel_rfl) ?_ _;have hso:=MadeT.setO (g:=gx) (cap:=cx) (d:=d) (x:=false) (by rw[HSL.out.2.1];exact HMD.out);rw[List.length_set,HSL.out.2.1] at hso;have HSO:=zh hso
          have HSN:=zh (show(rs.set d (Value.slice none 0 0,([]:List ByteArray))).length=ND∧(on.set d false).length=ND∧∀(i:Nat) (x:Value×List ByteArray),(rs.set d (Value.slice none 0 0,([]:List ByteArray)))[i]?=some x→x.2.length≤500∧∀s∈x.2,SecOk st s.data.toList from⟨by rw[List.length_set];exact HSL.out.1,by rw[List.length_set];exact HSL.out.2.1,fun i x hx=>by
           rcases getSome_set hx with ⟨rfl,rfl⟩ | ⟨h1,h2⟩
           ·exact⟨by simp,fun s hs=>by simp at hs⟩
           ·exact HSL.out.2.2 i x h2⟩)
          clear hso m0 m1 n3 n4 k0 k1 z1 z2 z3 z4 hHeld;go_wp2_with fail;go_roundg (ND - (d+1))
          case measure=>have:=HDN.out;omega
          case rel=>exact⟨d+1,I+d+1,_,_,by go_num,rfl,HDN.out.1,(by first | exact HSO.out | exact HSO.out.drew),by omega,HSN.out⟩
         exact AllReadyT.nil
        exact AllReadyT.nil
       ·have q0:((r9:Int)==0)=false:=by simpa using h0
        clear h0;go_wp2_with fail;go_roundg (ND - (d+1))
        case measure=>have:=HDN.out;omega
        case rel=>exact⟨d+1,I+d+1,rs,on,by go_num,rfl,HDN.out.1,HM.out,by omega,HSL.out⟩
      ·-- K2{
       have hlt2:¬(d:Int)<(ND:Int):=by omega
       obtain⟨f0,f1,f2,f3,f4',f5,f6,-⟩:=HFw.out.cells;obtain⟨k0,k1,k2,-,hgl⟩:=HM.out.cells;have hot3:=HM.out.hot;have hz:=HZ1.out;have hF2:FltB wr g2 0 (.slice none 0 0) (.slice none 0 0) (.slice none 0 0) (.slice none 0 0) (.slice none 0 0) (.slice none 0 0):=(hot3.block g2 HF23.out.lt (fun e=>by simp at e;omega)).trans HF23.out;have hF3:wr.heap[g2+1]?=some (.cells #[.slice none 0 0,.slice none 0 0,.slice none 0 0] 40 (0,0)):=(hot3.block (g2+1) (Array.getElem?_eq_some_iff.1 HF33.out).1 (fun e=>by simp at e;omega)).trans HF33.out;obtain⟨l0,l1,l2,l3,l4,l5,l6,lf⟩:=hF2.cells;obtain⟨e0,e1,e2,ef0,ef1,ef2⟩:=cells3 hF3;have lf0:=lf 0;have lf1:=lf 1;have lf2:=lf 2;have lf3:=lf 3;have lf4:=lf 4;have lf5:=lf 5;have lf6:=lf 6;have hg61:=HSA.out.gF1;have hgR1:=HM.out.gR1;have hs31:=HS3.out
       have h62:g6≠g2:=by omega
       have h63:g6≠g2+1:=by omega
       have hR2:gR≠g2:=by omega
       have hR3:gR≠g2+1:=by omega
       have h26:g2≠g6:=by omega
       have h2R:g2≠gR:=by omega
       have hFl:=HFw.out.lt
       have hr6:wr.rangeAt g6 0 [.int .i64 (EX:Int),.slice Al nl cl,.slice Am nm cm,.slice Ad nd cd,.slice Av ND cv,.slice Ap NP cp,.slice Ao NV co]:=fun j x hx=>by rw[Nat.zero_add,cell_of_row _ _ _ _ _ _ HFw.out];simpa using hx
       have hrR:wr.rangeAt gR 0 [.slice (some ⟨gv,0,none⟩) ND cw,.slice (some ⟨gx,0,none⟩) ND cx,va]:=fun j x hx=>by rw[Nat.zero_add,cell_of_row _ _ _ _ _ _ HM.out.rea];simpa using hx
       have HS47:=zh (fun(w':World) (h6:w'.heap[g6]?=wr.heap[g6]?) (hR:w'.heap[gR]?=wr.heap[gR]?)=>And.intro (show w'.rangeAt g6 0 _ from fun j x hx=>(World.cell?_of_block (w:=wr) h6).trans (hr6 j x hx)) (show w'.rangeAt gR 0 _ from fun j x hx=>(World.cell?_of_block (w:=wr) hR).trans (hrR j x hx)));clear hr6 hrR f0 f1 f2 f3 f4' f5 f6 k0 k1 k2 l0 l1 l2 l3 l4 l5 l6 lf0 lf1 lf2 lf3 lf4 lf5 lf6 e0 e1 e2 ef0 ef1 ef2;obtain⟨Aa,na,ca,rfl⟩:=form3 (own_form HM.out.aks);have HF2':=zh hF2;have HF3':=zh hF3;clear hot3 hF2 hF3 lf hlt hd hz hs31 hg61 hgR1;go_upto_region 47 with fail;refine region_tail (S:=fun w'=>w'.rangeAt g6 0 [.int .i64 (EX:Int),.slice Al nl cl,.slice Am nm cm,.slice Ad nd cd,.slice Av ND cv,.slice Ap NP cp,.slice Ao NV co]∧w'.rangeAt gR 0 [.slice (some ⟨gv,0,none⟩) ND cw,.slice (some ⟨gx,0,none⟩) ND cx,.slice Aa na ca]) [] (by kernel_rfl) (HS47.out _ rfl rfl) (fun hHeld=>?_);refine takeT (i:=0) (d:=216) (v:=(.agg #[.int .i64 (EX:Int),.slice Al nl cl,.slice Am nm cm,.slice Ad nd cd,.slice Av ND cv,.slice Ap NP cp,.slice Ao NV co])) rfl rfl (by kernel_rfl) (by kernel_rfl) (by kernel_rfl) (by kernel_rfl) (fun _ _ _ h=>h) (yieldsIf_load_mid (by rfl) 35 (.tmp 6) rfl g6 0 (by rfl) [.int .i64 (EX:Int),.slice Al nl cl,.slice Am nm cm,.slice Ad nd cd,.slice Av ND cv,.slice Ap NP cp,.slice Ao NV co] _ (fun w hw=>hw.1) Tryz.underlying35 rfl size_flt) (by assumption) ?_;(try simp only[Act.put,z1,z2,z3]);refine takeT (i:=1) (d:=217) (v:=(.agg #[.slice (some ⟨gv,0,none⟩) ND cw,.slice (some ⟨gx,0,none⟩) ND cx,.slice Aa na ca])) rfl rfl (by kernel_rfl) (by kernel_rfl) (by kernel_rfl) (by kernel_rfl) (fun _ _ _ h=>h) (yieldsIf_load_mid (by rfl) 40 (.tmp 7) rfl gR 0 (by rfl) [.slice (some ⟨gv,0,none⟩) ND cw,.slice (some ⟨gx,0,none⟩) ND cx,.slice Aa na ca] _ (fun w hw=>hw.2) Tryz.underlying40 rfl size_rea) (by assumption) ?_;(try simp only[Act.put,z1,z2,z3]);refine tk 2 218 ?_;refine readyT (rs:=[3]) (by kernel_rfl) (by simp) ?_;refine AllReadyT.cons rfl (fun K hK=>?_) ?_
       ·rw[if_pos (by rfl)];refine wp_store_mid 35 (.tmp 2) (.tmp 216) rfl g2 0 #[.int .i64 (EX:Int),.slice Al nl cl,.slice Am nm cm,.slice Ad nd cd,.slice Av ND cv,.slice Ap NP cp,.slice Ao NV co] (by rfl) (by rfl) (there_of_block (w:=wr.drew) HF2'.out (Nat.le_refl 7)) size_flt (by simp[Value.oneCell']) ?_;obtain⟨w4,hw4⟩:=zx (World.setCells wr.drew g2 0 [.int .i64 (EX:Int),.slice Al nl cl,.slice Am nm cm,.slice Ad nd cd,.slice Av ND cv,.slice Ap NP cp,.slice Ao NV co])
        have hh4:HotBy [some g2] wr.drew w4:=by rw[hw4];exact hot_setCells _ _ _ _
        rw[←hw4];refine hK.out _ _ ?_ (fun hHeld=>?_)
        ·first | exact HS47.out _ (hh4.block g6 hFl (fun e=>by simp at e;omega)) (hh4.block gR hgl (fun e=>by simp at e;omega)) | exact HS47.out _ ((hh5.block g6 (Nat.lt_of_lt_of_le hFl hh4.size) (fun e=>by simp at e;omega)).trans (hh4.block g6 hFl (fun e=>by simp at e;omega))) ((hh5.block gR (Nat.lt_of_lt_of_le hgl hh4.size) (fun e=>by simp at e;omega)).trans (hh4.block gR hgl (fun e=>by simp at e;omega)))
        clear hK K;(try simp only[Act.put,z1,z2,z3]);refine readyT (rs:=[4]) (by kernel_rfl) (by simp) ?_;refine AllReadyT.cons rfl (fun K hK=>?_) ?_
        ·rw[if_pos (by rfl)];refine wp_store_mid 40 (.tmp 3) (.tmp 217) rfl (g2+1) 0 #[.slice (some ⟨gv,0,none⟩) ND cw,.slice (some ⟨gx,0,none⟩) ND cx,.slice Aa na ca] (by rfl) (by rfl) (there_of_block ((hh4.block (g2+1) (Array.getElem?_eq_some_iff.1 HF3'.out).1 (by simp)).trans HF3'.out) (Nat.le_refl 3)) size_rea (by simp[Value.oneCell']) ?_;obtain⟨w5,hw5⟩:=zx (World.setCells w4 (g2+1) 0 [.slice (some ⟨gv,0,none⟩) ND cw,.slice (some ⟨gx,0,none⟩) ND cx,.slice Aa na ca])
         have hh5:HotBy [some (g2+1)] w4 w5:=by rw[hw5];exact hot_setCells _ _ _ _
         rw[←hw5];refine hK.out _ _ ?_ (fun hHeld=>?_)
         ·first | exact HS47.out _ (hh4.block g6 hFl (fun e=>by simp at e;omega)) (hh4.block gR hgl (fun e=>by simp at e;omega)) | exact HS47.out _ ((hh5.block g6 (Nat.lt_of_lt_of_le hFl hh4.size) (fun e=>by simp at e;omega)).trans (hh4.block g6 hFl (fun e=>by simp at e;omega))) ((hh5.block gR (Nat.lt_of_lt_of_le hgl hh4.size) (fun e=>by simp at e;omega)).trans (hh4.block gR hgl (fun e=>by simp at e;omega)))
         clear hK K;(try simp only[Act.put,z1,z2,z3]);refine tk 5 4 ?_;refine doneT (by kernel_rfl) ?_ _;go_wp2_with fail;rw[←hw4,←hw5];clear hHeld;have hz:=HZ1.out;have hs3:=HS3.out;have h3r:=HM.out.hot;have hsr:=h3r.size;have hs4:wr.heap.size≤w4.heap.size:=hh4.size;have hs5:=hh5.size
         have hF4:FltB w4 g2 (EX:Int) (.slice Al nl cl) (.slice Am nm cm) (.slice Ad nd cd) (.slice Av ND cv) (.slice Ap NP cp) (.slice Ao NV co):=by rw[hw4];exact FltB.store7 (w:=wr.drew) HF2'.out _ _ _ _ _ _ _
         have hF5:FltB w5 g2 (EX:Int) (.slice Al nl cl) (.slice Am nm cm) (.slice Ad nd cd) (.slice Av ND cv) (.slice Ap NP cp) (.slice Ao NV co):=(hh5.block g2 hF4.lt (by simp)).trans hF4;have hR4:w4.heap[g2+1]?=some (.cells #[.slice none 0 0,.slice none 0 0,.slice none 0 0] 40 (0,0)):=(hh4.block (g2+1) (Array.getElem?_eq_some_iff.1 HF3'.out).1 (by simp)).trans HF3'.out
         have hR5:w5.heap[g2+1]?=some (.cells #[.slice (some ⟨gv,0,none⟩) ND cw,.slice (some ⟨gx,0,none⟩) ND cx,.slice Aa na ca] 40 (0,0)):=by rw[hw5];exact heap_setCell_same _ (g2+1) 2 _ _ _ (heap_setCell_same _ (g2+1) 1 _ _ _ (heap_setCell_same _ (g2+1) 0 _ _ _ hR4))
         clear hw4 hw5;obtain⟨x0,x1,x2,x3,x4,x5,x6,-⟩:=hF5.cells;obtain⟨y0,y1,y2,-⟩:=cells3 hR5;have hr5:HotBy [some g2,some (g2+1)] wr w5:=((HotBy.drew (HotBy.refl _ wr)).trans (hh4.more (fun x hx _=>by simp at hx ⊢;exact .inl hx))).trans (hh5.more (fun x hx _=>by simp at hx ⊢;exact .inr hx));have h35:HotBy [some gT,some g2,some (g2+1)] W3 w5:=(h3r.more (fun x hx _=>by simp at hx ⊢;exact .inl hx)).trans (hr5.more (fun x hx _=>by simp at hx ⊢;exact .inr hx));have h15:HotBy [some gT,some g2,some (g2+1)] W1 w5:=(HH3.out.more (fun x hx _=>by simp at hx ⊢;exact .inl hx)).trans h35;have hbel:Below w.heap.size w w5:=HB1.out.trans ⟨h15.os,h15.tape,h15.output,h15.size,fun b hb=>h15.block b (by omega) (fun e=>by simp at e;omega)⟩;have hfs:FleetS w5 (Fr w.heap.size w5.heap.size) (.slice Al nl cl) (.slice Am nm cm) (.slice Ad nd cd) (.slice Av ND cv) (.slice Ap NP cp) (.slice Ao NV co) F:=(HFS3.out.keep (h35.keptFr (fun b e=>by simp at e;omega) (Nat.le_refl _))).mono (Fr.more (by omega) h35.size)
         have hack:∀a∈st.map Stp.ack,I64 a.vol∧I64 a.stripe∧I64 a.ver∧I64 a.side:=fun a ha=>by
          obtain⟨x,hx,rfl⟩:=List.mem_map.1 ha;have h1:=HST.out.ok x hx
          have h2:(x.vol,x.stripe)∈keysTo EX v 0:=by rw[←HST.out.keys];exact List.mem_map.2 ⟨x,hx,rfl⟩
          have h3:=keysTo_mem h2;have h4:=HNN.out;have h5:=HVV.out;have h6:=HEX.out;have h7:=h1.ver2;have h8:=h1.side;unfold I64 Stp.ack;simp only;omega
         have hre:ReS w5 (Fr w.heap.size w5.heap.size) (.slice (some ⟨gv,0,none⟩) ND cw) (.slice (some ⟨gx,0,none⟩) ND cx) (.slice Aa na ca) ⟨rs.map (·.2),on,st.map Stp.ack⟩:=((HM.out.reS hack).keep (hr5.keptFr (fun b e=>by simp at e;omega) (Nat.le_refl _))).mono (Fr.more (by omega) hr5.size);have hgM:=HM.out.gM1;have hmp:MapKV w5 67 gM n f:=HM.out.map.same (hr5.block gM (MapKV.lt HM.out.map) (fun e=>by simp at e;omega))
         have hmo:MadeOk F ⟨rs.map (·.2),on,st.map Stp.ack⟩ st:=by
          have h4:=HNN.out;have h9:=HVV.out;refine⟨?_,?_,rfl,?_,HST.out.ok,?_,?_,?_⟩
          ·show(rs.map (·.2)).length=_
           rw[List.length_map,HSL.out.1];exact h4.1
          ·show on.length=_
           rw[HSL.out.2.1];exact h4.1
          ·rw[HST.out.keys,HFE.out,h9,h4.2.2.1];rfl
          ·intro l hl s hs;obtain⟨x,hx,rfl⟩:=List.mem_map.1 hl;obtain⟨i,hi⟩:=List.getElem?_of_mem hx;exact(HSL.out.2.2 i x hi).2 s hs
          ·intro l hl;obtain⟨x,hx,rfl⟩:=List.mem_map.1 hl;obtain⟨i,hi⟩:=List.getElem?_of_mem hx;have h8:=(HSL.out.2.2 i x hi).1;omega
          ·intro l hl;obtain⟨x,hx,rfl⟩:=List.mem_map.1 hl;obtain⟨i,hi⟩:=List.getElem?_of_mem hx;exact(HSL.out.2.2 i x hi).1
         refine bodyPost_ret (v:=.tuple #[.agg #[.int .i64 (EX:Int),.slice Al nl cl,.slice Am nm cm,.slice Ad nd cd,.slice Av ND cv,.slice Ap NP cp,.slice Ao NV co],.agg #[.slice (some ⟨gv,0,none⟩) ND cw,.slice (some ⟨gx,0,none⟩) ND cx,.slice Aa na ca],.map (some gM)]) ?_ rfl ?_
         ·simp[results,Tryz.results11,go_sem,x0,x1,x2,x3,x4,x5,x6,y0,y1,y2]
         ·exact⟨.slice Al nl cl,.slice Am nm cm,.slice Ad nd cd,.slice Av ND cv,.slice Ap NP cp,.slice Ao NV co,F,_,_,_,_,gM,n,f,st,by rw[HFE.out],hfs,HOK.out,hre,hmo,hmp,HST.out.data,by omega,hbel⟩
        exact AllReadyT.nil
       exact AllReadyT.nil
end Go.Proofs.YtcfkllnpkmebpaaGreatDoor
