/- The reference's Parse, walked. -/
import Derived.Test.YtcfkllnpkmebpaaGreatDoorMp19
import Derived.Test.YtcfkllnpkmebpaaGreatDoorMp27
import Derived.Test.YtcfkllnpkmebpaaGreatDoorMp01
import Derived.Test.YtcfkllnpkmebpaaGreatDoorMp23
import Derived.Test.YtcfkllnpkmebpaaGreatDoorMp20
import Derived.Test.YtcfkllnpkmebpaaGreatDoorMp15
import Derived.Deep.MidRow
import Derived.Test.YtcfkllnpkmebpaaGreatDoorMp08
import Derived.Deep.AppendLies
set_option maxRecDepth 100000
set_option maxHeartbeats 12800000
namespace Go.Proofs.YtcfkllnpkmebpaaGreatDoor
open Go.RowKit
set_option linter.unusedVariables false
set_option linter.unusedSimpArgs false
theorem step_inc{ops:Array Oper} {o:Oper} {a:Act} {K:Act→World→Prop} {Q:Exit→Act→World→Prop} {E:Prop} {w:World} (u:Inc) (cv:Value) (hgd:o.guard=none) (s x:Operand)
  (ho:o.op=.call { callee:=.builtin .append,args:=#[s,x],argTypes:=#[23,23] }) (base:Nat) (v:Value) (L:List IncW) (hs:a.eval s=v) (hown:IncsS w base v L) (hnew:SlS 2 CauK w (IncR w base v) cv u.causes) (gb:Nat) (hx:a.eval x=.slice (some ⟨gb,0,none⟩) 1 1)
  (hbk:w.heap[gb]?=some (.cells #[.int .i64 u.vol,.int .i64 u.stripe,.bool u.lost,.int .i64 u.need,cv] 27 (0,0))) (hn:L.length+1≤16777216) (hbase:base≤w.heap.size)
  (h:∀v' w',IncsS w' base v' (L++[⟨u,cv⟩])→w.grownBy w' v.ownBlock→K (a.put o.dst v') w') :
  if Region.wanted o (yielded ops a.tmps)=true then Oper.wp Tryz.prog o a w K Q else E:=by
 obtain⟨i0,hi0,hz0,hz1,hz2⟩:=info_parts info_inc;have h1c:=one_sls hnew
 refine step_append_lies _ hgd s x _ ho base 27 i0 _ 5 56 Tryz.underlying23 hi0 hz0 hz1 hz2 rfl (by omega) v L.length (L.flatMap incC) hs hown.row ⟨gb,0,none⟩ 1 1 [.int .i64 u.vol,.int .i64 u.stripe,.bool u.lost,.int .i64 u.need,cv] hx rfl (World.news_of_block (cs:=#[.int .i64 u.vol,.int .i64 u.stripe,.bool u.lost,.int .i64 u.need,cv]) hbk)
  (fun y hy=>?_) (by omega) (by unfold maxLen;omega) (by omega) hbase w.heap.size rfl (fun g cap w' h1 h2 h3 _=>h _ w' (hown.push (s:=⟨u,cv⟩) hnew h1 h2 ?_) h2)
 ·simp at hy;rcases hy with rfl | rfl | rfl | rfl | rfl
  ·rfl
  ·rfl
  ·rfl
  ·rfl
  ·exact h1c
 ·rcases h3 with h3 | h3
  ·exact .inl h3.symm
  ·exact .inr ⟨g,rfl,by omega⟩
theorem rparse_any(N:Nat) (hN:N≤12) (vl vm vd vv vp vo:Value) (F:FltM) (S:ByteArray) (w:World) (hf:FleetS w (Bl w.heap.size) vl vm vd vv vp vo F) (hok:FleetOk N F) (hS:S.size≤100000) :
  Calls Tryz.prog 20 #[.agg #[.int .i64 F.ext,vl,vm,vd,vv,vp,vo],.string S] w fun e w'=>(∃u,e=.returned (.tuple #[u,.int .i64 (parsR F [] S.data.toList 1).2.1,.int .i64 ((parsR F [] S.data.toList 1).2.2:Int)])∧SlS 5 IncK w' (Fr w.heap.size w'.heap.size) u (parsR F [] S.data.toList 1).1)∧Below w.heap.size w w':=by
 obtain⟨W0,hW0⟩:=zx (w.alloc (.cells #[.int .i64 F.ext,vl,vm,vd,vv,vp,vo] 35));obtain⟨z,hz⟩:=zx w.heap.size
 have hb0:Below w.heap.size w W0:=by rw[hW0];exact(Below.refl _ _).alloc (Nat.le_refl _) _
 have hzk:W0.heap[z]?=some (.cells #[.int .i64 F.ext,vl,vm,vd,vv,vp,vo] 35 (0,0)):=by rw[hW0,hz];exact heap_alloc_new w _
 have hzl:z<W0.heap.size:=(Array.getElem?_eq_some_iff.1 hzk).1;have HC:=zh (fun(w':World) (hb:Below W0.heap.size W0 w')=>cells7 ((hb.block z hzl).trans hzk));have HV:=zh (rvalidate_any N hN vl vm vd vv vp vo F W0 (hf.below hb0) hok);have HBL:=zh (fun(w':World) (hb:Below W0.heap.size W0 w') (L:List Inc) (s:ByteArray) (vL:Value) (hL:SlS 5 IncK w' (Bl w'.heap.size) vL L) (h1:L.length≤100000) (h2:s.size≤100000) (h3:0<s.size) (h4:leftOf F L=0)=>block_any N hN vl vm vd vv vp vo vL F L s w' (hf.below (hb0.trans (hb.mono hb0.size))) hok hL h1 (by omega) h3 h4);obtain⟨EX,hEX⟩:=zx F.ext;obtain⟨PR,hPR⟩:=zx (parsR F [] S.data.toList 1);rw[←hEX] at HV HC HBL hW0 ⊢;rw[←hPR];have HPR:=zh hPR;have HRE:=zh (fun(w':World) (hb:Below W0.heap.size W0 w')=>hb0.trans (hb.mono hb0.size));have HW0:=zh hW0;have HZ:=zh hz;have HB0:=zh hb0;obtain⟨c0,c1,c2,c3,c4,c5,c6⟩:=HC.out W0 (Below.refl _ _);clear hf hok hW0 hz hb0 hzk hzl hEX hPR;go_enter Tryz.func20,Tryz.ntmps20;go_upto_region 1 with fail;rw[←HW0.out,←HZ.out];go_wp2_with fail;refine HV.out.mono ?_;rintro e W1 ⟨rfl,hb1⟩;have HB1:=zh hb1;clear c0 c1 c2 c3 c4 c5 c6 hb1;go_wp2_with fail;go_loopg [1,7,8] (S.size+1) (fun z v1 v7 v8 wr=>∃(s:ByteArray) (M:List IncW) (va:Value) (nn:Nat),v1=.string s∧va=v7∧v8=.int .i64 (nn:Int)∧z=s.size+1∧Hid (IncsS wr W1.heap.size va M)∧Hid (PR=parsR F (M.map fun y=>y.x) s.data.toList (nn+1))∧Hid (leftOf F (M.map fun y=>y.x)=0)∧Hid (M.length+s.size≤S.size∧nn≤10 * M.length)∧Hid (Below W1.heap.size W1 wr))
 case atStart=>exact⟨S,[],_,0,rfl,rfl,rfl,rfl,zh (IncsS.nil _ _),HPR,zh rfl,zh ⟨by simp,by omega⟩,zh (Below.refl _ _)⟩
 case round =>
  obtain⟨s,M,va,nn,rfl,rfl,rfl,rfl,HIN,HPS,HLF,HBD,HBW⟩:=hrel;obtain⟨A7,k7,hva⟩:=own_form HIN.out.row;subst hva;have hb01:=HB1.out.trans (HBW.out.mono HB1.out.size);have HB01:=zh hb01;by_cases hs0:0<s.size
  ·have t1:decide (0<(s.size:Int))=true:=decide_eq_true (by omega);have hbl:=HBL.out wr hb01 (M.map fun y=>y.x) s _ (SlS.mono incK HIN.out.slS (fun x hx=>hx.2)) (by rw[List.length_map];have:=HBD.out;omega) (by have:=HBD.out;omega) hs0 HLF.out;have HBK:=zh hbl;have HS0:=zh hs0;obtain⟨c0,c1,c2,c3,c4,c5,c6⟩:=HC.out wr hb01;clear hb01 hbl hs0;go_wp2_with fail;refine HBK.out.mono ?_;rintro e w3 ⟨⟨xv,xs,xl,xn,A,n,c,pos,lines,ok,rfl,hln,hbp⟩,hb3⟩
   have hli:(lines:Int)≤10:=by omega
   have hnb:=HBD.out
   have n1:(nn:Int)≤1000000:=by omega
   have n2:IntKind.i64.wrap ((nn:Int)+(lines:Int))=(((nn+lines:Nat)):Int):=by rw[show(nn:Int)+(lines:Int)=((nn+lines:Nat):Int) by omega];exact IntWalk.i64_in _ (by omega)
   obtain⟨NN,hNN⟩:=zx (nn+lines);rw[←hNN] at n2
   have hN10:(NN:Int)≤1000010:=by omega
   have HB3:=zh hb3;clear c0 c1 c2 c3 c4 c5 c6 hb3 hli hnb
   cases ok with
   | false =>
    have hfin:=HPS.out;rw[hbp (nn+1),show nn+1+lines=NN+1 by omega] at hfin;have HFIN:=zh hfin;have HIN3:=zh (HIN.out.below HB3.out);clear hfin hbp hln hNN;go_wp2_with fail;go_ret3;have hbz:=HB01.out.trans (HB3.out.mono HB01.out.size);exact⟨⟨.slice none 0 0,by rw[HFIN.out];rfl,by rw[HFIN.out];exact Row.nil _ _ _⟩,HRE.out _ (hbz.alloc hbz.size _)⟩
   | true =>
    obtain⟨x0,cs,hx0,⟨e1,e2,e3,e4⟩,hcv,hst,hlk,hl2⟩:=hbp
    have hmk:(⟨xv,xs,xl,xn,cs⟩:Inc)=mkX x0 cs:=by rw[e1,e2,e3,e4];rfl
    have hsz:s.data.toList.length=s.size:=Array.length_toList;have hpb:=hst.1;rw[hsz] at hpb;obtain⟨S2,hS2⟩:=zx (s.extract pos s.size)
    have hs2z:S2.size=s.size - pos:=by rw[hS2,ByteArray.size_extract];omega
    have hs2l:S2.data.toList=s.data.toList.drop pos:=by
     rw[hS2,ext_list _ _ _ (Nat.le_refl _)];exact List.take_of_length_le (by rw[List.length_drop,hsz];exact Nat.le_refl _)
    have hpn:=HPS.out;rw[hst.2.1 (nn+1),←hs2l,show nn+1+1+cs.length=NN+1 by omega] at hpn
    have hmap:(M++[(⟨⟨xv,xs,xl,xn,cs⟩,.slice A n c⟩:IncW)]).map (fun y=>y.x)=M.map (fun y=>y.x)++[mkX x0 cs]:=by
     rw[List.map_append,←hmk];rfl
    have HPN:=zh (show PR=parsR F ((M++[(⟨⟨xv,xs,xl,xn,cs⟩,.slice A n c⟩:IncW)]).map (fun y=>y.x)) S2.data.toList (NN+1) from by rw[hmap];exact hpn);have HLN:=zh (show leftOf F ((M++[(⟨⟨xv,xs,xl,xn,cs⟩,.slice A n c⟩:IncW)]).map (fun y=>y.x))=0 from by rw[hmap,left_snoc];exact hlk)
    have HBN:=zh (show(M++[(⟨⟨xv,xs,xl,xn,cs⟩,.slice A n c⟩:IncW)]).length+S2.size≤S.size∧NN≤10 * (M++[(⟨⟨xv,xs,xl,xn,cs⟩,.slice A n c⟩:IncW)]).length from by
     rw[List.length_append,List.length_singleton];have:=HBD.out
     omega)
    have HSO:=zh (show S2.size<s.size∧s.size≤100000 from by have:=HBD.out;omega);have HS2:=zh hS2
    have q1:(0:Int)≤(pos:Int):=by omega
    have q2:(pos:Int)≤(s.size:Int):=by omega
    have q3:(s.size:Int)≤100000:=by have:=HSO.out;omega
    obtain⟨W5,hW5⟩:=zx (w3.alloc (.cells #[.int .i64 xv,.int .i64 xs,.bool xl,.int .i64 xn,.slice A n c] 27));obtain⟨g9,hg9⟩:=zx w3.heap.size
    have hb5:Below w3.heap.size w3 W5:=by rw[hW5];exact(Below.refl _ _).alloc (Nat.le_refl _) _
    have hk5:W5.heap[g9]?=some (.cells #[.int .i64 xv,.int .i64 xs,.bool xl,.int .i64 xn,.slice A n c] 27 (0,0)):=by rw[hW5,hg9];exact heap_alloc_new _ _
    have hbw3:=HBW.out.trans (HB3.out.mono HBW.out.size);have hin3:=HIN.out.below HB3.out;have HBW5:=zh (hbw3.trans (hb5.mono hbw3.size));have HIN5:=zh (hin3.below hb5);have hlt5:=(Array.getElem?_eq_some_iff.1 hk5).1;have HK5:=zh (And.intro hk5 hlt5);have HSF:=zh (fun(w':World) (hb:Below W5.heap.size W5 w')=>cells5 ((hb.block g9 hlt5).trans hk5));have HNE:=zh (show(Value.slice A7 M.length k7).ownBlock≠some g9 from fun e=>by have:=(hin3.row.lt g9 e).2;omega);have HCV:=zh (show SlS 2 CauK W5 (IncR W5 W1.heap.size (.slice A7 M.length k7)) (.slice A n c) cs from SlS.mono cauK (SlS.keep cauK hcv.slS (fun x hx=>hb5.block x hx.2)) (fun x hx=>⟨Nat.le_trans HBW.out.size hx.1,Nat.lt_of_lt_of_le hx.2 hb5.size,fun e=>by have h1:=(HIN.out.row.lt x e).2;have h2:=hx.1;omega⟩));have HW5:=zh hW5;have HG9:=zh hg9;clear hx0 e1 e2 e3 e4 hcv hst hlk hl2 hmk hsz hpb hs2z hs2l hpn hmap hS2 hW5 hg9 hb5 hk5 hbw3 hin3 hlt5 hNN hln;go_upto_region 10 with fail;rw[←HW5.out,←HG9.out];refine region_tail (S:=(fun w'=>w'.cell? ⟨g9,0,none⟩=some (.int .i64 xv)∧w'.cell? ⟨g9,1,none⟩=some (.int .i64 xs)∧w'.cell? ⟨g9,2,none⟩=some (.bool xl)∧w'.cell? ⟨g9,3,none⟩=some (.int .i64 xn)∧w'.cell? ⟨g9,4,none⟩=some (.slice A n c))) [] (by kernel_rfl) (HSF.out _ (Below.refl W5.heap.size W5).drew) (fun hHeld=>?_);refine tk 0 35 ?_;refine tk 1 36 ?_;refine tk 4 39 ?_;refine tk 5 40 ?_;refine tk 6 41 ?_;refine readyT (rs:=[2]) (by kernel_rfl) (by simp) ?_;refine AllReadyT.cons rfl (fun K hK=>?_) ?_
    ·go_simp;have hX:=heap_alloc_new W5.drew (.cells #[.int .i64 xv,.int .i64 xs,.bool xl,.int .i64 xn,.slice A n c] 27);have hbl6:Below W5.heap.size W5 (W5.drew.alloc (.cells #[.int .i64 xv,.int .i64 xs,.bool xl,.int .i64 xn,.slice A n c] 27)):=(Below.refl W5.heap.size W5).drew.alloc (Nat.le_refl _) _;refine hK.out _ _ ?_ (fun hHeld=>?_)
     ·(first|exact hs8|exact HSF.out _ hbl6)
     clear hK K;(try simp only[Act.put,z1,z2,z3]);refine readyT (rs:=[3]) (by kernel_rfl) (by simp) ?_;refine AllReadyT.cons rfl (fun K hK=>?_) ?_
     ·refine step_inc ⟨xv,xs,xl,xn,cs⟩ (.slice A n c) rfl (.tmp 35) (.tmp 37) rfl W1.heap.size (.slice A7 M.length k7) M (by rfl) (HIN5.out.below hbl6) (SlS.mono cauK (SlS.keep cauK HCV.out (fun x hx=>hbl6.block x hx.2.1)) (fun x hx=>⟨hx.1,Nat.lt_of_lt_of_le hx.2.1 hbl6.size,hx.2.2⟩)) _ (by rfl) hX (by have:=HBD.out;have:=HSO.out;omega) (Nat.le_trans HBW5.out.size hbl6.size) ?_;intro v8 w8 how8 hg8
      change K (Act.put _ (some 38) _) _
      obtain⟨A8,k8,hv8⟩:=own_form how8.row;have hk8:=(hg8.block g9 (Nat.lt_of_lt_of_le HK5.out.2 hbl6.size) (fun e=>HNE.out e.symm)).trans ((hbl6.block g9 HK5.out.2).trans HK5.out.1);have hs8:=cells5 hk8;have hb18:=(HBW5.out.trans (hbl6.mono HBW5.out.size)).grown hg8 (Nat.le_trans HBW5.out.size hbl6.size) (fun x hx=>(HIN.out.row.lt x hx).1);refine hK.out _ _ ?_ (fun hHeld=>?_)
      ·(first|exact hs8|exact HSF.out _ hbl6)
      clear hK K;(try simp only[Act.put,z1,z2,z3]);refine tk 7 7 ?_;refine tk 8 1 ?_;refine doneT (by kernel_rfl) ?_ _;have HIN8:=zh how8;have HB18:=zh hb18;rw[show(M++[(⟨⟨xv,xs,xl,xn,cs⟩,.slice A n c⟩:IncW)]).length=M.length+1 by simp] at hv8;subst hv8;clear hHeld how8 hg8 hb18 hbl6 hs8 hk8 hX;go_wp2_with fail;(try simp only[Act.put,z1,z2,z3]);go_roundg (S2.size+1)
      case measure=>have:=HSO.out;omega
      case rel=>exact⟨S2,M++[⟨⟨xv,xs,xl,xn,cs⟩,.slice A n c⟩],_,NN,by rw[HS2.out],rfl,rfl,rfl,HIN8,HPN,HLN,HBN,HB18⟩
     exact AllReadyT.nil
    exact AllReadyT.nil
  ·have t1:decide (0<(s.size:Int))=false:=decide_eq_false (by omega)
   have hse:s.data.toList=[]:=by
    have:s.data.toList.length=s.size:=Array.length_toList;exact List.eq_nil_of_length_eq_zero (by omega)
   have hfin:=HPS.out;rw[hse,pars_end F _ _ HLF.out] at hfin;have HFIN:=zh hfin;clear hb01 hse hfin;go_wp2_with fail;go_ret3
   exact⟨⟨_,by rw[HFIN.out];rfl,by
    rw[HFIN.out]
    exact SlS.mono incK HIN.out.slS (fun x hx=>⟨Nat.le_trans (HRE.out _ HB1.out).size hx.1,hx.2⟩)⟩,HRE.out _ HB01.out⟩
end Go.Proofs.YtcfkllnpkmebpaaGreatDoor

namespace Go.Proofs.YtcfkllnpkmebpaaGreatDoor
end Go.Proofs.YtcfkllnpkmebpaaGreatDoor

namespace Go.Proofs.YtcfkllnpkmebpaaGreatDoor
open Go.RowKit
set_option linter.unusedVariables false
set_option linter.unusedSimpArgs false
end Go.Proofs.YtcfkllnpkmebpaaGreatDoor

namespace Go.Proofs.YtcfkllnpkmebpaaGreatDoor
open Go.RowKit
set_option linter.unusedVariables false
set_option linter.unusedSimpArgs false
theorem keyL_in(F:FltM) (r:Re) (cond:Int→Int→Int→Bool) (ext NO v s:Nat) (hv:v<NO) (hs:s<ext):(v,s)∈keyL F r cond ext NO 0↔keyP F r cond (v,s)=true:=by
 unfold keyL;rw[List.mem_filter]
 have hm:(v,s)∈keysTo ext NO 0:=by
  unfold keysTo;exact List.mem_append_left _ (List.mem_flatMap.2 ⟨v,List.mem_range.2 hv,List.mem_map.2 ⟨s,List.mem_range.2 hs,rfl⟩⟩)
 exact⟨fun h=>h.2,fun h=>⟨hm,h⟩⟩
theorem keyL_dec(F:FltM) (r:Re) (cond:Int→Int→Int→Bool) (ext NO v s:Nat) (hv:v<NO) (hs:s<ext):decide ((v,s)∈keyL F r cond ext NO 0)=keyP F r cond (v,s):=by
 rw[Bool.eq_iff_iff,decide_eq_true_eq];exact keyL_in F r cond ext NO v s hv hs
end Go.Proofs.YtcfkllnpkmebpaaGreatDoor

namespace Go.Proofs.YtcfkllnpkmebpaaGreatDoor
open Go.RowKit
set_option linter.unusedVariables false
set_option linter.unusedSimpArgs false
theorem in_any(va:Value) (ks:List (Nat×Nat)) (x y:Nat) (R:Nat→Prop) (w:World) (ha:SlS 2 KyK w R va ks) (hR:∀b,R b→b<w.heap.size) :
  Calls Tryz.prog 39 #[va,.agg #[.int .i64 (x:Int),.int .i64 (y:Int)]] w fun e w'=>e=.returned (.bool (decide ((x,y)∈ks)))∧Below w.heap.size w w':=by
 obtain⟨A,c,rfl,h1,h2⟩:=ha.form;unfold maxLen at h2;obtain⟨W0,hW0⟩:=zx (w.alloc (.cells #[.int .i64 (x:Int),.int .i64 (y:Int)] 67));obtain⟨q,hq⟩:=zx w.heap.size
 have hb0:Below w.heap.size w W0:=by rw[hW0];exact(Below.refl _ _).alloc (Nat.le_refl _) _
 have p0:W0.cell? ⟨q,0,none⟩=some (.int .i64 (x:Int)):=by rw[hW0,hq];simp
 have p1:W0.cell? ⟨q,1,none⟩=some (.int .i64 (y:Int)):=by rw[hW0,hq];simp
 have hq0:q<W0.heap.size:=by rw[hW0,hq];simp
 have HA:=zh ha;have HB0:=zh hb0;have HW0:=zh hW0;have HQ:=zh hq;have HQ0:=zh hq0;have HR:=zh hR;obtain⟨L,hL⟩:=zx ks.length;rw[←hL] at HA h1 h2 ⊢;have HL:=zh hL;obtain⟨res,hres⟩:=zx (decide ((x,y)∈ks));rw[←hres];have HRES:=zh hres;clear ha hL hW0 hq hb0 hq0 hres hR;go_enter Tryz.func39,Tryz.ntmps39;go_wp2_with fail;rw[←HW0.out,←HQ.out];go_loopg [5] L (fun z v5 wr=>∃j:Nat,j≤L∧z=L - j∧v5=.int .i64 (j:Int)∧Hid (∀k∈ks.take j,k≠(x,y))∧Hid (Below W0.heap.size W0 wr))
 case atStart=>exact⟨0,by omega,rfl,rfl,zh (fun k hk=>by simp at hk),zh (Below.refl _ _)⟩
 case round =>
  obtain⟨j,hj,rfl,rfl,HN,HB⟩:=hrel;have e0:=(HB.out.cell (p:=⟨q,0,none⟩) HQ0.out).trans p0;have e1:=(HB.out.cell (p:=⟨q,1,none⟩) HQ0.out).trans p1;have HBB:=zh (HB0.out.trans (HB.out.mono HB0.out.size));by_cases hlt:j<L
  ·have hjl:j<ks.length:=by rw[←HL.out];exact hlt
   obtain⟨b,off,cs,rfl,hRb,-,hc,hcs⟩:=HA.out.at_ (k:=j) hjl;obtain⟨c0,c1⟩:=two_ky hc hcs;have hbw:=HR.out b hRb;have d0:=(HBB.out.cell (p:=⟨b,off+j * 2,none⟩) hbw).trans c0;have d1:=(HBB.out.cell (p:=⟨b,off+j * 2+1,none⟩) hbw).trans c1;have HKM:=zh (List.getElem_mem hjl)
   have HST:=zh (fun(h:ks[j]≠(x,y))=>(fun k hk=>by
    rw[List.take_succ_eq_append_getElem hjl,List.mem_append,List.mem_singleton] at hk;rcases hk with hk | rfl
    ·exact HN.out k hk
    ·exact h:∀k∈ks.take (j+1),k≠(x,y)))
   clear c0 c1 hc hcs;generalize ks[j]=u at *;obtain⟨u1,u2⟩:=u;simp only at d0 d1;by_cases hu:u1=x∧u2=y
   ·obtain⟨rfl,rfl⟩:=hu;have HE:=zh (show res=true by rw[HRES.out];exact decide_eq_true HKM.out);go_upto_region 4 with fail
    go_quiet (fail)
    go_wp2_with fail;go_ret;exact⟨by rw[HE.out];rfl,(by first | exact HBB.out | exact Below.drewN' HBB.out _)⟩
   ·have HS:=zh (HST.out (fun e=>hu (by injection e with e1 e2;exact⟨e1,e2⟩)));by_cases e:u1=x
    ·subst e
     have hv:((u2:Int)==(y:Int))=false:=by rw[beq_eq_false_iff_ne];exact fun e2=>hu ⟨rfl,by omega⟩
     clear hu;go_upto_region 4 with fail
     go_quiet (fail)
     go_wp2_with fail;go_roundg (L - (j+1))
     case measure=>omega
     case rel=>exact⟨j+1,by omega,rfl,by go_num,HS,zh (by first | exact HB.out | exact Below.drewN' HB.out _)⟩
    ·have hv:((u1:Int)==(x:Int))=false:=by rw[beq_eq_false_iff_ne];omega
     clear hu e;go_upto_region 4 with fail
     go_quiet (fail)
     go_wp2_with fail;go_roundg (L - (j+1))
     case measure=>omega
     case rel=>exact⟨j+1,by omega,rfl,by go_num,HS,zh (by first | exact HB.out | exact Below.drewN' HB.out _)⟩
  ·have HE:=zh (show res=false by rw[HRES.out];exact decide_eq_false (fun h=>HN.out _ (by rw[List.take_of_length_le (by have:=HL.out;omega)];exact h) rfl));go_wp2_with fail;go_ret;exact⟨by rw[HE.out];rfl,HBB.out⟩
end Go.Proofs.YtcfkllnpkmebpaaGreatDoor

namespace Go.Proofs.YtcfkllnpkmebpaaGreatDoor
open Go.RowKit
open Go.ChangeMaps Go.MapKept Go.WideShapes
set_option linter.unusedVariables false
set_option linter.unusedSimpArgs false
theorem size_inc:(Tryz.prog.info? 27).map (·.size)=some 5:=by kernel_rfl
end Go.Proofs.YtcfkllnpkmebpaaGreatDoor

namespace Go.Proofs.YtcfkllnpkmebpaaGreatDoor
open Go.RowKit
set_option linter.unusedVariables false
set_option linter.unusedSimpArgs false
def expl(F:FltM) (r:Re):List Inc:=if r.plat.length≤F.dves.length∧r.on.length≤F.dves.length then incL F r F.ext.toNat F.vols.length 0 else []
theorem incL_zero(F:FltM) (r:Re) (ext:Nat):incL F r ext 0 0=[]:=rfl
theorem incL_next(F:FltM) (r:Re) (ext v:Nat):incL F r ext v ext=incL F r ext (v+1) 0:=by unfold incL;rw[keysTo_next]
theorem incL_succ(F:FltM) (r:Re) (ext v s:Nat):incL F r ext v (s+1)=incL F r ext v s++(if lostP F r (v,s)=true then [incOf F r true (v,s)] else if awayP F r (v,s)=true then [incOf F r false (v,s)] else []):=by
 unfold incL;rw[keysTo_succ,List.filterMap_append]
 congr 1
 by_cases h:lostP F r (v,s)=true
 ·simp[h]
 ·by_cases h2:awayP F r (v,s)=true
  ·simp[h,h2]
  ·simp[h,h2]
theorem incL_no{F:FltM} {r:Re} {ext v s:Nat} (h:(!lostP F r (v,s)&&!awayP F r (v,s))=true):incL F r ext v (s+1)=incL F r ext v s:=by
 rw[Bool.and_eq_true,Bool.not_eq_true',Bool.not_eq_true'] at h;rw[incL_succ,h.1,h.2];simp
theorem incL_yes{F:FltM} {r:Re} {ext v s:Nat} {b:Bool} (hb:b=lostP F r (v,s)) (h:(!lostP F r (v,s)&&!awayP F r (v,s))=false):incL F r ext v (s+1)=incL F r ext v s++[incOf F r b (v,s)]:=by
 rw[incL_succ];subst hb
 cases h1:lostP F r (v,s) with
 | true=>simp
 | false =>
  rw[h1] at h
  have h2:awayP F r (v,s)=true:=by simpa using h
  simp[h2]
theorem IncT.made{W0 w:World} {g:Nat} {c0 c1 c2 c3:Value} (hb:Below W0.heap.size W0 w) (hg:w.heap[g]?=some (.cells #[.int .i64 0,.int .i64 0,.bool false,.int .i64 0,.slice none 0 0] 27 (0,0))) (hge:W0.heap.size≤g):IncT W0 g c0 c1 c2 c3 (w.setCells g 0 [c0,c1,c2,c3,.slice none 0 0]) (.slice none 0 0) []:=by
 have h1:(w.setCell ⟨g,0,none⟩ c0).heap[g]?=some (.cells #[c0,.int .i64 0,.bool false,.int .i64 0,.slice none 0 0] 27 (0,0)):=heap_setCell_same w g 0 _ _ _ hg;have h2:((w.setCell ⟨g,0,none⟩ c0).setCell ⟨g,1,none⟩ c1).heap[g]?=some (.cells #[c0,c1,.bool false,.int .i64 0,.slice none 0 0] 27 (0,0)):=heap_setCell_same _ g 1 _ _ _ h1;have h3:(((w.setCell ⟨g,0,none⟩ c0).setCell ⟨g,1,none⟩ c1).setCell ⟨g,2,none⟩ c2).heap[g]?=some (.cells #[c0,c1,c2,.int .i64 0,.slice none 0 0] 27 (0,0)):=heap_setCell_same _ g 2 _ _ _ h2;have h4:((((w.setCell ⟨g,0,none⟩ c0).setCell ⟨g,1,none⟩ c1).setCell ⟨g,2,none⟩ c2).setCell ⟨g,3,none⟩ c3).heap[g]?=some (.cells #[c0,c1,c2,c3,.slice none 0 0] 27 (0,0)):=heap_setCell_same _ g 3 _ _ _ h3;have h5:(((((w.setCell ⟨g,0,none⟩ c0).setCell ⟨g,1,none⟩ c1).setCell ⟨g,2,none⟩ c2).setCell ⟨g,3,none⟩ c3).setCell ⟨g,4,none⟩ (.slice none 0 0)).heap[g]?=some (.cells #[c0,c1,c2,c3,.slice none 0 0] 27 (0,0)):=heap_setCell_same _ g 4 _ _ _ h4;exact⟨below_setCellsV hge _ _ _ hb,h5,OwnCau.nil _ _,hge⟩
theorem rexplain_out(N:Nat) (hN:N≤12) (vl vm vd vv vp vo vp0 vo0 va0:Value) (F:FltM) (r:Re) (w:World) (hf:FleetS w (Bl w.heap.size) vl vm vd vv vp vo F) (hok:FleetOk N F) (h:ReS w (Bl w.heap.size) vp0 vo0 va0 r) (hx:F.dves.length<r.plat.length∨F.dves.length<r.on.length) :
  Calls Tryz.prog 12 #[.agg #[.int .i64 F.ext,vl,vm,vd,vv,vp,vo],.agg #[vp0,vo0,va0]] w fun e w'=>e=.returned (.slice none 0 0)∧Below w.heap.size w w':=by
 obtain⟨Ad,cd,rfl,-,hmd⟩:=SlS.form hf.2.2.2.1;obtain⟨Ap,cp,rfl,-,hmp⟩:=h.1.form;obtain⟨Ao,co,rfl,-,hmo⟩:=h.2.1.form;unfold maxLen at hmd hmp hmo;obtain⟨W0,hW0⟩:=zx ((w.alloc (.cells #[.int .i64 F.ext,vl,vm,vd,.slice Ad F.dves.length cd,vp,vo] 35)).alloc (.cells #[.slice Ap r.plat.length cp,.slice Ao r.on.length co,va0] 40));obtain⟨z,hz⟩:=zx w.heap.size;obtain⟨y,hy⟩:=zx (w.heap.size+1)
 have hb0:Below w.heap.size w W0:=by rw[hW0];exact((Below.refl _ _).alloc (Nat.le_refl _) _).alloc (by simp) _
 have hyk:W0.heap[y]?=some (.cells #[.slice Ap r.plat.length cp,.slice Ao r.on.length co,va0] 40 (0,0)):=by
  rw[hW0];exact heap_alloc_at _ _ _ (by rw[hy];simp)
 have hzk:W0.heap[z]?=some (.cells #[.int .i64 F.ext,vl,vm,vd,.slice Ad F.dves.length cd,vp,vo] 35 (0,0)):=by
  rw[hW0,hz];exact(Below.heap_alloc _ _ _ (by simp)).trans (heap_alloc_new w _)
 have hyl:y<W0.heap.size:=(Array.getElem?_eq_some_iff.1 hyk).1;have hzl:z<W0.heap.size:=(Array.getElem?_eq_some_iff.1 hzk).1;have HVA:=zh (rvalidate_any N hN vl vm vd _ vp vo F W0 (hf.below hb0) hok);have HC:=zh (fun(w':World) (hb:Below W0.heap.size W0 w')=>And.intro (cells7 ((hb.block z hzl).trans hzk)) (cells3 ((hb.block y hyl).trans hyk)));have HW0:=zh hW0;have HZ:=zh (And.intro hz hy);have HB0:=zh hb0;obtain⟨⟨c0,c1,c2,c3,c4,c5,c6⟩,-⟩:=HC.out W0 (Below.refl _ _);obtain⟨EX,hEX⟩:=zx F.ext;obtain⟨ND,hND⟩:=zx F.dves.length;obtain⟨NPL,hNPL⟩:=zx r.plat.length;obtain⟨NOL,hNOL⟩:=zx r.on.length;rw[←hEX,←hND] at HVA HW0 HC ⊢;rw[←hEX] at c0;rw[←hND] at c4 hmd;rw[←hNPL,←hNOL] at HW0 HC ⊢;rw[←hNPL] at hmp;rw[←hNOL] at hmo;rw[←hND,←hNPL,←hNOL] at hx;by_cases hc:ND<NPL
 ·have t1:decide (ND<NPL)=true:=decide_eq_true hc;clear hf hok h hW0 hz hy hb0 hyk hzk hyl hzl hEX hND hNPL hNOL hx hc;go_enter Tryz.func12,Tryz.ntmps12;go_wp2_with fail;rw[←HW0.out,←HZ.out.2,←HZ.out.1];refine HVA.out.mono ?_;rintro e w1 ⟨rfl,hb1⟩;have HB1:=zh hb1;clear c0 c1 c2 c3 c4 c5 c6 hb1;obtain⟨⟨c0,c1,c2,c3,c4,c5,c6⟩,y0,y1,y2,-⟩:=HC.out w1 HB1.out;go_wp2_with fail;go_ret;exact⟨rfl,HB0.out.trans (HB1.out.mono HB0.out.size)⟩
 ·have t1:decide (ND<NPL)=false:=decide_eq_false hc;have t2:decide (ND<NOL)=true:=decide_eq_true (hx.resolve_left hc);clear hf hok h hW0 hz hy hb0 hyk hzk hyl hzl hEX hND hNPL hNOL hx hc;go_enter Tryz.func12,Tryz.ntmps12;go_wp2_with fail;rw[←HW0.out,←HZ.out.2,←HZ.out.1];refine HVA.out.mono ?_;rintro e w1 ⟨rfl,hb1⟩;have HB1:=zh hb1;clear c0 c1 c2 c3 c4 c5 c6 hb1;obtain⟨⟨c0,c1,c2,c3,c4,c5,c6⟩,y0,y1,y2,-⟩:=HC.out w1 HB1.out;go_wp2_with fail;go_ret;exact⟨rfl,HB0.out.trans (HB1.out.mono HB0.out.size)⟩
theorem rexplain_in(N:Nat) (hN:N≤12) (vl vm vd vv vp vo vp0 vo0 va0:Value) (F:FltM) (r:Re) (EX:Nat) (w:World) (hf:FleetS w (Bl w.heap.size) vl vm vd vv vp vo F) (hok:FleetOk N F) (h:ReS w (Bl w.heap.size) vp0 vo0 va0 r) (hp:r.plat.length≤24) (hl:∀l∈r.plat,l.length≤1000) (hEX:F.ext=(EX:Int))
  (hx1:r.plat.length≤F.dves.length) (hx2:r.on.length≤F.dves.length) :
  Calls Tryz.prog 12 #[.agg #[.int .i64 F.ext,vl,vm,vd,vv,vp,vo],.agg #[vp0,vo0,va0]] w fun e w'=>∃u,e=.returned u∧SlS 5 IncK w' (Fr w.heap.size w'.heap.size) u (incL F r EX F.vols.length 0)∧Below w.heap.size w w':=by
 have HKM:=zh (fun(a:Nat) (ha:a<F.vols.length)=>kmq_ok hok ha);obtain⟨pb,pof,ob,oof,cp,co,rfl,rfl,hRp,hRo,hPA⟩:=polAt hf hok;obtain⟨Ad,cd,rfl,-,hmd⟩:=SlS.form hf.2.2.2.1;obtain⟨Ap,cpl,rfl,-,-⟩:=h.1.form;obtain⟨Ao,col,rfl,-,hmo⟩:=h.2.1.form;unfold maxLen at hmd hmo;have HLO0:=zh (fun(w':World) (hb:Below w.heap.size w w')=>rlost_any N hN vl vm vd _ _ _ _ _ va0 F r w' (hf.below hb) hok (h.below hb) (by omega) hl);have HUN0:=zh (fun(w':World) (hb:Below w.heap.size w w')=>runav_any N hN vl vm vd _ _ _ _ _ va0 F r w' (hf.below hb) hok (h.below hb) (by omega) hl);have HCA0:=zh (fun(a i b:Nat) (w':World) (hb:Below w.heap.size w w')=>refcause_any _ _ va0 r (a:Int) (i:Int) (b:Int) w' (h.below hb) (by omega) hl)
 have HPO0:=zh (fun(a:Nat) (ha:a<F.vols.length) (w':World) (hb:Below w.heap.size w w')=>(show ∃a0 a4 a5 a6 a7 a8 a9 a10 a11 a12 a13 a14 a15 a16,(#[a0,.int .i64 (kOf F a),.int .i64 (mOf F a),.int .i64 (qOf F a),a4,a5,a6,a7,a8,a9,a10,a11,a12,a13,a14,a15,a16]:Array Value).all (·.oneCell')=true∧Calls Tryz.prog 40 #[.agg #[.int .i64 F.ext,vl,vm,vd,.slice Ad F.dves.length cd,.slice (some ⟨pb,pof,none⟩) F.pols.length cp,.slice (some ⟨ob,oof,none⟩) F.vols.length co],.int .i64 (a:Int)] w' fun e w2=>e=.returned (.agg #[a0,.int .i64 (kOf F a),.int .i64 (mOf F a),.int .i64 (qOf F a),a4,a5,a6,a7,a8,a9,a10,a11,a12,a13,a14,a15,a16])∧Below w'.heap.size w' w2 from by
  obtain⟨hpl,nm,hvol,a0,a4,a5,a6,a7,a8,a9,a10,a11,a12,a13,a14,a15,a16,hpol,hone⟩:=hPA a ha
  exact⟨a0,a4,a5,a6,a7,a8,a9,a10,a11,a12,a13,a14,a15,a16,hone,rpolicy44_any F.ext (kOf F a) (mOf F a) (qOf F a) vl vm vd _ a0 a4 a5 a6 a7 a8 a9 a10 a11 a12 a13 a14 a15 a16 nm pb pof ob oof F.pols.length F.vols.length cp co a (volP F a) w' ha hpl (by have:=hok.volN;omega) (by have:=hok.polN;omega) (range_same hvol (hb.block ob hRo)) (range_same hpol (hb.block pb hRp)) hone⟩))
 have hex:EX≤2:=by have:=hok.ext;omega
 have hno:=hok.volN;obtain⟨KL1,hKL1⟩:=zx (keyL F r (condR true) F.ext.toNat F.vols.length 0);obtain⟨KL2,hKL2⟩:=zx (keyL F r (condR false) F.ext.toNat F.vols.length 0)
 have HK12:=zh (fun(a b:Nat) (ha:a<F.vols.length) (hb:b<EX)=>(show decide ((a,b)∈KL1)=lostP F r (a,b)∧decide ((a,b)∈KL2)=awayP F r (a,b) from by
  rw[hKL1,hKL2]
  exact⟨keyL_dec F r _ _ _ a b ha (by omega),keyL_dec F r _ _ _ a b ha (by omega)⟩))
 rw[←hKL1] at HLO0;rw[←hKL2] at HUN0;rw[hEX] at HLO0 HUN0 HPO0 ⊢;obtain⟨W0,hW0⟩:=zx ((w.alloc (.cells #[.int .i64 (EX:Int),vl,vm,vd,.slice Ad F.dves.length cd,.slice (some ⟨pb,pof,none⟩) F.pols.length cp,.slice (some ⟨ob,oof,none⟩) F.vols.length co] 35)).alloc (.cells #[.slice Ap r.plat.length cpl,.slice Ao r.on.length col,va0] 40));obtain⟨z,hz⟩:=zx w.heap.size;obtain⟨y,hy⟩:=zx (w.heap.size+1)
 have hb0:Below w.heap.size w W0:=by rw[hW0];exact((Below.refl _ _).alloc (Nat.le_refl _) _).alloc (by simp) _
 have HVA:=zh (show Calls Tryz.prog 36 #[.agg #[.int .i64 (EX:Int),vl,vm,vd,.slice Ad F.dves.length cd,.slice (some ⟨pb,pof,none⟩) F.pols.length cp,.slice (some ⟨ob,oof,none⟩) F.vols.length co]] W0 fun e w'=>e=.returned (.int .i64 0)∧Below W0.heap.size W0 w' from by rw[←hEX];exact rvalidate_any N hN vl vm vd _ _ _ F W0 (hf.below hb0) hok);obtain⟨ND,hND⟩:=zx F.dves.length;obtain⟨NO,hNO⟩:=zx F.vols.length;obtain⟨NP,hNP⟩:=zx F.pols.length;obtain⟨NPL,hNPL⟩:=zx r.plat.length;obtain⟨NOL,hNOL⟩:=zx r.on.length;rw[←hND] at HLO0 HUN0 HPO0 HVA hW0 hx1 hx2 hmd;rw[←hNO] at HLO0 HUN0 HPO0 HVA hW0 HKM HK12 hno ⊢;rw[←hNP] at HLO0 HUN0 HPO0 HVA hW0 ⊢;rw[←hNPL] at HLO0 HUN0 HCA0 hW0 hx1 hp ⊢;rw[←hNOL] at HLO0 HUN0 HCA0 hW0 hx2 hmo ⊢;rw[←hND]
 have hyk:W0.heap[y]?=some (.cells #[.slice Ap NPL cpl,.slice Ao NOL col,va0] 40 (0,0)):=by
  rw[hW0];exact heap_alloc_at _ _ _ (by rw[hy];simp)
 have hzk:W0.heap[z]?=some (.cells #[.int .i64 (EX:Int),vl,vm,vd,.slice Ad ND cd,.slice (some ⟨pb,pof,none⟩) NP cp,.slice (some ⟨ob,oof,none⟩) NO co] 35 (0,0)):=by
  rw[hW0,hz];exact(Below.heap_alloc _ _ _ (by simp)).trans (heap_alloc_new w _)
 have hyl:y<W0.heap.size:=(Array.getElem?_eq_some_iff.1 hyk).1;have hzl:z<W0.heap.size:=(Array.getElem?_eq_some_iff.1 hzk).1
 have HS3:=zh (fun(w':World) (hb:Below W0.heap.size W0 w')=>(show w'.cell? ⟨z,0,none⟩=some (.int .i64 (EX:Int))∧w'.cell? ⟨z,1,none⟩=some vl∧w'.cell? ⟨z,2,none⟩=some vm∧w'.cell? ⟨z,3,none⟩=some vd∧w'.cell? ⟨z,4,none⟩=some (.slice Ad ND cd)∧w'.cell? ⟨z,5,none⟩=some (.slice (some ⟨pb,pof,none⟩) NP cp)∧w'.cell? ⟨z,6,none⟩=some (.slice (some ⟨ob,oof,none⟩) NO co)∧w'.cell? ⟨y,0,none⟩=some (.slice Ap NPL cpl)∧w'.cell? ⟨y,1,none⟩=some (.slice Ao NOL col)∧w'.cell? ⟨y,2,none⟩=some va0∧Below W0.heap.size W0 w' from by
  obtain⟨c0,c1,c2,c3,c4,c5,c6⟩:=cells7 ((hb.block z hzl).trans hzk);obtain⟨y0,y1,y2,-⟩:=cells3 ((hb.block y hyl).trans hyk)
  exact⟨c0,c1,c2,c3,c4,c5,c6,y0,y1,y2,hb⟩))
 have HRE:=zh (fun(w':World) (hb:Below W0.heap.size W0 w')=>hb0.trans (hb.mono hb0.size));have HLO:=zh (fun(w':World) (hb:Below W0.heap.size W0 w')=>HLO0.out w' (HRE.out w' hb));have HUN:=zh (fun(w':World) (hb:Below W0.heap.size W0 w')=>HUN0.out w' (HRE.out w' hb));have HW0:=zh hW0;have HZ:=zh (And.intro hz hy);have HB0:=zh hb0;have HSM:=zh (show EX≤2∧NO≤1000 from⟨hex,by omega⟩);have HEXI:=zh hEX;have t1:decide (ND<NPL)=false:=decide_eq_false (by omega);have t2:decide (ND<NOL)=false:=decide_eq_false (by omega);obtain⟨m0,hm0,ht0,ht1,ht2⟩:=info_parts info_cau;obtain⟨c0,c1,c2,c3,c4,c5,c6,-⟩:=HS3.out W0 (Below.refl _ _);clear hf hok h hPA hRp hRo hW0 hz hy hb0 hyk hzk hyl hzl hND hNO hNP hNPL hNOL hEX hKL1 hKL2 hl hN hx1 hx2 HLO0 HUN0 hp;go_enter Tryz.func12,Tryz.ntmps12;go_wp2_with fail;rw[←HW0.out,←HZ.out.2,←HZ.out.1];refine HVA.out.mono ?_;rintro e w2 ⟨rfl,hb2⟩;have HB2:=zh hb2;clear c0 c1 c2 c3 c4 c5 c6 hb2;obtain⟨c0,c1,c2,c3,c4,c5,c6,y0,y1,y2,-⟩:=HS3.out w2 HB2.out;go_upto_region 3 with fail;clear c0 c1 c2 c3 c4 c5 c6 y0 y1 y2 t1 t2;refine region_tail (S:=(fun w'=>w'.cell? ⟨z,0,none⟩=some (.int .i64 (EX:Int))∧w'.cell? ⟨z,1,none⟩=some vl∧w'.cell? ⟨z,2,none⟩=some vm∧w'.cell? ⟨z,3,none⟩=some vd∧w'.cell? ⟨z,4,none⟩=some (.slice Ad ND cd)∧w'.cell? ⟨z,5,none⟩=some (.slice (some ⟨pb,pof,none⟩) NP cp)∧w'.cell? ⟨z,6,none⟩=some (.slice (some ⟨ob,oof,none⟩) NO co)∧w'.cell? ⟨y,0,none⟩=some (.slice Ap NPL cpl)∧w'.cell? ⟨y,1,none⟩=some (.slice Ao NOL col)∧w'.cell? ⟨y,2,none⟩=some va0∧Below W0.heap.size W0 w')) [] (by kernel_rfl) (HS3.out _ HB2.out.drew) (fun hHeld=>?_);refine tk 0 35 ?_;refine tk 1 36 ?_;refine tk 3 38 ?_;refine tk 4 39 ?_;refine readyT (rs:=[2]) (by kernel_rfl) (by simp) ?_;refine AllReadyT.cons rfl (fun K hK=>?_) ?_
 ·go_simp;refine(HLO.out _ HB2.out.drew).mono ?_;rintro e wc ⟨u1,rfl,ho1,hb4⟩;have hb5:=(HB2.out.drew).trans (hb4.mono (HB2.out.drew).size);have hS5:=HS3.out _ hb5;refine hK.out _ _ ?_ (fun hHeld=>?_)
  ·(first|exact hS7|exact hS5)
  clear hK K;(try simp only[Act.put,z1,z2,z3]);refine readyT (rs:=[5]) (by kernel_rfl) (by simp) ?_;refine AllReadyT.cons rfl (fun K hK=>?_) ?_
  ·go_simp;refine(HUN.out _ hb5).mono ?_;rintro e wd ⟨u2,rfl,ho2,hb6⟩;have hb7:=hb5.trans (hb6.mono hb5.size);have hS7:=HS3.out _ hb7;refine hK.out _ _ ?_ (fun hHeld=>?_)
   ·(first|exact hS7|exact hS5)
   clear hK K;(try simp only[Act.put,z1,z2,z3]);refine tk 6 5 ?_;refine tk 7 6 ?_;refine doneT (by kernel_rfl) ?_ _;clear hHeld hS5 hS7;obtain⟨w3,hw3⟩:=zx wd;rw[←hw3] at hb7 hb6 ho2 ⊢;have HB3:=zh hb7;have HI1:=zh (fun(w':World) (hb:Below w3.heap.size w3 w') (a b:Nat)=>in_any u1 KL1 a b _ w' ((ho1.below (hb6.trans (hb.mono hb6.size))).slS) (fun _ h=>h.2));have HI2:=zh (fun(w':World) (hb:Below w3.heap.size w3 w') (a b:Nat)=>in_any u2 KL2 a b _ w' ((ho2.below hb).slS) (fun _ h=>h.2));subst hw3;have HCA:=zh (fun(a i b:Nat) (w':World) (hb:Below W0.heap.size W0 w')=>HCA0.out a i b w' (HRE.out w' hb));have HPO:=zh (fun(a:Nat) (ha:a<NO) (w':World) (hb:Below W0.heap.size W0 w')=>HPO0.out a ha w' (HRE.out w' hb));clear hb7 hb4 hb5 hb6 ho1 ho2 HLO HUN HCA0 HPO0;go_wp2_with fail;go_loopg [7,8] NO (fun z7 v7 v8 wr=>∃(a:Nat) (L:List IncW) (vL:Value),vL=v7∧v8=.int .i64 (a:Int)∧a≤NO∧z7=NO - a∧Hid (IncsS wr w3.heap.size v7 L)∧Hid (L.map (·.x)=incL F r EX a 0)∧Hid (Below w3.heap.size w3 wr))
   case atStart=>exact⟨0,[],_,rfl,rfl,Nat.zero_le _,rfl,zh (IncsS.nil _ _),zh (incL_zero F r EX).symm,zh (Below.refl _ _)⟩
   case round =>
    obtain⟨a,L,vL,rfl,rfl,ha,rfl,HIN,HLL,HBR⟩:=hrel;obtain⟨c0,c1,c2,c3,c4,c5,c6,y0,y1,y2,-⟩:=HS3.out wr (HB3.out.trans (HBR.out.mono HB3.out.size));by_cases hlt:a<NO
    ·have HLT:=zh hlt;obtain⟨hk12,hm0',hm2',-,-⟩:=HKM.out a hlt;obtain⟨KN,hKN⟩:∃k:Nat,kOf F a=(k:Int):=⟨(kOf F a).toNat,by omega⟩;obtain⟨KM,hKM⟩:∃k:Nat,kOf F a+mOf F a=(k:Int):=⟨(kOf F a+mOf F a).toNat,by omega⟩;have hkm:=hKM;obtain⟨MM,hMM⟩:=zx (mOf F a);obtain⟨QQ,hQQ⟩:=zx (qOf F a);have HIO:=zh (fun(lb:Bool) (b:Nat)=>incOf_eq F r lb a b KN KM hKN hKM);have hpo:=HPO.out a hlt;rw[hKN,←hMM,←hQQ] at hpo;have HPA:=zh hpo;rw[hKN,←hMM] at hkm;rw[hKN] at hk12
     have hkw:IntKind.i64.wrap ((KN:Int)+MM)=(KM:Int):=by rw[hkm];exact IntWalk.i64_in _ (by omega)
     have HKM4:=zh (show KM≤4 from by omega)
     have hK12:(KN:Int)≤2:=by omega
     have hkm4:(KM:Int)≤4:=by omega
     clear hk12 hm0' hm2' hKN hKM hMM hQQ hpo;go_wp2_with fail;clear c0 c1 c2 c3 c4 c5 c6 y0 y1 y2;go_loopg [7,9] EX (fun z7 v7 v9 wr2=>∃(b:Nat) (L:List IncW) (vL:Value),vL=v7∧v9=.int .i64 (b:Int)∧b≤EX∧z7=EX - b∧Hid (IncsS wr2 w3.heap.size v7 L)∧Hid (L.map (·.x)=incL F r EX a b)∧Hid (Below w3.heap.size w3 wr2))
     case atStart=>exact⟨0,L,_,rfl,rfl,Nat.zero_le _,rfl,HIN,HLL,HBR⟩
     case round =>
      clear HIN HLL HBR;obtain⟨b,L,vL,rfl,rfl,hb,rfl,HIN,HLL,HBR⟩:=hrel;obtain⟨c0,c1,c2,c3,c4,c5,c6,y0,y1,y2,-⟩:=HS3.out wr (HB3.out.trans (HBR.out.mono HB3.out.size));by_cases hlb:b<EX
      ·have HLB:=zh hlb;obtain⟨W11,hW11⟩:=zx (wr.alloc (.cells #[.int .i64 (a:Int),.int .i64 (b:Int)] 67));obtain⟨gq,hgq⟩:=zx wr.heap.size
       have hb11:Below wr.heap.size wr W11:=by rw[hW11];exact(Below.refl _ _).alloc (Nat.le_refl _) _
       have hqk:W11.heap[gq]?=some (.cells #[.int .i64 (a:Int),.int .i64 (b:Int)] 67 (0,0)):=by rw[hW11,hgq];exact heap_alloc_new wr _
       have hql:gq<W11.heap.size:=(Array.getElem?_eq_some_iff.1 hqk).1
       have HQC:=zh (fun(w':World) (hb:Below W11.heap.size W11 w')=>(show w'.cell? ⟨gq,0,none⟩=some (.int .i64 (a:Int))∧w'.cell? ⟨gq,1,none⟩=some (.int .i64 (b:Int)) from by
        have h1:=(hb.block gq hql).trans hqk
        exact⟨by rw[cell_of_row _ _ _ _ _ _ h1];rfl,by rw[cell_of_row _ _ _ _ _ _ h1];rfl⟩))
       have HB11:=zh (HBR.out.trans (hb11.mono HBR.out.size));have HIN11:=zh (HIN.out.below hb11)
       have hii1:=fun w' hb=>HI1.out w' hb a b
       have hii2:=fun w' hb=>HI2.out w' hb a b
       rw[(HK12.out a b HLT.out hlb).1] at hii1;rw[(HK12.out a b HLT.out hlb).2] at hii2;obtain⟨LB,hLB⟩:=zx (lostP F r (a,b));obtain⟨AB,hAB⟩:=zx (awayP F r (a,b));rw[←hLB] at hii1;rw[←hAB] at hii2;have HI1':=zh hii1;have HI2':=zh hii2;have HNO:=zh (show(!LB&&!AB)=true→incL F r EX a (b+1)=incL F r EX a b from fun e=>incL_no (by rw[←hLB,←hAB];exact e));have HYES:=zh (show(!LB&&!AB)=false→incL F r EX a (b+1)=incL F r EX a b++[incOf F r LB (a,b)] from fun e=>incL_yes hLB (by rw[←hLB,←hAB];exact e));have HW11:=zh hW11;have HGQ:=zh hgq;obtain⟨q0,q1⟩:=HQC.out W11 (Below.refl _ _);obtain⟨nb,hnb⟩:=zx ((!LB&&!AB));rw[←hnb] at HNO HYES;have HNB:=zh hnb;clear hW11 hgq hb11 hqk hql hii1 hii2 hLB hAB hnb;go_upto_region 12 with fail;clear hlb;rw[←HW11.out,←HGQ.out];clear c1 c2 c3 c4 c5 c6 y0 y1 y2;go_cut [66] from 57 to 66 (fun v66 wc=>v66=.bool nb∧Hid (Below W11.heap.size W11 wc))
       case first =>
        cases LB with
        | true =>
         have HE:=zh (show nb=false by rw[HNB.out];rfl);go_wp2_with (go_at_call 39;refine(HI1'.out _ HB11.out).mono ?_;rintro e w5 ⟨rfl,hb5⟩;have HB5:=zh hb5;clear hb5);go_meet;exact⟨by rw[HE.out],HB5⟩
        | false =>
         go_wp2_with fail;refine(HI1'.out _ HB11.out).mono ?_;rintro e w5 ⟨rfl,hb5⟩;have HB5:=zh hb5;clear hb5 q0 q1;obtain⟨q0,q1⟩:=HQC.out w5 HB5.out
         cases AB with
         | true =>
          have HE:=zh (show nb=false by rw[HNB.out];rfl);go_wp2_with fail;refine(HI2'.out _ (HB11.out.trans (HB5.out.mono HB11.out.size))).mono ?_;rintro e w6 ⟨rfl,hb6⟩;have HB6:=zh hb6;clear hb6;go_wp2_with fail;go_meet;exact⟨by rw[HE.out],zh (HB5.out.trans (HB6.out.mono HB5.out.size))⟩
         | false =>
          have HE:=zh (show nb=true by rw[HNB.out];rfl);go_wp2_with fail;refine(HI2'.out _ (HB11.out.trans (HB5.out.mono HB11.out.size))).mono ?_;rintro e w6 ⟨rfl,hb6⟩;have HB6:=zh hb6;clear hb6;go_wp2_with fail;go_meet;exact⟨by rw[HE.out],zh (HB5.out.trans (HB6.out.mono HB5.out.size))⟩
       case rest =>
        obtain⟨rfl,HBC⟩:=hcut;clear q0 q1 c0;have HBC3:=zh (HB11.out.trans (HBC.out.mono HB11.out.size));have HINC:=zh (HIN11.out.below HBC.out)
        cases nb with
        | true =>
         have HJ:=zh (HNO.out rfl);go_wp2_with fail;go_roundg (EX - (b+1))
         case measure=>have:=HLB.out;omega
         case rel=>exact⟨b+1,L,_,rfl,by go_num,by have:=HLB.out;omega,rfl,HINC,zh (by rw[HJ.out];exact HLL.out),HBC3⟩
        | false =>
         have HJ:=zh (HYES.out rfl);clear HNO HYES;obtain⟨c0,c1,c2,c3,c4,c5,c6,y0,y1,y2,-⟩:=HS3.out wc (HB3.out.trans (HBC3.out.mono HB3.out.size));obtain⟨a0,a4,a5,a6,a7,a8,a9,a10,a11,a12,a13,a14,a15,a16,hone,hpol⟩:=HPA.out wc (HB3.out.trans (HBC3.out.mono HB3.out.size));have HON:=zh hone;have HPP:=zh hpol;clear hone hpol;go_wp2_with fail;refine HPP.out.mono ?_;rintro e w5 ⟨rfl,hb5⟩;have HB5:=zh hb5;have HTH:=zh (show(w5.alloc (.cells #[.string ⟨#[]⟩,.int .i64 0,.int .i64 0,.int .i64 0,.int .i64 0,.int .i64 0,.int .i64 0,.int .i64 0,.int .i64 0,.slice none 0 0,.slice none 0 0,.bool false,.slice none 0 0,.slice none 0 0,.bool false,.slice none 0 0,.slice none 0 0] 85)).there w5.heap.size 0 17 from there_of_block (w:=w5.alloc (.cells #[.string ⟨#[]⟩,.int .i64 0,.int .i64 0,.int .i64 0,.int .i64 0,.int .i64 0,.int .i64 0,.int .i64 0,.int .i64 0,.slice none 0 0,.slice none 0 0,.bool false,.slice none 0 0,.slice none 0 0,.bool false,.slice none 0 0,.slice none 0 0] 85)) (cs:=#[.string ⟨#[]⟩,.int .i64 0,.int .i64 0,.int .i64 0,.int .i64 0,.int .i64 0,.int .i64 0,.int .i64 0,.int .i64 0,.slice none 0 0,.slice none 0 0,.bool false,.slice none 0 0,.slice none 0 0,.bool false,.slice none 0 0,.slice none 0 0]) (heap_alloc_new w5 _) (Nat.le_refl 17));clear hb5 c0 c1 c2 c3 c4 c5 c6 y0 y1 y2;go_upto_region 14 with (refine wpList_store_mid rfl 85 (.tmp 11) (.tmp 69) rfl w5.heap.size 0 #[a0,.int .i64 (KN:Int),.int .i64 MM,.int .i64 QQ,a4,a5,a6,a7,a8,a9,a10,a11,a12,a13,a14,a15,a16] (by rfl) (by rfl) HTH.out size_pol HON.out ?_);obtain⟨W14,hW14⟩:=zx (World.setCells (w5.alloc (.cells #[.string ⟨#[]⟩,.int .i64 0,.int .i64 0,.int .i64 0,.int .i64 0,.int .i64 0,.int .i64 0,.int .i64 0,.int .i64 0,.slice none 0 0,.slice none 0 0,.bool false,.slice none 0 0,.slice none 0 0,.bool false,.slice none 0 0,.slice none 0 0] 85)) w5.heap.size 0 [a0,.int .i64 (KN:Int),.int .i64 MM,.int .i64 QQ,a4,a5,a6,a7,a8,a9,a10,a11,a12,a13,a14,a15,a16]);obtain⟨gp,hgp⟩:=zx w5.heap.size
         have hb14:Below w5.heap.size w5 W14:=by rw[hW14];exact below_setCellsV (Nat.le_refl _) _ _ _ ((Below.refl _ _).alloc (Nat.le_refl _) _)
         have hgr:W14.rangeAt gp 0 [a0,.int .i64 (KN:Int),.int .i64 MM,.int .i64 QQ,a4,a5,a6,a7,a8,a9,a10,a11,a12,a13,a14,a15,a16]:=by rw[hW14,hgp];exact World.rangeAt_setCells_same _ _ _ _ HTH.out
         have HGP:=zh (fun(w':World) (hb:Below W14.heap.size W14 w')=>(show w'.cell? ⟨gp,1,none⟩=some (.int .i64 (KN:Int))∧w'.cell? ⟨gp,2,none⟩=some (.int .i64 MM) from
          have hl:=World.block_lt_of_cell? W14 _ (hgr 0 _ rfl)
          ⟨range_same hgr (hb.block gp hl) 1 _ rfl,range_same hgr (hb.block gp hl) 2 _ rfl⟩))
         have hbc14:Below wc.heap.size wc W14:=HB5.out.trans (hb14.mono HB5.out.size);have HB14:=zh (HBC3.out.trans (hbc14.mono HBC3.out.size));have HIN14:=zh (HINC.out.below hbc14)
         have HS14:=zh (fun(w':World) (hb:Below W14.heap.size W14 w')=>(show w'.cell? ⟨gq,0,none⟩=some (.int .i64 (a:Int))∧w'.cell? ⟨gq,1,none⟩=some (.int .i64 (b:Int))∧w'.cell? ⟨gp,1,none⟩=some (.int .i64 (KN:Int))∧Below W14.heap.size W14 w' from by
          obtain⟨q0,q1⟩:=HQC.out w' (HBC.out.trans ((hbc14.trans (hb.mono hbc14.size)).mono HBC.out.size))
          exact⟨q0,q1,(HGP.out w' hb).1,hb⟩))
         have HW14:=zh hW14;have HGG:=zh hgp
         have HYC:=zh (fun(w':World) (hb:Below W14.heap.size W14 w')=>(show w'.cell? ⟨y,0,none⟩=some (.slice Ap NPL cpl)∧w'.cell? ⟨y,1,none⟩=some (.slice Ao NOL col)∧w'.cell? ⟨y,2,none⟩=some va0 from by
          obtain⟨-,-,-,-,-,-,-,y0,y1,y2,-⟩:=HS3.out w' (HB3.out.trans ((HB14.out.trans (hb.mono HB14.out.size)).mono HB3.out.size))
          exact⟨y0,y1,y2⟩))
         have HI1:=zh (fun(w':World) (hb:Below w3.heap.size w3 w')=>HI1'.out w' hb);clear hW14 hgp hb14 hgr hbc14 HTH HINC HIN11;rw[←HW14.out,←HGG.out];(try simp only[Act.put,z1,z2,z3]);go_cut [12] from 70 to 77 (fun v12 wd=>∃gX,v12=.pointer (some ⟨gX,0,none⟩)∧Hid (IncT W14 gX (.int .i64 (a:Int)) (.int .i64 (b:Int)) (.bool LB) (.int .i64 (KN:Int)) wd (.slice none 0 0) []))
         case first =>
          refine region_tail (S:=(fun w'=>w'.cell? ⟨gq,0,none⟩=some (.int .i64 (a:Int))∧w'.cell? ⟨gq,1,none⟩=some (.int .i64 (b:Int))∧w'.cell? ⟨gp,1,none⟩=some (.int .i64 (KN:Int))∧Below W14.heap.size W14 w')) [9] (by kernel_rfl) (HS14.out _ (Below.refl _ _).drew) (fun hHeld=>?_);refine tk 0 70 ?_;refine tk 1 71 ?_;refine tk 2 72 ?_;refine tk 3 73 ?_;refine tk 5 75 ?_;refine tk 6 76 ?_;refine readyT (rs:=[4,8]) (by kernel_rfl) (by simp) ?_;refine AllReadyT.cons rfl (fun K hK=>?_) ?_
          ·go_simp;refine(HI1.out _ (HB14.out.trans (hHeld.2.2.2.mono HB14.out.size))).mono ?_;rintro e wc ⟨rfl,hb4⟩;have hb5:=hHeld.2.2.2.trans (hb4.mono hHeld.2.2.2.size);refine hK.out _ _ ?_ (fun hHeld=>?_)
           ·(first|exact HS14.out _ hb6|exact HS14.out _ hb5|exact HS14.out _ hb3)
           clear hK K;(try simp only[Act.put,z1,z2,z3]);refine tk 7 77 ?_;refine readyT (rs:=[8]) (by kernel_rfl) (by simp) ?_;refine AllReadyT.cons rfl (fun K hK=>?_) ?_
           ·go_simp;have hX:=heap_alloc_new wc (.cells #[.int .i64 0,.int .i64 0,.bool false,.int .i64 0,.slice none 0 0] 27);have hX2:=hX;have hb6:=hb5.alloc hb5.size (.cells #[.int .i64 0,.int .i64 0,.bool false,.int .i64 0,.slice none 0 0] 27);have hg6:W14.heap.size≤wc.heap.size:=hb5.size;refine hK.out _ _ ?_ (fun hHeld=>?_)
            ·(first|exact HS14.out _ hb6|exact HS14.out _ hb5|exact HS14.out _ hb3)
            clear hK K;(try simp only[Act.put,z1,z2,z3]);refine readyT (rs:=[9]) (by kernel_rfl) (by simp) ?_;refine AllReadyT.consT rfl rfl (fun K hK=>?_) ?_
            ·rw[if_pos (by rfl)];refine wp_store_mid 27 (.tmp 12) (.tmp 77) rfl wc.heap.size 0 #[.int .i64 (a:Int),.int .i64 (b:Int),.bool LB,.int .i64 (KN:Int),.slice none 0 0] (by rfl) (by rfl) (there_of_block (cs:=#[.int .i64 0,.int .i64 0,.bool false,.int .i64 0,.slice none 0 0]) hX2 (Nat.le_refl 5)) size_inc (by simp[Value.oneCell']) ?_;refine hK.out _ _ ?_;clear hK K;(try simp only[Act.put,z1,z2,z3]);refine doneT (by kernel_rfl) ?_ _;have hIT:=IncT.made (c0:=.int .i64 (a:Int)) (c1:=.int .i64 (b:Int)) (c2:=.bool LB) (c3:=.int .i64 (KN:Int)) hb6 hX2 hg6;go_wp2_with fail;go_meet;exact⟨_,rfl,zh hIT⟩
            exact AllReadyT.nil
           exact AllReadyT.nil
          refine AllReadyT.cons rfl (fun K hK=>?_) ?_
          ·go_simp;have hX:=heap_alloc_new W14.drew (.cells #[.int .i64 0,.int .i64 0,.bool false,.int .i64 0,.slice none 0 0] 27);have hb3:=(Below.refl W14.heap.size W14).drew.alloc (Nat.le_refl _) (.cells #[.int .i64 0,.int .i64 0,.bool false,.int .i64 0,.slice none 0 0] 27);refine hK.out _ _ ?_ (fun hHeld=>?_)
           ·(first|exact HS14.out _ hb6|exact HS14.out _ hb5|exact HS14.out _ hb3)
           clear hK K;(try simp only[Act.put,z1,z2,z3]);refine readyT (rs:=[4]) (by kernel_rfl) (by simp) ?_;refine AllReadyT.cons rfl (fun K hK=>?_) ?_
           ·go_simp;refine(HI1.out _ (HB14.out.trans (hHeld.2.2.2.mono HB14.out.size))).mono ?_;rintro e wc ⟨rfl,hb4⟩;have hb5:=hHeld.2.2.2.trans (hb4.mono hHeld.2.2.2.size);refine hK.out _ _ ?_ (fun hHeld=>?_)
            ·(first|exact HS14.out _ hb6|exact HS14.out _ hb5|exact HS14.out _ hb3)
            clear hK K;(try simp only[Act.put,z1,z2,z3]);refine tk 7 77 ?_;refine readyT (rs:=[9]) (by kernel_rfl) (by simp) ?_;refine AllReadyT.consT rfl rfl (fun K hK=>?_) ?_
            ·have hX2:=(hb4.block W14.heap.size (Array.getElem?_eq_some_iff.1 hX).1).trans hX;have hb6:=hb5;have hg6:W14.heap.size≤W14.heap.size:=Nat.le_refl _;rw[if_pos (by rfl)];refine wp_store_mid 27 (.tmp 12) (.tmp 77) rfl W14.heap.size 0 #[.int .i64 (a:Int),.int .i64 (b:Int),.bool LB,.int .i64 (KN:Int),.slice none 0 0] (by rfl) (by rfl) (there_of_block (cs:=#[.int .i64 0,.int .i64 0,.bool false,.int .i64 0,.slice none 0 0]) hX2 (Nat.le_refl 5)) size_inc (by simp[Value.oneCell']) ?_;refine hK.out _ _ ?_;clear hK K;(try simp only[Act.put,z1,z2,z3]);refine doneT (by kernel_rfl) ?_ _;have hIT:=IncT.made (c0:=.int .i64 (a:Int)) (c1:=.int .i64 (b:Int)) (c2:=.bool LB) (c3:=.int .i64 (KN:Int)) hb6 hX2 hg6;go_wp2_with fail;go_meet;exact⟨_,rfl,zh hIT⟩
            exact AllReadyT.nil
           exact AllReadyT.nil
          exact AllReadyT.nil
         case rest =>
          obtain⟨gX,rfl,HT0⟩:=hcut;go_wp2_with fail;go_loopg [13] KM (fun z7 v13 wi=>∃(i:Nat) (cv:Value),v13=.int .i64 (i:Int)∧i≤KM∧z7=KM - i∧Hid (IncT W14 gX (.int .i64 (a:Int)) (.int .i64 (b:Int)) (.bool LB) (.int .i64 (KN:Int)) wi cv (causL r (a:Int) (b:Int) i)))
          case atStart=>exact⟨0,_,rfl,Nat.zero_le _,rfl,HT0⟩
          case round =>
           clear HT0;obtain⟨i,cv,rfl,hi,rfl,HT⟩:=hrel;obtain⟨p1,p2⟩:=HGP.out wr HT.out.hot;by_cases hlk:i<KM
           ·have HLK:=zh hlk;obtain⟨Av,cvv,hvf⟩:=HT.out.own.form;rw[causL_len] at hvf;subst hvf;obtain⟨wi,rfl⟩:=zx (wr:World);have HS18:=zh (fun(w':World) (ht:IncT W14 gX (.int .i64 (a:Int)) (.int .i64 (b:Int)) (.bool LB) (.int .i64 (KN:Int)) w' (.slice Av i cvv) (causL r (a:Int) (b:Int) i))=>(show w'.cell? ⟨gX,4,none⟩=some (.slice Av i cvv)∧w'.frozen? ⟨gX,4,none⟩=false∧w'.cell? ⟨y,0,none⟩=some (.slice Ap NPL cpl)∧w'.cell? ⟨y,1,none⟩=some (.slice Ao NOL col)∧w'.cell? ⟨y,2,none⟩=some va0 from⟨ht.cells.1,ht.cells.2.1,HYC.out w' ht.hot⟩));obtain⟨CX,hCX⟩:=zx (causeOf r (a:Int) (i:Int) (b:Int));have hcc:=HCA.out a i b;rw[←hCX] at hcc;have HCC:=zh hcc;have HCX:=zh hCX;have HB18:=zh (HB3.out.trans ((HB14.out.trans (HT.out.hot.mono HB14.out.size)).mono HB3.out.size));clear hCX hcc;go_upto_region 18 with fail;clear hlk;clear p1 p2;refine region_tail (S:=(fun w'=>w'.cell? ⟨gX,4,none⟩=some (.slice Av i cvv)∧w'.frozen? ⟨gX,4,none⟩=false∧w'.cell? ⟨y,0,none⟩=some (.slice Ap NPL cpl)∧w'.cell? ⟨y,1,none⟩=some (.slice Ao NOL col)∧w'.cell? ⟨y,2,none⟩=some va0)) [10] (by kernel_rfl) (HS18.out _ (HT.out.below (Below.refl _ _).drew)) (fun hHeld=>?_);refine tk 0 87 ?_;refine tk 1 88 ?_;refine tk 2 89 ?_;refine tk 3 90 ?_;refine tk 4 91 ?_;refine tk 5 92 ?_;refine readyT (rs:=[6]) (by kernel_rfl) (by simp) ?_;refine AllReadyT.cons rfl (fun K hK=>?_) ?_
            ·go_simp;refine(HCC.out _ (HB18.out.drew)).mono ?_;rintro e w5 ⟨rfl,hb5⟩;have hw5:Below wi.heap.size wi w5:=(Below.refl wi.heap.size wi).drew.trans hb5;have hT5:=HT.out.below hw5;have hS5:=HS18.out w5 hT5;refine hK.out _ _ ?_ (fun hHeld=>?_)
             ·(first|exact hS9|exact hS8|exact hS5)
             clear hK K;(try simp only[Act.put,z1,z2,z3]);refine readyT (rs:=[7]) (by kernel_rfl) (by simp) ?_;refine AllReadyT.cons rfl (fun K hK=>?_) ?_
             ·(try simp only[cauV])
              skip
              go_simp;have hT8:=hT5.below ((Below.refl _ _).alloc (Nat.le_refl _) (.cells #[.int .i64 CX.state,.int .i64 CX.drive] 102));have hS8:=HS18.out _ hT8;refine hK.out _ _ ?_ (fun hHeld=>?_)
              ·(first|exact hS9|exact hS8|exact hS5)
              clear hK K;(try simp only[Act.put,z1,z2,z3]);refine readyT (rs:=[8]) (by kernel_rfl) (by simp) ?_;refine AllReadyT.cons rfl (fun K hK=>?_) ?_
              ·refine step_append_lies _ (by rfl) _ _ _ (by rfl) W14.heap.size 102 m0 _ 2 16 Tryz.underlying25 hm0 ht0 ht1 ht2 rfl (by decide) (.slice Av i cvv) i ((causL r (a:Int) (b:Int) i).flatMap cauC) (by rfl) (by have:=hT8.own;unfold OwnCau at this;rw[causL_len] at this;exact this) ⟨w5.heap.size,0,none⟩ 1 1 [.int .i64 CX.state,.int .i64 CX.drive] (by rfl) (by rfl) (World.news_of_block (cs:=#[.int .i64 CX.state,.int .i64 CX.drive]) (t:=102) (fr:=(0,0)) (heap_alloc_new w5 _)) (by simp[Value.oneCell']) (by omega) (by have:=HLK.out;have:=HKM4.out;unfold maxLen;omega) (by have:=HLK.out;have:=HKM4.out;omega) hT8.hot.size (w5.heap.size+1) (by simp) ?_;intro gg cap6 w6 ho6 hg6 hat6 hlt6;obtain⟨hB6,hX6⟩:=hT8.grown hg6
               have hown6:OwnCau w6 W14.heap.size (.slice (some ⟨gg,0,none⟩) (i+1) cap6) (causL r (a:Int) (b:Int) i++[CX]):=by unfold OwnCau;rw[List.length_append,causL_len,List.flatMap_append];exact ho6
               have hS9:w6.cell? ⟨gX,4,none⟩=some (.slice Av i cvv)∧w6.frozen? ⟨gX,4,none⟩=false∧w6.cell? ⟨y,0,none⟩=some (.slice Ap NPL cpl)∧w6.cell? ⟨y,1,none⟩=some (.slice Ao NOL col)∧w6.cell? ⟨y,2,none⟩=some va0:=⟨by rw[cell_of_row _ _ _ _ _ _ hX6];rfl,frozen_of_row _ _ _ _ _ hX6,HYC.out w6 hB6⟩;refine hK.out _ _ ?_ (fun hHeld=>?_)
               ·(first|exact hS9|exact hS8|exact hS5)
               clear hK K;(try simp only[Act.put,z1,z2,z3]);refine tk 9 96 ?_;refine readyT (rs:=[10]) (by kernel_rfl) (by simp) ?_;refine AllReadyT.consT rfl rfl (fun K hK=>?_) ?_
               ·go_simp;refine hK.out _ _ ?_;clear hK K;(try simp only[Act.put,z1,z2,z3]);refine doneT (by kernel_rfl) ?_ _;have HPU:=zh (hT8.push hg6 hown6);clear hS5 hS8 hS9 hHeld hB6 hX6 hown6 hg6 hat6 hlt6 ho6 hT5 hT8 hw5 hb5;go_wp2_with fail;go_roundg (KM - (i+1))
                case measure=>have:=HLK.out;omega
                case rel=>exact⟨i+1,_,by go_num,by have:=HLK.out;omega,rfl,zh (by rw[causL_succ,←HCX.out];exact HPU.out)⟩
               exact AllReadyT.nil
              exact AllReadyT.nil
             exact AllReadyT.nil
            exact AllReadyT.nil
           ·obtain rfl:KM=i:=by omega
            have hbw:=HB14.out.trans (HT.out.hot.mono HB14.out.size);have HINW:=zh (HIN14.out.below HT.out.hot);have HNEW:=zh (show SlS 2 CauK wr (IncR wr w3.heap.size vL) cv (causL r (a:Int) (b:Int) KM) from SlS.mono cauK HT.out.own.slS (fun x hx=>⟨Nat.le_trans HB14.out.size hx.1,hx.2,fun e=>by have h1:=(HIN14.out.row.lt x e).2;have:=hx.1;omega⟩));have HRG:=zh HT.out.all;have HBW:=zh hbw
            have HLEN:=zh (show L.length+1≤16777216 by
             have h1:=congrArg List.length HLL.out;rw[List.length_map] at h1;have h2:=incL_len F r EX a b;have h3:=HSM.out;have h4:=HLT.out;have h5:a * EX≤1000 * 2:=Nat.mul_le_mul (by omega) h3.1
             omega)
            clear hbw;go_wp2_with (first | (refine wpList_load_mid rfl 27 (.tmp 12) rfl gX 0 (by rfl) [.int .i64 (a:Int),.int .i64 (b:Int),.bool LB,.int .i64 (KN:Int),cv] _ HRG.out Tryz.underlying27 rfl size_inc ?_) | (at_builtin;refine app_inc ⟨(a:Int),(b:Int),LB,(KN:Int),causL r (a:Int) (b:Int) KM⟩ cv (.tmp 97) (.tmp 99) rfl rfl w3.heap.size vL L (by rfl) HINW.out HNEW.out (by rfl) HLEN.out HBW.out.size ?_;intro v8 w8 hi8 hg8;have HI8:=zh hi8;have HG8:=zh hg8;clear hi8 hg8));go_roundg (EX - (b+1))
            case measure=>have:=HLB.out;omega
            case rel =>
             refine⟨b+1,_,_,rfl,by go_num,by have:=HLB.out;omega,rfl,HI8,zh ?_,zh (HBW.out.grown HG8.out HBW.out.size (fun x hx=>(HINW.out.row.lt x hx).1))⟩;rw[HJ.out,←HLL.out,List.map_append,HIO.out]
             rfl
      ·have HJ:=zh (show L.map (·.x)=incL F r EX (a+1) 0 by rw[←incL_next,HLL.out,show b=EX by omega]);have hlt2:=HLT.out
       have i3:(NO:Int)≤1000:=by have:=HSM.out.2;omega
       go_wp2_with fail;go_roundg (NO - (a+1))
       case measure=>have:=HLT.out;omega
       case rel=>exact⟨a+1,L,_,rfl,by go_num,by have:=HLT.out;omega,rfl,HIN,HJ,HBR⟩
    ·obtain rfl:NO=a:=by omega
     have hsl:=HIN.out.slS;rw[HLL.out] at hsl;have HSL:=zh (SlS.mono incK hsl (fun b hb=>(⟨Nat.le_trans (Nat.le_trans HB0.out.size HB3.out.size) hb.1,hb.2⟩:Fr w.heap.size wr.heap.size b)));clear hsl c0 c1 c2 c3 c4 c5 y0 y1 y2;go_wp2_with fail;go_ret;exact⟨_,rfl,HSL.out,HB0.out.trans ((HB3.out.trans (HBR.out.mono HB3.out.size)).mono HB0.out.size)⟩
  exact AllReadyT.nil
 exact AllReadyT.nil
end Go.Proofs.YtcfkllnpkmebpaaGreatDoor
