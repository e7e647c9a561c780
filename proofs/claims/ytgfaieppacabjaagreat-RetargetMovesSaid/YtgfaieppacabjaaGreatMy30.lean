/- Networks and flows: value, cost. -/
import Derived.Test.YtgfaieppacabjaaGreatMy25
set_option linter.unusedSectionVars false
set_option maxRecDepth 100000
set_option maxHeartbeats 12800000
namespace Go.Proofs.YtgfaieppacabjaaGreat
open Go.RowKit
set_option linter.unusedVariables false
set_option linter.unusedSimpArgs false
theorem nv12_any{N:NetM}(hv:NetV N)(h1:0<N.arcs.length)(vA:Value)(w:World)(hA:SlS 4 ArcK w (Bl w.heap.size) vA N.arcs) :
  Calls Tryz.prog 152 #[.agg #[.int .i64 (N.nodes:Int),.int .i64 (N.src:Int),.int .i64 (N.snk:Int),vA]] w fun e w'=>e=.returned (.bool true)/\Below w.heap.size w w':=by
 obtain⟨A,cA,rfl,-,hmA⟩:=hA.form;obtain⟨ab,aoff,rfl,hab,hac⟩:=arcs_src hA h1;obtain⟨NN,hNN⟩:=zx N.nodes;obtain⟨SR,hSR⟩:=zx N.src;obtain⟨SK,hSK⟩:=zx N.snk;obtain⟨M,hM⟩:=zx N.arcs.length;have hn7:=hv.n7;have hn2:=hv.n2;have hsr:=hv.src;have hsk:=hv.snk;have ha25:=hv.a25;rw[<-hNN] at hn7 hn2 hsr hsk;rw[<-hSR] at hsr;rw[<-hSK] at hsk;rw[<-hM] at ha25 h1;rw[<-hM] at hac;obtain⟨gN,hgN⟩:=zx w.heap.size;obtain⟨Wb,hWb⟩:=zx (w.alloc (.cells #[.int .i64 (NN:Int),.int .i64 (SR:Int),.int .i64 (SK:Int),.slice (some ⟨ab,aoff,none⟩) M cA] 119))
 have hkb:Wb.heap[gN]?=some (.cells #[.int .i64 (NN:Int),.int .i64 (SR:Int),.int .i64 (SK:Int),.slice (some ⟨ab,aoff,none⟩) M cA] 119 (0,0)):=by rw[hWb,hgN];exact zN _ _
 have hbb:Below w.heap.size w Wb:=by rw[hWb];exact(zB _ _).alloc (zR _) _
 have hgl:gN<Wb.heap.size:=(zA.1 hkb).1;have HAW:=zh (show ∀w',Below w.heap.size w w'->∀i,i<M->w'.cell? ⟨ab,aoff+i*4,none⟩=some (.int .i64 ((N.arc i).f:Int))/\w'.cell? ⟨ab,aoff+i*4+1,none⟩=some (.int .i64 ((N.arc i).t:Int))/\w'.cell? ⟨ab,aoff+i*4+2,none⟩=some (.int .i64 (N.arc i).cap)/\w'.cell? ⟨ab,aoff+i*4+3,none⟩=some (.int .i64 (N.arc i).cost) from fun w' hb i hi=>hac i hi w' (hb.block ab hab));have HNW:=zh (show ∀w',Below Wb.heap.size Wb w'->Below w.heap.size w w'/\w'.heap[gN]?=some (.cells #[.int .i64 (NN:Int),.int .i64 (SR:Int),.int .i64 (SK:Int),.slice (some ⟨ab,aoff,none⟩) M cA] 119 (0,0)) from fun w' hb=>⟨hbb.trans (hb.mono hbb.size),(hb.block gN hgl).trans hkb⟩);have HWB:=zh (And.intro hWb hgN);have HGS:=zh (show gN<Wb.heap.size/\w.heap.size<=Wb.heap.size from⟨hgl,hbb.size⟩);have HV:=zh hv;have HEQ:=zh (show NN=N.nodes/\SR=N.src/\SK=N.snk/\M=N.arcs.length from⟨hNN,hSR,hSK,hM⟩);have HNB:=zh (show NN<=700/\2<=NN/\SR<NN/\SK<NN/\M<=2500/\0<M from⟨hn7,hn2,hsr,hsk,ha25,h1⟩);have HAR:=zh (show ∀i,i<M->(N.arc i).f<NN/\(N.arc i).t<NN/\0<=(N.arc i).cap/\(N.arc i).cap<=1000000/\0<=(N.arc i).cost/\(N.arc i).cost<=1000 from fun i hi=>by rw[hNN];exact hv.arc i (by omega));rw[<-hNN,<-hSR,<-hSK,<-hM];clear hA h1 hNN hSR hSK hM hab hac hmA hgN hWb hkb hbb hgl hv hn7 hn2 hsr hsk ha25;go_enter Tryz.func152,Tryz.ntmps152;go_upto_region 1 with fail;rw[<-HWB.out.1,<-HWB.out.2];obtain⟨c0,c1,c2,c3⟩:=cells4 (HNW.out Wb (zB _ _)).2;have hne:=HV.out.ne;rw[<-HEQ.out.2.1,<-HEQ.out.2.2.1] at hne;have t1:decide ((NN:Int)<2)=false:=decide_eq_false (by have:=HNB.out;omega);have t2:decide (700<(NN:Int))=false:=decide_eq_false (by have:=HNB.out;omega);have t3:decide (2500<(M:Int))=false:=decide_eq_false (by have:=HNB.out;omega);have t4:decide ((SR:Int)<0)=false:=decide_eq_false (by omega);have t5:decide ((NN:Int)<=(SR:Int))=false:=decide_eq_false (by have:=HNB.out;omega);have n5:decide (NN<=SR)=false:=decide_eq_false (by have:=HNB.out;omega);have n7:decide (NN<=SK)=false:=decide_eq_false (by have:=HNB.out;omega);have n8:(SR==SK)=false:=beq_eq_false_iff_ne.2 hne;have t6:decide ((SK:Int)<0)=false:=decide_eq_false (by omega);have t7:decide ((NN:Int)<=(SK:Int))=false:=decide_eq_false (by have:=HNB.out;omega);have t8:((SR:Int)==(SK:Int))=false:=beq_eq_false_iff_ne.2 (by omega)
 have i25:(M:Int)<=2500:=by have:=HNB.out;omega
 have i7:(NN:Int)<=700:=by have:=HNB.out;omega
 have HBb:=zh (zB Wb.heap.size Wb);clear hne;go_wp2_with fail;clear c0 c1 c2 c3 t1 t2 t3 t4 t5 t6 t7 t8 n5 n7 n8;go_loopg [3] M (fun z v3 wr=>∃i:Nat,i<=M/\z=M-i/\v3=.int .i64 (i:Int)/\Hid (Below Wb.heap.size Wb wr))
 case atStart=>exact⟨0,by omega,rfl,rfl,HBb⟩
 case round =>
  obtain⟨i,hi,rfl,rfl,HB⟩:=hrel;obtain⟨W3,hW3⟩:=zx wr;rw[<-hW3] at HB ⊢;clear hW3;obtain⟨c0,c1,c2,c3⟩:=cells4 (HNW.out W3 HB.out).2;by_cases hlt:i<M
  ·have i1:(i:Int)<(M:Int):=by omega
   obtain⟨a0,a1,a2,a3⟩:=HAW.out W3 (HNW.out W3 HB.out).1 i hlt;obtain⟨q1,q2,q3,q4,q5,q6⟩:=HAR.out i hlt;obtain⟨AF,hAF⟩:=zx ((N.arc i).f);obtain⟨AT,hAT⟩:=zx ((N.arc i).t);obtain⟨AP,hAP⟩:=zx ((N.arc i).cap);obtain⟨AC,hAC⟩:=zx ((N.arc i).cost);rw[<-hAF] at a0 q1;rw[<-hAT] at a1 q2;rw[<-hAP] at a2 q3 q4;rw[<-hAC] at a3 q5 q6;have HE:=zh (show AF=(N.arc i).f/\AT=(N.arc i).t/\AP=(N.arc i).cap/\AC=(N.arc i).cost from⟨hAF,hAT,hAP,hAC⟩);have HQ:=zh (show AF<NN/\AT<NN/\0<=AP/\AP<=1000000/\0<=AC/\AC<=1000 from⟨q1,q2,q3,q4,q5,q6⟩);clear hAF hAT hAP hAC q1 q2 q3 q4 q5 q6;go_upto_region 7 with fail;obtain⟨W4,hW4⟩:=zx (W3.alloc (.cells #[.int .i64 (AF:Int),.int .i64 (AT:Int),.int .i64 AP,.int .i64 AC] 172));obtain⟨g11,hg11⟩:=zx W3.heap.size;rw[<-hW4,<-hg11]
   have hk4:W4.heap[g11]?=some (.cells #[.int .i64 (AF:Int),.int .i64 (AT:Int),.int .i64 AP,.int .i64 AC] 172 (0,0)):=by rw[hW4,hg11];exact zN _ _
   have hb34:Below W3.heap.size W3 W4:=by rw[hW4];exact(zB _ _).alloc (zR _) _
   have HB4:=zh (HB.out.trans (hb34.mono HB.out.size));have HG11:=zh hg11;clear hW4 hg11 c0 c1 c2 c3 a0 a1 a2 a3;obtain⟨k0,k1,k2,k3⟩:=cells4 hk4;obtain⟨c0,c1,c2,c3⟩:=cells4 (HNW.out W4 HB4.out).2;have t1:decide ((AF:Int)<0)=false:=decide_eq_false (by omega);have t2:decide ((NN:Int)<=(AF:Int))=false:=decide_eq_false (by have:=HQ.out;omega);have t3:decide ((AT:Int)<0)=false:=decide_eq_false (by omega);have t4:decide ((NN:Int)<=(AT:Int))=false:=decide_eq_false (by have:=HQ.out;omega);have n2:decide (NN<=AF)=false:=decide_eq_false (by have:=HQ.out;omega);have n4:decide (NN<=AT)=false:=decide_eq_false (by have:=HQ.out;omega);have t5:decide (AP<0)=false:=decide_eq_false (by have:=HQ.out;omega);have t6:decide (2147483647<AP)=false:=decide_eq_false (by have:=HQ.out;omega);clear hk4 hb34;go_wp2_with fail;go_roundg (M-(i+1))
   case measure=>omega
   case rel=>exact⟨i+1,by omega,rfl,by go_num,HB4⟩
  ·go_wp2_with fail;go_ret;exact⟨rfl,(HNW.out _ HB.out).1⟩
theorem nv13_any{N:NetM}(hv:NetV N)(h1:0<N.arcs.length)(vA:Value)(w:World)(hA:SlS 4 ArcK w (Bl w.heap.size) vA N.arcs) :
  Calls Tryz.prog 111 #[.agg #[.int .i64 (N.nodes:Int),.int .i64 (N.src:Int),.int .i64 (N.snk:Int),vA]] w fun e w'=>e=.returned (.bool true)/\Below w.heap.size w w':=by
 have hV:=fun w' hb=>nv12_any hv h1 vA w' (SlS.below arcK hA hb)
 obtain⟨A,cA,rfl,-,hmA⟩:=hA.form;obtain⟨ab,aoff,rfl,hab,hac⟩:=arcs_src hA h1;obtain⟨NN,hNN⟩:=zx N.nodes;obtain⟨SR,hSR⟩:=zx N.src;obtain⟨SK,hSK⟩:=zx N.snk;obtain⟨M,hM⟩:=zx N.arcs.length;have hn7:=hv.n7;have hn2:=hv.n2;have hsr:=hv.src;have hsk:=hv.snk;have ha25:=hv.a25;rw[<-hNN] at hn7 hn2 hsr hsk;rw[<-hSR] at hsr;rw[<-hSK] at hsk;rw[<-hM] at ha25 h1;rw[<-hM] at hac;obtain⟨gN,hgN⟩:=zx w.heap.size;obtain⟨Wb,hWb⟩:=zx (w.alloc (.cells #[.int .i64 (NN:Int),.int .i64 (SR:Int),.int .i64 (SK:Int),.slice (some ⟨ab,aoff,none⟩) M cA] 119))
 have hkb:Wb.heap[gN]?=some (.cells #[.int .i64 (NN:Int),.int .i64 (SR:Int),.int .i64 (SK:Int),.slice (some ⟨ab,aoff,none⟩) M cA] 119 (0,0)):=by rw[hWb,hgN];exact zN _ _
 have hbb:Below w.heap.size w Wb:=by rw[hWb];exact(zB _ _).alloc (zR _) _
 have hgl:gN<Wb.heap.size:=(zA.1 hkb).1;have HAW:=zh (show ∀w',Below w.heap.size w w'->∀i,i<M->w'.cell? ⟨ab,aoff+i*4,none⟩=some (.int .i64 ((N.arc i).f:Int))/\w'.cell? ⟨ab,aoff+i*4+1,none⟩=some (.int .i64 ((N.arc i).t:Int))/\w'.cell? ⟨ab,aoff+i*4+2,none⟩=some (.int .i64 (N.arc i).cap)/\w'.cell? ⟨ab,aoff+i*4+3,none⟩=some (.int .i64 (N.arc i).cost) from fun w' hb i hi=>hac i hi w' (hb.block ab hab));have HNW:=zh (show ∀w',Below Wb.heap.size Wb w'->Below w.heap.size w w'/\w'.heap[gN]?=some (.cells #[.int .i64 (NN:Int),.int .i64 (SR:Int),.int .i64 (SK:Int),.slice (some ⟨ab,aoff,none⟩) M cA] 119 (0,0)) from fun w' hb=>⟨hbb.trans (hb.mono hbb.size),(hb.block gN hgl).trans hkb⟩);have HWB:=zh (And.intro hWb hgN);have HGS:=zh (show gN<Wb.heap.size/\w.heap.size<=Wb.heap.size from⟨hgl,hbb.size⟩);have HV:=zh hv;have HEQ:=zh (show NN=N.nodes/\SR=N.src/\SK=N.snk/\M=N.arcs.length from⟨hNN,hSR,hSK,hM⟩);have HNB:=zh (show NN<=700/\2<=NN/\SR<NN/\SK<NN/\M<=2500/\0<M from⟨hn7,hn2,hsr,hsk,ha25,h1⟩);have HAR:=zh (show ∀i,i<M->(N.arc i).f<NN/\(N.arc i).t<NN/\0<=(N.arc i).cap/\(N.arc i).cap<=1000000/\0<=(N.arc i).cost/\(N.arc i).cost<=1000 from fun i hi=>by rw[hNN];exact hv.arc i (by omega));rw[<-hNN,<-hSR,<-hSK,<-hM];clear hA h1 hNN hSR hSK hM hab hac hmA hgN hWb hkb hbb hgl hv hn7 hn2 hsr hsk ha25;rw[<-HEQ.out.1,<-HEQ.out.2.1,<-HEQ.out.2.2.1,<-HEQ.out.2.2.2] at hV;have HVV:=zh hV;clear hV;go_enter Tryz.func111,Tryz.ntmps111;go_upto_region 1 with fail;rw[<-HWB.out.1,<-HWB.out.2];obtain⟨c0,c1,c2,c3⟩:=cells4 (HNW.out Wb (zB _ _)).2;go_wp2_with fail;refine(HVV.out Wb (HNW.out Wb (zB _ _)).1).mono ?_;rintro e w2 ⟨rfl,hb2⟩;have HB2:=zh hb2;clear hb2 c0 c1 c2 c3
 have i25:(M:Int)<=2500:=by have:=HNB.out;omega
 go_wp2_with fail;go_loopg [3] M (fun z v3 wr=>∃i:Nat,i<=M/\z=M-i/\v3=.int .i64 (i:Int)/\Hid (Below Wb.heap.size Wb wr))
 case atStart=>exact⟨0,by omega,rfl,rfl,HB2⟩
 case round =>
  obtain⟨i,hi,rfl,rfl,HB⟩:=hrel;obtain⟨W3,hW3⟩:=zx wr;rw[<-hW3] at HB ⊢;clear hW3;obtain⟨c0,c1,c2,c3⟩:=cells4 (HNW.out W3 HB.out).2;by_cases hlt:i<M
  ·have i1:(i:Int)<(M:Int):=by omega
   obtain⟨a0,a1,a2,a3⟩:=HAW.out W3 (HNW.out W3 HB.out).1 i hlt;obtain⟨q1,q2,q3,q4,q5,q6⟩:=HAR.out i hlt;obtain⟨AF,hAF⟩:=zx ((N.arc i).f);obtain⟨AT,hAT⟩:=zx ((N.arc i).t);obtain⟨AP,hAP⟩:=zx ((N.arc i).cap);obtain⟨AC,hAC⟩:=zx ((N.arc i).cost);rw[<-hAF] at a0 q1;rw[<-hAT] at a1 q2;rw[<-hAP] at a2 q3 q4;rw[<-hAC] at a3 q5 q6;have HE:=zh (show AF=(N.arc i).f/\AT=(N.arc i).t/\AP=(N.arc i).cap/\AC=(N.arc i).cost from⟨hAF,hAT,hAP,hAC⟩);have HQ:=zh (show AF<NN/\AT<NN/\0<=AP/\AP<=1000000/\0<=AC/\AC<=1000 from⟨q1,q2,q3,q4,q5,q6⟩);clear hAF hAT hAP hAC q1 q2 q3 q4 q5 q6;have t5:decide (1000000<AP)=false:=decide_eq_false (by have:=HQ.out;omega);have t6:decide (AC<0)=false:=decide_eq_false (by have:=HQ.out;omega);have t7:decide (1000<AC)=false:=decide_eq_false (by have:=HQ.out;omega);go_wp2_with fail;go_roundg (M-(i+1))
   case measure=>omega
   case rel=>exact⟨i+1,by omega,rfl,by go_num,HB⟩
  ·go_wp2_with fail;go_ret;exact⟨rfl,(HNW.out _ HB.out).1⟩
def ind(v x:Nat):Int:=if x=v then 1 else 0
theorem wt_take(w:Nat->Int):∀(bs:List ArcM) (xs:List Int) (i:Nat),bs.length=xs.length->i<bs.length->NetM.wt w (bs.take (i+1)) (xs.take (i+1))=NetM.wt w (bs.take i) (xs.take i)+gt xs i*(w (bs.getD i ⟨0,0,0,0⟩).f-w (bs.getD i ⟨0,0,0,0⟩).t)
 | [],xs,i,_,h=>by simp at h
 | a :: bs,[],i,e,_=>by simp at e
 | a :: bs,x :: xs,0,_,_=>by simp[NetM.wt,gt]
 | a :: bs,x :: xs,i+1,e,h=>by
  have ih:=wt_take w bs xs i (by simpa using e) (by simpa using h)
  have e2:gt (x :: xs) (i+1)=gt xs i:=by simp[gt]
  rw[List.take_succ_cons,List.take_succ_cons,List.take_succ_cons,List.take_succ_cons];simp only[NetM.wt];rw[ih,e2,List.getD_cons_succ];omega
theorem cst_take:∀(bs:List ArcM) (xs:List Int) (i:Nat),bs.length=xs.length->i<bs.length->cst (bs.take (i+1)) (xs.take (i+1))=cst (bs.take i) (xs.take i)+gt xs i*(bs.getD i ⟨0,0,0,0⟩).cost
 | [],xs,i,_,h=>by simp at h
 | a :: bs,[],i,e,_=>by simp at e
 | a :: bs,x :: xs,0,_,_=>by simp[cst,gt]
 | a :: bs,x :: xs,i+1,e,h=>by
  have ih:=cst_take bs xs i (by simpa using e) (by simpa using h)
  have e2:gt (x :: xs) (i+1)=gt xs i:=by simp[gt]
  rw[List.take_succ_cons,List.take_succ_cons,List.take_succ_cons,List.take_succ_cons];simp only[cst];rw[ih,e2,List.getD_cons_succ];omega
structure OutI (N:NetM) (fl:List Int) (i:Nat) (O:List Int):Prop where
 len:O.length=N.nodes
 val:∀v,v<N.nodes->gt O v=NetM.wt (ind v) (N.arcs.take i) (fl.take i)
 bnd:∀v,v<N.nodes -> -((i:Int)*1000000)<=gt O v/\gt O v<=(i:Int)*1000000
theorem OutI.start(N:NetM)(fl:List Int):OutI N fl 0 (List.replicate N.nodes 0):=⟨by simp,fun v hv=>by rw[gt_rep _ _ _ hv];simp[NetM.wt],fun v hv=>by rw[gt_rep _ _ _ hv];simp⟩
theorem OutI.step{N:NetM}{fl:List Int}{i:Nat}{O:List Int}(h:OutI N fl i O)(hv:NetV N)(hc:N.Caps fl)(hi:i<N.arcs.length) :
  OutI N fl (i+1) ((O.set (N.arc i).f (gt O (N.arc i).f+gt fl i)).set (N.arc i).t (gt (O.set (N.arc i).f (gt O (N.arc i).f+gt fl i)) (N.arc i).t-gt fl i)):=by
 obtain⟨r1,r2,r3,r4,-⟩:=hv.arc i hi;have hx:=hc.2 i hi
 have hl1:(N.arc i).f<O.length:=by rw[h.len];exact r1
 have hl2:(N.arc i).t<O.length:=by rw[h.len];exact r2
 have g:∀v,v<N.nodes->gt ((O.set (N.arc i).f (gt O (N.arc i).f+gt fl i)).set (N.arc i).t (gt (O.set (N.arc i).f (gt O (N.arc i).f+gt fl i)) (N.arc i).t-gt fl i)) v=gt O v+gt fl i*(ind v (N.arc i).f-ind v (N.arc i).t):=fun v hv'=>by
  rw[gt_set _ _ (by rw[List.length_set];exact hl2),gt_set _ _ hl1,gt_set _ _ hl1];unfold ind;by_cases e1:v=(N.arc i).t
  ·by_cases e2:v=(N.arc i).f
   ·rw[if_pos e1,if_pos (by omega),if_pos e2.symm,if_pos e1.symm,e2];omega
   ·rw[if_pos e1,if_neg (by omega),if_neg (fun e=>e2 e.symm),if_pos e1.symm,e1];omega
  ·by_cases e2:v=(N.arc i).f
   ·rw[if_neg e1,if_pos e2,if_pos e2.symm,if_neg (fun e=>e1 e.symm),e2];omega
   ·rw[if_neg e1,if_neg e2,if_neg (fun e=>e2 e.symm),if_neg (fun e=>e1 e.symm)];omega
 refine⟨by simp[h.len],fun v hn=>?_,fun v hn=>?_⟩
 ·rw[g v hn,h.val v hn];exact(wt_take (ind v) N.arcs fl i hc.1.symm hi).symm
 ·rw[g v hn];have hb:=h.bnd v hn
  have hd : -(gt fl i)<=gt fl i*(ind v (N.arc i).f-ind v (N.arc i).t)/\gt fl i*(ind v (N.arc i).f-ind v (N.arc i).t)<=gt fl i:=by
   unfold ind;split <;> split <;> omega
  omega
theorem OutI.zero{N:NetM}{fl:List Int}{O:List Int}(h:OutI N fl N.arcs.length O)(hc:N.Caps fl){k:Nat}(hw:∀w,NetM.wt w N.arcs fl=(k:Int)*(w N.src-w N.snk)){v:Nat}(hv:v<N.nodes)(h1:v≠N.src)(h2:v≠N.snk):gt O v=0:=by
 rw[h.val v hv,List.take_length,<-hc.1,List.take_length,hw];unfold ind;rw[if_neg (fun e=>h1 e.symm),if_neg (fun e=>h2 e.symm)];simp
theorem cst_bnd{N:NetM}{fl:List Int}(hv:NetV N)(hc:N.Caps fl):∀i,i<=N.arcs.length->0<=cst (N.arcs.take i) (fl.take i)/\cst (N.arcs.take i) (fl.take i)<=(i:Int)*1000000000
 | 0,_=>by simp[cst]
 | i+1,h=>by
  have ih:=cst_bnd hv hc i (by omega);have h1:=hv.arc i (by omega);have h2:=hc.2 i (by omega);have h3:=cst_take N.arcs fl i hc.1.symm (by omega);have h4:(N.arcs.getD i ⟨0,0,0,0⟩).cost=(N.arc i).cost:=rfl;rw[h4] at h3;have h5:0<=gt fl i*(N.arc i).cost:=Int.mul_nonneg h2.1 h1.2.2.2.2.1;have h6:gt fl i*(N.arc i).cost<=1000000*1000:=Int.mul_le_mul (by omega) (by omega) (by omega) (by omega);rw[h3];omega
theorem nvalue_any{N:NetM}(hv:NetV N)(h1:0<N.arcs.length){fl:List Int}(hcp:N.Caps fl)(k:Nat)(hw:∀w,NetM.wt w N.arcs fl=(k:Int)*(w N.src-w N.snk))(vA vF:Value)(w:World)(hA:SlS 4 ArcK w (Bl w.heap.size) vA N.arcs)(hfl:IntS w (Bl w.heap.size) vF fl) :
  Calls Tryz.prog 153 #[.agg #[.int .i64 (N.nodes:Int),.int .i64 (N.src:Int),.int .i64 (N.snk:Int),vA],vF] w fun e w'=>∃x:Int,e=.returned (.tuple #[.int .i64 x,.bool true])/\Below w.heap.size w w':=by
 have hV:=fun w' hb=>nv12_any hv h1 vA w' (SlS.below arcK hA hb)
 have hlen:=hcp.1;obtain⟨A,cA,rfl,-,hmA⟩:=hA.form;obtain⟨ab,aoff,rfl,hab,hac⟩:=arcs_src hA h1;obtain⟨AF,cF,rfl,-⟩:=hfl.1;have hfl1:fl.length=N.arcs.length:=hlen;obtain⟨fb,foff,rfl,hfb,hfc⟩:=ints_at hfl (by omega);obtain⟨NN,hNN⟩:=zx N.nodes;obtain⟨SR,hSR⟩:=zx N.src;obtain⟨SK,hSK⟩:=zx N.snk;obtain⟨M,hM⟩:=zx N.arcs.length;have hn7:=hv.n7;have hn2:=hv.n2;have hsr:=hv.src;have hsk:=hv.snk;have ha25:=hv.a25;rw[<-hNN] at hn7 hn2 hsr hsk;rw[<-hSR] at hsr;rw[<-hSK] at hsk;rw[<-hM] at ha25 h1;rw[hfl1];rw[hfl1,<-hM] at hfc;rw[<-hM] at hac;obtain⟨gN,hgN⟩:=zx w.heap.size;obtain⟨Wb,hWb⟩:=zx (w.alloc (.cells #[.int .i64 (NN:Int),.int .i64 (SR:Int),.int .i64 (SK:Int),.slice (some ⟨ab,aoff,none⟩) M cA] 119))
 have hkb:Wb.heap[gN]?=some (.cells #[.int .i64 (NN:Int),.int .i64 (SR:Int),.int .i64 (SK:Int),.slice (some ⟨ab,aoff,none⟩) M cA] 119 (0,0)):=by rw[hWb,hgN];exact zN _ _
 have hbb:Below w.heap.size w Wb:=by rw[hWb];exact(zB _ _).alloc (zR _) _
 have hgl:gN<Wb.heap.size:=(zA.1 hkb).1;have HAW:=zh (show ∀w',Below w.heap.size w w'->∀i,i<M->w'.cell? ⟨ab,aoff+i*4,none⟩=some (.int .i64 ((N.arc i).f:Int))/\w'.cell? ⟨ab,aoff+i*4+1,none⟩=some (.int .i64 ((N.arc i).t:Int))/\w'.cell? ⟨ab,aoff+i*4+2,none⟩=some (.int .i64 (N.arc i).cap)/\w'.cell? ⟨ab,aoff+i*4+3,none⟩=some (.int .i64 (N.arc i).cost) from fun w' hb i hi=>hac i hi w' (hb.block ab hab));have HFW:=zh (show ∀w',Below w.heap.size w w'->∀i,i<M->w'.cell? ⟨fb,foff+i,none⟩=some (.int .i64 (gt fl i)) from fun w' hb i hi=>hfc i hi w' (hb.block fb hfb));have HNW:=zh (show ∀w',Below Wb.heap.size Wb w'->Below w.heap.size w w'/\w'.heap[gN]?=some (.cells #[.int .i64 (NN:Int),.int .i64 (SR:Int),.int .i64 (SK:Int),.slice (some ⟨ab,aoff,none⟩) M cA] 119 (0,0)) from fun w' hb=>⟨hbb.trans (hb.mono hbb.size),(hb.block gN hgl).trans hkb⟩);have HWB:=zh (And.intro hWb hgN);have HGS:=zh (show gN<Wb.heap.size/\w.heap.size<=Wb.heap.size from⟨hgl,hbb.size⟩);have HV:=zh hv;have HEQ:=zh (show NN=N.nodes/\SR=N.src/\SK=N.snk/\M=N.arcs.length/\fl.length=N.arcs.length from⟨hNN,hSR,hSK,hM,hfl1⟩);have HNB:=zh (show NN<=700/\2<=NN/\SR<NN/\SK<NN/\M<=2500/\0<M from⟨hn7,hn2,hsr,hsk,ha25,h1⟩);have HAR:=zh (show ∀i,i<M->(N.arc i).f<NN/\(N.arc i).t<NN/\0<=(N.arc i).cap/\(N.arc i).cap<=1000000/\0<=(N.arc i).cost/\(N.arc i).cost<=1000 from fun i hi=>by rw[hNN];exact hv.arc i (by omega));rw[<-hNN,<-hSR,<-hSK,<-hM];clear hA hfl h1 hfl1 hlen hNN hSR hSK hM hab hac hfb hfc hmA hgN hWb hkb hbb hgl hv hn7 hn2 hsr hsk ha25;rw[<-HEQ.out.1,<-HEQ.out.2.1,<-HEQ.out.2.2.1,<-HEQ.out.2.2.2.1] at hV;have HVV:=zh hV;have HCP:=zh hcp;have HWT:=zh hw;clear hV hcp hw;have hmk:=mk_ints NN (by have:=HNB.out;omega);go_enter Tryz.func153,Tryz.ntmps153;go_upto_region 1 with fail;rw[<-HWB.out.1,<-HWB.out.2];obtain⟨c0,c1,c2,c3⟩:=cells4 (HNW.out Wb (zB _ _)).2
 have b1:((M:Int) != (M:Int))=false:=by simp
 go_wp2_with fail;refine(HVV.out Wb (HNW.out Wb (zB _ _)).1).mono ?_;rintro e w2 ⟨rfl,hb2⟩;have HB2:=zh hb2;clear hb2 c0 c1 c2 c3;obtain⟨c0,c1,c2,c3⟩:=cells4 (HNW.out w2 HB2.out).2;go_upto_region 4 with fail;obtain⟨W2,hW2⟩:=zx (w2.alloc (.cells (Array.replicate NN (.int .i64 0)) 3));obtain⟨gO,hgO⟩:=zx w2.heap.size;rw[<-hW2,<-hgO]
 have hr2:RowI W2 gO (List.replicate NN 0):=by rw[hW2,hgO];exact RowI.new _ _ _
 have hb2:Below Wb.heap.size Wb W2:=by rw[hW2];exact HB2.out.alloc HB2.out.size _
 have HGO:=zh (show Wb.heap.size<=gO from by rw[hgO];exact HB2.out.size);have HR2:=zh hr2;have HBW:=zh hb2;clear hmk hW2 hgO hr2 hb2 c0 c1 c2 c3 b1;have hos:=OutI.start N fl;rw[<-HEQ.out.1] at hos;have HOS:=zh hos;clear hos;go_wp2_with fail;go_loopg [7] M (fun z v7 wr=>∃(i:Nat) (O:List Int),i<=M/\z=M-i/\v7=.int .i64 (i:Int)/\Hid (Below Wb.heap.size Wb wr)/\Hid (RowI wr gO O/\OutI N fl i O))
 case atStart=>exact⟨0,_,by omega,rfl,rfl,HBW,zh ⟨HR2.out,HOS.out⟩⟩
 case round =>
  obtain⟨i,O,hi,rfl,rfl,HB,HO⟩:=hrel;obtain⟨W3,hW3⟩:=zx wr;rw[<-hW3] at HB HO ⊢;clear hW3;obtain⟨c0,c1,c2,c3⟩:=cells4 (HNW.out W3 HB.out).2;by_cases hlt:i<M
  ·have i1:(i:Int)<(M:Int):=by omega
   have i25:(M:Int)<=2500:=by have:=HNB.out;omega
   have i7:(NN:Int)<=700:=by have:=HNB.out;omega
   obtain⟨a0,a1,a2,a3⟩:=HAW.out W3 (HNW.out W3 HB.out).1 i hlt;obtain⟨q1,q2,q3,q4,q5,q6⟩:=HAR.out i hlt;obtain⟨AF,hAF⟩:=zx ((N.arc i).f);obtain⟨AT,hAT⟩:=zx ((N.arc i).t);obtain⟨AP,hAP⟩:=zx ((N.arc i).cap);obtain⟨AC,hAC⟩:=zx ((N.arc i).cost);rw[<-hAF] at a0 q1;rw[<-hAT] at a1 q2;rw[<-hAP] at a2 q3 q4;rw[<-hAC] at a3 q5 q6;have HE:=zh (show AF=(N.arc i).f/\AT=(N.arc i).t/\AP=(N.arc i).cap/\AC=(N.arc i).cost from⟨hAF,hAT,hAP,hAC⟩);have HQ:=zh (show AF<NN/\AT<NN/\0<=AP/\AP<=1000000/\0<=AC/\AC<=1000 from⟨q1,q2,q3,q4,q5,q6⟩);clear hAF hAT hAP hAC q1 q2 q3 q4 q5 q6;have hst:=HO.out.2.step HV.out HCP.out (i:=i) (by have:=HEQ.out;omega);rw[<-HE.out.1,<-HE.out.2.1] at hst;have HST:=zh hst;have hcp:=HCP.out.2 i (by have:=HEQ.out;omega);rw[<-HE.out.2.2.1] at hcp;obtain⟨FX,hFX⟩:=zx (gt fl i);rw[<-hFX] at hcp;have HFX:=zh (And.intro hFX hcp);clear hst hcp hFX;go_upto_region 8 with fail;obtain⟨W4,hW4⟩:=zx (W3.alloc (.cells #[.int .i64 (AF:Int),.int .i64 (AT:Int),.int .i64 AP,.int .i64 AC] 172));obtain⟨g11,hg11⟩:=zx W3.heap.size;rw[<-hW4,<-hg11]
   have hk4:W4.heap[g11]?=some (.cells #[.int .i64 (AF:Int),.int .i64 (AT:Int),.int .i64 AP,.int .i64 AC] 172 (0,0)):=by rw[hW4,hg11];exact zN _ _
   have hb34:Below W3.heap.size W3 W4:=by rw[hW4];exact(zB _ _).alloc (zR _) _
   have HB4:=zh (HB.out.trans (hb34.mono HB.out.size));have HG11:=zh hg11;clear hW4 hg11 c0 c1 c2 c3 a0 a1 a2 a3;have HO4:=zh (show RowI W4 gO O/\OutI N fl i O from⟨HO.out.1.below hb34,HO.out.2⟩);have HK4:=zh (show ∀w',Below W4.heap.size W4 w'->w'.heap[g11]?=some (.cells #[.int .i64 (AF:Int),.int .i64 (AT:Int),.int .i64 AP,.int .i64 AC] 172 (0,0)) from fun w' hb=>(hb.block g11 (zA.1 hk4).1).trans hk4);have HG4:=zh (show g11≠gO/\g11<W4.heap.size from⟨fun e=>by have:=HO.out.1.lt;have:=HG11.out;omega,(zA.1 hk4).1⟩);clear hk4 hb34 HO;obtain⟨k0,k1,k2,k3⟩:=cells4 (HK4.out W4 (zB _ _));have hfx:=HFW.out W4 (HNW.out W4 HB4.out).1 i hlt;rw[<-HFX.out.1] at hfx;have t1:decide (FX<0)=false:=decide_eq_false (by have:=HFX.out.2;omega);have t2:decide (AP<FX)=false:=decide_eq_false (by have:=HFX.out.2;omega)
   go_quiet (fail)
   go_upto_region 10 with fail;obtain⟨W5,hW5⟩:=zx (W4.drewN nq)
   have hb5:Below W4.heap.size W4 W5:=by rw[hW5];exact Below.drewN' (zB _ _) nq
   rw[<-hW5];have HB5:=zh (HB4.out.trans (hb5.mono HB4.out.size));have HR5:=zh (HO4.out.1.below hb5);have HK5:=zh (HK4.out W5 hb5);clear hW5 hb5 k0 k1 k2 k3 hfx t1 t2 HK4;obtain⟨k0,k1,k2,k3⟩:=cells4 HK5.out;have hfx:=HFW.out W5 (HNW.out W5 HB5.out).1 i hlt;rw[<-HFX.out.1] at hfx
   have hlO:O.length=NN:=by rw[HEQ.out.1];exact HO4.out.2.len
   obtain⟨x1,z1⟩:=HR5.out.at_ (k:=AF) (by rw[hlO];exact HQ.out.1);have hbn:=HO4.out.2.bnd AF (by rw[<-HEQ.out.1];exact HQ.out.1);obtain⟨OF,hOF⟩:=zx (gt O AF);rw[<-hOF] at x1 hbn;have w1:IntKind.i64.wrap (OF+FX)=OF+FX:=zI _ (by have:=HFX.out.2;have:=HQ.out;omega)
   have j1:(AF:Int)<(NN:Int):=by have:=HQ.out.1;omega
   have HOF:=zh (And.intro hOF (And.intro hbn hlO));clear hbn hlO hOF
   go_still_tail 14,(by kernel_rfl)
   change wpList _ _ _ _ _ (World.drew _)
   go_wp2;obtain⟨W6,hW6⟩:=zx ((W5.setCell ⟨gO,AF,none⟩ (.int .i64 (OF+FX))).drew)
   have hb6:Below Wb.heap.size Wb W6:=by rw[hW6];exact(HB5.out.setCell (p:=⟨gO,AF,none⟩) HGO.out _).drew
   have hr6:RowI W6 gO (O.set AF (OF+FX)):=by rw[hW6];exact HR5.out.set AF (OF+FX)
   have hk6:W6.heap[g11]?=some (.cells #[.int .i64 (AF:Int),.int .i64 (AT:Int),.int .i64 AP,.int .i64 AC] 172 (0,0)):=by rw[hW6];exact(Below.heap_setCell _ ⟨gO,AF,none⟩ _ g11 HG4.out.1).trans HK5.out
   rw[<-hW6];have HB6:=zh hb6;have HR6:=zh hr6;have HK6:=zh hk6;clear hW6 hb6 hr6 hk6 k0 k1 k2 k3 hfx x1 z1 w1;obtain⟨k0,k1,k2,k3⟩:=cells4 HK6.out;have hfx:=HFW.out W6 (HNW.out W6 HB6.out).1 i hlt;rw[<-HFX.out.1] at hfx;obtain⟨x1,z1⟩:=HR6.out.at_ (k:=AT) (by rw[List.length_set,HOF.out.2.2];exact HQ.out.2.1);have hg2:=gt_set (l:=O) (i:=AF) (OF+FX) AT (by rw[HOF.out.2.2];exact HQ.out.1);have hbn:=HO4.out.2.bnd AT (by rw[<-HEQ.out.1];exact HQ.out.2.1)
   have hOT : -2600000000<=gt (O.set AF (OF+FX)) AT/\gt (O.set AF (OF+FX)) AT<=2600000000:=by
    rw[hg2];split
    ·have:=HOF.out.2.1;have:=HFX.out.2;have:=HQ.out;omega
    ·omega
   obtain⟨OT,hOTe⟩:=zx (gt (O.set AF (OF+FX)) AT);rw[<-hOTe] at x1 hOT;have w1:IntKind.i64.wrap (OT-FX)=OT-FX:=zI _ (by have:=HFX.out.2;have:=HQ.out;omega)
   have j2:(AT:Int)<(NN:Int):=by have:=HQ.out.2.1;omega
   have HOT:=zh hOTe;clear hg2 hbn hOT hOTe
   go_still_tail 14,(by kernel_rfl)
   change wpList _ _ _ _ _ (World.drew _)
   go_wp2;have hs:=HST.out;rw[<-HFX.out.1,<-HOF.out.1,<-HOT.out] at hs;go_roundg (M-(i+1))
   case measure=>omega
   case rel=>exact⟨i+1,_,by omega,rfl,by go_num,zh (HB6.out.setCell (p:=⟨gO,AT,none⟩) HGO.out _).drew,zh ⟨(HR6.out.set AT (OT-FX)).drew,hs⟩⟩
  ·have HJE:=zh (show i=M by omega);have hO:=HO.out.2;rw[HJE.out,HEQ.out.2.2.2.1] at hO;have HOE:=zh (show ∀v,v<NN->v≠SR->v≠SK->gt O v=0 from fun v hv h1 h2=>hO.zero HCP.out HWT.out (by rw[<-HEQ.out.1];exact hv) (by rw[<-HEQ.out.2.1];exact h1) (by rw[<-HEQ.out.2.2.1];exact h2));have HLO:=zh (show O.length=NN by rw[HEQ.out.1];exact hO.len);clear hO
   have i7:(NN:Int)<=700:=by have:=HNB.out;omega
   go_wp2_with fail;clear c0 c1 c2 c3;go_loopg [9] NN (fun z v9 wr=>∃j:Nat,j<=NN/\z=NN-j/\v9=.int .i64 (j:Int)/\W3=wr)
   case atStart=>exact⟨0,by omega,rfl,rfl,rfl⟩
   case round =>
    obtain⟨j,hj,rfl,rfl,rfl⟩:=hrel;obtain⟨c0,c1,c2,c3⟩:=cells4 (HNW.out W3 HB.out).2;by_cases hlt2:j<NN
    ·have i1:(j:Int)<(NN:Int):=by omega
     obtain⟨x1,-⟩:=HO.out.1.at_ (k:=j) (by rw[HLO.out];exact hlt2);by_cases h1:j=SR
     ·have t1:((j:Int) != (SR:Int))=false:=by rw[h1];simp
      have n1:(j != SR)=false:=by rw[h1];simp
      have HJ:=zh h1;clear h1;go_wp2_with fail;go_roundg (NN-(j+1))
      case measure=>omega
      case rel=>exact⟨j+1,by omega,rfl,by go_num,rfl⟩
     ·have t1:((j:Int) != (SR:Int))=true:=bne_iff_ne.2 (by omega);have n1:(j != SR)=true:=bne_iff_ne.2 h1;by_cases h2:j=SK
      ·have t2:((j:Int) != (SK:Int))=false:=by rw[h2];simp
       have n2:(j != SK)=false:=by rw[h2];simp
       have HJ:=zh h2;clear h1 h2;go_wp2_with fail;go_roundg (NN-(j+1))
       case measure=>omega
       case rel=>exact⟨j+1,by omega,rfl,by go_num,rfl⟩
      ·have t2:((j:Int) != (SK:Int))=true:=bne_iff_ne.2 (by omega);have n2:(j != SK)=true:=bne_iff_ne.2 h2;rw[HOE.out j hlt2 h1 h2] at x1;clear h1 h2;go_wp2_with fail;go_roundg (NN-(j+1))
       case measure=>omega
       case rel=>exact⟨j+1,by omega,rfl,by go_num,rfl⟩
    ·have i1:(SR:Int)<(NN:Int):=by have:=HNB.out;omega
     obtain⟨x1,-⟩:=HO.out.1.at_ (k:=SR) (by rw[HLO.out];have:=HNB.out;omega);go_wp2_with fail;go_ret2;exact⟨_,rfl,(HNW.out _ HB.out).1⟩
theorem ncost_any{N:NetM}(hv:NetV N)(h1:0<N.arcs.length){fl:List Int}(hcp:N.Caps fl)(k:Nat)(hw:∀w,NetM.wt w N.arcs fl=(k:Int)*(w N.src-w N.snk))(vA vF:Value)(w:World)(hA:SlS 4 ArcK w (Bl w.heap.size) vA N.arcs)(hfl:IntS w (Bl w.heap.size) vF fl) :
  Calls Tryz.prog 113 #[.agg #[.int .i64 (N.nodes:Int),.int .i64 (N.src:Int),.int .i64 (N.snk:Int),vA],vF] w fun e w'=>e=.returned (.tuple #[.int .i64 (cst N.arcs fl),.bool true])/\Below w.heap.size w w':=by
 have hV:=fun w' hb=>nv13_any hv h1 vA w' (SlS.below arcK hA hb)
 have hVa:=fun w' (hb:Below w.heap.size w w')=>nvalue_any hv h1 hcp k hw vA vF w' (SlS.below arcK hA hb) ((hfl.keep (kept_below hb)).mono (Bl.mono hb.size))
 have hlen:=hcp.1;obtain⟨A,cA,rfl,-,hmA⟩:=hA.form;obtain⟨ab,aoff,rfl,hab,hac⟩:=arcs_src hA h1;obtain⟨AF,cF,rfl,-⟩:=hfl.1;have hfl1:fl.length=N.arcs.length:=hlen;obtain⟨fb,foff,rfl,hfb,hfc⟩:=ints_at hfl (by omega);obtain⟨NN,hNN⟩:=zx N.nodes;obtain⟨SR,hSR⟩:=zx N.src;obtain⟨SK,hSK⟩:=zx N.snk;obtain⟨M,hM⟩:=zx N.arcs.length;have hn7:=hv.n7;have hn2:=hv.n2;have hsr:=hv.src;have hsk:=hv.snk;have ha25:=hv.a25;rw[<-hNN] at hn7 hn2 hsr hsk;rw[<-hSR] at hsr;rw[<-hSK] at hsk;rw[<-hM] at ha25 h1;rw[hfl1];rw[hfl1,<-hM] at hfc;rw[<-hM] at hac;obtain⟨gN,hgN⟩:=zx w.heap.size;obtain⟨Wb,hWb⟩:=zx (w.alloc (.cells #[.int .i64 (NN:Int),.int .i64 (SR:Int),.int .i64 (SK:Int),.slice (some ⟨ab,aoff,none⟩) M cA] 119))
 have hkb:Wb.heap[gN]?=some (.cells #[.int .i64 (NN:Int),.int .i64 (SR:Int),.int .i64 (SK:Int),.slice (some ⟨ab,aoff,none⟩) M cA] 119 (0,0)):=by rw[hWb,hgN];exact zN _ _
 have hbb:Below w.heap.size w Wb:=by rw[hWb];exact(zB _ _).alloc (zR _) _
 have hgl:gN<Wb.heap.size:=(zA.1 hkb).1;have HAW:=zh (show ∀w',Below w.heap.size w w'->∀i,i<M->w'.cell? ⟨ab,aoff+i*4,none⟩=some (.int .i64 ((N.arc i).f:Int))/\w'.cell? ⟨ab,aoff+i*4+1,none⟩=some (.int .i64 ((N.arc i).t:Int))/\w'.cell? ⟨ab,aoff+i*4+2,none⟩=some (.int .i64 (N.arc i).cap)/\w'.cell? ⟨ab,aoff+i*4+3,none⟩=some (.int .i64 (N.arc i).cost) from fun w' hb i hi=>hac i hi w' (hb.block ab hab));have HFW:=zh (show ∀w',Below w.heap.size w w'->∀i,i<M->w'.cell? ⟨fb,foff+i,none⟩=some (.int .i64 (gt fl i)) from fun w' hb i hi=>hfc i hi w' (hb.block fb hfb));have HNW:=zh (show ∀w',Below Wb.heap.size Wb w'->Below w.heap.size w w'/\w'.heap[gN]?=some (.cells #[.int .i64 (NN:Int),.int .i64 (SR:Int),.int .i64 (SK:Int),.slice (some ⟨ab,aoff,none⟩) M cA] 119 (0,0)) from fun w' hb=>⟨hbb.trans (hb.mono hbb.size),(hb.block gN hgl).trans hkb⟩);have HWB:=zh (And.intro hWb hgN);have HGS:=zh (show gN<Wb.heap.size/\w.heap.size<=Wb.heap.size from⟨hgl,hbb.size⟩);have HV:=zh hv;have HEQ:=zh (show NN=N.nodes/\SR=N.src/\SK=N.snk/\M=N.arcs.length/\fl.length=N.arcs.length from⟨hNN,hSR,hSK,hM,hfl1⟩);have HNB:=zh (show NN<=700/\2<=NN/\SR<NN/\SK<NN/\M<=2500/\0<M from⟨hn7,hn2,hsr,hsk,ha25,h1⟩);have HAR:=zh (show ∀i,i<M->(N.arc i).f<NN/\(N.arc i).t<NN/\0<=(N.arc i).cap/\(N.arc i).cap<=1000000/\0<=(N.arc i).cost/\(N.arc i).cost<=1000 from fun i hi=>by rw[hNN];exact hv.arc i (by omega));rw[<-hNN,<-hSR,<-hSK,<-hM];clear hA hfl h1 hfl1 hlen hNN hSR hSK hM hab hac hfb hfc hmA hgN hWb hkb hbb hgl hv hn7 hn2 hsr hsk ha25;rw[<-HEQ.out.1,<-HEQ.out.2.1,<-HEQ.out.2.2.1,<-HEQ.out.2.2.2.1] at hV;rw[HEQ.out.2.2.2.2,<-HEQ.out.1,<-HEQ.out.2.1,<-HEQ.out.2.2.1,<-HEQ.out.2.2.2.1] at hVa;have HVV:=zh hV;have HVA:=zh hVa;have HCP:=zh hcp;clear hV hVa hcp hw;go_enter Tryz.func113,Tryz.ntmps113;go_upto_region 1 with fail;rw[<-HWB.out.1,<-HWB.out.2];obtain⟨c0,c1,c2,c3⟩:=cells4 (HNW.out Wb (zB _ _)).2;go_wp2_with fail;refine(HVV.out Wb (HNW.out Wb (zB _ _)).1).mono ?_;rintro e w2 ⟨rfl,hb2⟩;have HB2:=zh hb2;clear hb2 c0 c1 c2 c3;obtain⟨c0,c1,c2,c3⟩:=cells4 (HNW.out w2 HB2.out).2;go_wp2_with fail;refine(HVA.out w2 (HNW.out w2 HB2.out).1).mono ?_;rintro e w3 ⟨x,rfl,hb3⟩;have HB3:=zh (HB2.out.trans (hb3.mono HB2.out.size));clear hb3 c0 c1 c2 c3;go_wp2_with fail;go_loopg [8,9] M (fun z v8 v9 wr=>∃i:Nat,i<=M/\z=M-i/\v8=.int .i64 (cst (N.arcs.take i) (fl.take i))/\v9=.int .i64 (i:Int)/\Hid (Below Wb.heap.size Wb wr))
 case atStart=>exact⟨0,by omega,rfl,by simp[cst],rfl,HB3⟩
 case round =>
  obtain⟨i,hi,rfl,rfl,rfl,HB⟩:=hrel;obtain⟨W3,hW3⟩:=zx wr;rw[<-hW3] at HB ⊢;clear hW3;obtain⟨c0,c1,c2,c3⟩:=cells4 (HNW.out W3 HB.out).2;by_cases hlt:i<M
  ·have i1:(i:Int)<(M:Int):=by omega
   have i25:(M:Int)<=2500:=by have:=HNB.out;omega
   obtain⟨a0,a1,a2,a3⟩:=HAW.out W3 (HNW.out W3 HB.out).1 i hlt;obtain⟨q1,q2,q3,q4,q5,q6⟩:=HAR.out i hlt;obtain⟨AF,hAF⟩:=zx ((N.arc i).f);obtain⟨AT,hAT⟩:=zx ((N.arc i).t);obtain⟨AP,hAP⟩:=zx ((N.arc i).cap);obtain⟨AC,hAC⟩:=zx ((N.arc i).cost);rw[<-hAF] at a0 q1;rw[<-hAT] at a1 q2;rw[<-hAP] at a2 q3 q4;rw[<-hAC] at a3 q5 q6;have HE:=zh (show AF=(N.arc i).f/\AT=(N.arc i).t/\AP=(N.arc i).cap/\AC=(N.arc i).cost from⟨hAF,hAT,hAP,hAC⟩);have HQ:=zh (show AF<NN/\AT<NN/\0<=AP/\AP<=1000000/\0<=AC/\AC<=1000 from⟨q1,q2,q3,q4,q5,q6⟩);clear hAF hAT hAP hAC q1 q2 q3 q4 q5 q6;have hfx:=HFW.out W3 (HNW.out W3 HB.out).1 i hlt;have hct:=cst_take N.arcs fl i HEQ.out.2.2.2.2.symm (by have:=HEQ.out;omega);have hcb:=cst_bnd HV.out HCP.out i (by have:=HEQ.out;omega);have hcc:=HCP.out.2 i (by have:=HEQ.out;omega);have hca:(N.arcs.getD i ⟨0,0,0,0⟩).cost=AC:=HE.out.2.2.2.symm;rw[hca] at hct;rw[<-HE.out.2.2.1] at hcc;obtain⟨FX,hFX⟩:=zx (gt fl i);rw[<-hFX] at hfx hct hcc;obtain⟨CS,hCS⟩:=zx (cst (N.arcs.take i) (fl.take i));obtain⟨CM,hCM⟩:=zx (FX*AC);rw[<-hCS] at hct hcb ⊢;rw[<-hCM] at hct
   have hm0:0<=CM/\CM<=1000000000:=by
    rw[hCM];refine⟨Int.mul_nonneg hcc.1 (by have:=HQ.out;omega),?_⟩;have h1:FX*AC<=1000000*1000:=Int.mul_le_mul (by have:=HQ.out;omega) (by have:=HQ.out;omega) (by have:=HQ.out;omega) (by omega);omega
   have w1:IntKind.i64.wrap (FX*AC)=CM:=by rw[<-hCM];exact zI _ (by omega)
   have w2:IntKind.i64.wrap (CS+CM)=CS+CM:=zI _ (by omega);have HCT:=zh hct;clear hca hct hcb hcc hFX hCS hCM hm0;go_upto_region 10 with fail
   go_quiet (fail)
   go_wp2_with fail;go_roundg (M-(i+1))
   case measure=>omega
   case rel=>exact⟨i+1,by omega,rfl,by rw[HCT.out],by go_num,zh (Below.drewN' HB.out nq)⟩
  ·have HJE:=zh (show i=M by omega);go_wp2_with fail;go_ret2
   have hT:(List.take i N.arcs)=N.arcs/\List.take i fl=fl:=by
    have:=HJE.out;have:=HEQ.out;exact⟨List.take_of_length_le (by omega),List.take_of_length_le (by omega)⟩
   exact⟨by rw[hT.1,hT.2];rfl,(HNW.out _ HB.out).1⟩
structure PotI (N:NetM) (q:Nat->Int) (C:Int) (P:List Int):Prop where
 len:P.length=N.nodes
 lo:∀v,v<N.nodes->q v-C<=gt P v
 hi:∀v,v<N.nodes->gt P v<=0
theorem PotI.relax{N:NetM}{fl:List Int}{q:Nat->Int}{C:Int}{P:List Int}(hv:NetV N)(hf:N.Feas fl q)(h:PotI N q C P){e:Nat}(he:N.Ed fl e)(hlt:gt P (N.tl e)+N.co e<gt P (N.hd e)):PotI N q C (P.set (N.hd e) (gt P (N.tl e)+N.co e))/\suml (P.set (N.hd e) (gt P (N.tl e)+N.co e))<suml P:=by
 obtain⟨r1,r2,r3,r4⟩:=hv.edge he.1
 have hl:N.hd e<P.length:=by rw[h.len];exact r2
 have g:=gt_set (l:=P) (gt P (N.tl e)+N.co e) (i:=N.hd e);refine⟨⟨by rw[List.length_set];exact h.len,fun v hn=>?_,fun v hn=>?_⟩,by rw[suml_set _ _ _ hl];omega⟩
 ·rw[g v hl];split
  ·rename_i e1;have:=hf e he;have:=h.lo _ r1;rw[e1];omega
  ·exact h.lo v hn
 ·rw[g v hl];split
  ·have:=h.hi _ r2;omega
  ·exact h.hi v hn
theorem suml_low(C:Int):∀(l:List Int),(∀i,i<l.length -> -C<=gt l i) -> -((l.length:Int)*C)<=suml l
 | [],_=>by simp[suml]
 | y :: l,h=>by
  have h0 : -C<=y:=by have:=h 0 (by simp);simpa[gt] using this
  have h1:=suml_low C l (fun i hi=>by have:=h (i+1) (by simpa using hi);simpa[gt] using this);simp only[suml,List.length_cons,Int.natCast_add,Int.add_mul];omega
theorem PotI.sum{N:NetM}{q:Nat->Int}{C:Int}{P:List Int}(h:PotI N q C P)(h0:∀v,v<N.nodes->0<=q v):0<=suml P+(N.nodes:Int)*C:=by
 have:=suml_low C P (fun i hi=>by rw[h.len] at hi;have:=h.lo i hi;have:=h0 i hi;omega);rw[h.len] at this;omega
theorem PotI.start{N:NetM}{q:Nat->Int}{C:Int}(h:∀v,v<N.nodes->q v<=C):PotI N q C (List.replicate N.nodes 0):=⟨by simp,fun v hv=>by rw[gt_rep _ _ _ hv];have:=h v hv;omega,fun v hv=>by rw[gt_rep _ _ _ hv];omega⟩
structure PotP (N:NetM) (q:Nat->Int) (C:Int) (P:List Int) (ag:Bool) (P1:List Int):Prop where
 pi:PotI N q C P1
 yes:ag=true->suml P1<suml P
 no:ag=false->P1=P
theorem PotP.next{N:NetM}{q:Nat->Int}{C:Int}{P P1 P2:List Int}{ag:Bool}(h:PotP N q C P ag P1)(h2:PotI N q C P2)(hs:suml P2<suml P1):PotP N q C P true P2:=⟨h2,fun _=>by
 cases ag with
 | true=>have:=h.yes rfl;omega
 | false=>have:=h.no rfl;rw[this] at hs;exact hs,fun e=>(by cases e)⟩
theorem potentials_any{N:NetM}(hv:NetV N)(h1:0<N.arcs.length){fl:List Int}{q:Nat->Int}{C:Int}(hcp:N.Caps fl)(hfe:N.Feas fl q)(hq0:∀v,v<N.nodes->0<=q v/\q v<=C)(hC:C<=100000000000000)(vA vF:Value)(w:World)(hA:SlS 4 ArcK w (Bl w.heap.size) vA N.arcs)(hfl:IntS w (Bl w.heap.size) vF fl) :
  Calls Tryz.prog 114 #[.agg #[.int .i64 (N.nodes:Int),.int .i64 (N.src:Int),.int .i64 (N.snk:Int),vA],vF] w fun e w'=>∃A n c,e=.returned (.slice A n c)/\Below w.heap.size w w':=by
 have hlen:=hcp.1;have HFE:=zh hfe;have HQ0:=zh (And.intro hq0 hC);have hps:=PotI.start (N:=N) (q:=q) (C:=C) (fun v hv=>(hq0 v hv).2);clear hfe hq0 hC;obtain⟨A,cA,rfl,-,hmA⟩:=hA.form;obtain⟨ab,aoff,rfl,hab,hac⟩:=arcs_src hA h1;obtain⟨AF,cF,rfl,-⟩:=hfl.1;have hfl1:fl.length=N.arcs.length:=hlen;obtain⟨fb,foff,rfl,hfb,hfc⟩:=ints_at hfl (by omega);obtain⟨NN,hNN⟩:=zx N.nodes;obtain⟨SR,hSR⟩:=zx N.src;obtain⟨SK,hSK⟩:=zx N.snk;obtain⟨M,hM⟩:=zx N.arcs.length;have hn7:=hv.n7;have hn2:=hv.n2;have hsr:=hv.src;have hsk:=hv.snk;have ha25:=hv.a25;rw[<-hNN] at hn7 hn2 hsr hsk;rw[<-hSR] at hsr;rw[<-hSK] at hsk;rw[<-hM] at ha25 h1;rw[hfl1];rw[hfl1,<-hM] at hfc;rw[<-hM] at hac;obtain⟨gN,hgN⟩:=zx w.heap.size;obtain⟨Wb,hWb⟩:=zx (w.alloc (.cells #[.int .i64 (NN:Int),.int .i64 (SR:Int),.int .i64 (SK:Int),.slice (some ⟨ab,aoff,none⟩) M cA] 119))
 have hkb:Wb.heap[gN]?=some (.cells #[.int .i64 (NN:Int),.int .i64 (SR:Int),.int .i64 (SK:Int),.slice (some ⟨ab,aoff,none⟩) M cA] 119 (0,0)):=by rw[hWb,hgN];exact zN _ _
 have hbb:Below w.heap.size w Wb:=by rw[hWb];exact(zB _ _).alloc (zR _) _
 have hgl:gN<Wb.heap.size:=(zA.1 hkb).1;have HAW:=zh (show ∀w',Below w.heap.size w w'->∀i,i<M->w'.cell? ⟨ab,aoff+i*4,none⟩=some (.int .i64 ((N.arc i).f:Int))/\w'.cell? ⟨ab,aoff+i*4+1,none⟩=some (.int .i64 ((N.arc i).t:Int))/\w'.cell? ⟨ab,aoff+i*4+2,none⟩=some (.int .i64 (N.arc i).cap)/\w'.cell? ⟨ab,aoff+i*4+3,none⟩=some (.int .i64 (N.arc i).cost) from fun w' hb i hi=>hac i hi w' (hb.block ab hab));have HFW:=zh (show ∀w',Below w.heap.size w w'->∀i,i<M->w'.cell? ⟨fb,foff+i,none⟩=some (.int .i64 (gt fl i)) from fun w' hb i hi=>hfc i hi w' (hb.block fb hfb));have HNW:=zh (show ∀w',Below Wb.heap.size Wb w'->Below w.heap.size w w'/\w'.heap[gN]?=some (.cells #[.int .i64 (NN:Int),.int .i64 (SR:Int),.int .i64 (SK:Int),.slice (some ⟨ab,aoff,none⟩) M cA] 119 (0,0)) from fun w' hb=>⟨hbb.trans (hb.mono hbb.size),(hb.block gN hgl).trans hkb⟩);have HWB:=zh (And.intro hWb hgN);have HGS:=zh (show gN<Wb.heap.size/\w.heap.size<=Wb.heap.size from⟨hgl,hbb.size⟩);have HV:=zh hv;have HEQ:=zh (show NN=N.nodes/\SR=N.src/\SK=N.snk/\M=N.arcs.length/\fl.length=N.arcs.length from⟨hNN,hSR,hSK,hM,hfl1⟩);have HNB:=zh (show NN<=700/\2<=NN/\SR<NN/\SK<NN/\M<=2500/\0<M from⟨hn7,hn2,hsr,hsk,ha25,h1⟩);have HAR:=zh (show ∀i,i<M->(N.arc i).f<NN/\(N.arc i).t<NN/\0<=(N.arc i).cap/\(N.arc i).cap<=1000000/\0<=(N.arc i).cost/\(N.arc i).cost<=1000 from fun i hi=>by rw[hNN];exact hv.arc i (by omega));rw[<-hNN,<-hSR,<-hSK,<-hM];clear hA hfl h1 hfl1 hlen hNN hSR hSK hM hab hac hfb hfc hmA hgN hWb hkb hbb hgl hv hn7 hn2 hsr hsk ha25;rw[<-HEQ.out.1] at hps;have HPS:=zh hps;clear hps;have hmk:=mk_ints NN (by have:=HNB.out;omega);go_enter Tryz.func114,Tryz.ntmps114;go_upto_region 1 with fail;rw[<-HWB.out.1,<-HWB.out.2];obtain⟨c0,c1,c2,c3⟩:=cells4 (HNW.out Wb (zB _ _)).2;go_upto_region 2 with fail;obtain⟨W2,hW2⟩:=zx (Wb.alloc (.cells (Array.replicate NN (.int .i64 0)) 3));obtain⟨gP,hgP⟩:=zx Wb.heap.size;rw[<-hW2,<-hgP]
 have hr2:RowI W2 gP (List.replicate NN 0):=by rw[hW2,hgP];exact RowI.new _ _ _
 have hb2:Below Wb.heap.size Wb W2:=by rw[hW2];exact(zB _ _).alloc (zR _) _
 have HGP:=zh (show Wb.heap.size<=gP from by omega);have HR2:=zh hr2;have HBW:=zh hb2;obtain⟨S0,hS0⟩:∃x:Int,x=(NN:Int)*C:=⟨_,rfl⟩;have HS0:=zh hS0;clear hmk hW2 hgP hr2 hb2 c0 c1 c2 c3 hS0;go_wp2_with fail;go_loopg [6] ((suml (List.replicate NN 0)+S0).toNat+1) (fun z v6 wr=>∃(ag:Bool) (P1:List Int),v6=.bool ag/\z=(cond ag ((suml P1+S0).toNat+1) 0)/\Hid (Below Wb.heap.size Wb wr)/\Hid (RowI wr gP P1/\PotI N q C P1))
 case atStart=>exact⟨true,_,rfl,rfl,HBW,zh ⟨HR2.out,HPS.out⟩⟩
 case round =>
  obtain⟨ag,P1,rfl,rfl,HBo,HDo⟩:=hrel;obtain⟨W1,hW1⟩:=zx wr;rw[<-hW1] at HBo HDo ⊢;clear hW1
  cases ag with
  | false =>
   go_wp2_with fail;go_ret;exact⟨_,_,_,rfl,(HNW.out _ HBo.out).1⟩
  | true =>
   go_wp2_with fail;go_loopg [6,7] M (fun z v6 v7 wr=>∃(i:Nat) (ag:Bool) (P2:List Int),i<=M/\z=M-i/\v6=.bool ag/\v7=.int .i64 (i:Int)/\Hid (Below Wb.heap.size Wb wr)/\Hid (RowI wr gP P2/\PotP N q C P1 ag P2))
   case atStart=>exact⟨0,false,P1,by omega,rfl,rfl,rfl,HBo,zh ⟨HDo.out.1,HDo.out.2,fun e=>(by cases e),fun _=>rfl⟩⟩
   case round =>
    obtain⟨i,ag,P2,hi,rfl,rfl,rfl,HB,HP⟩:=hrel;obtain⟨W3,hW3⟩:=zx wr;rw[<-hW3] at HB HP ⊢;clear hW3;obtain⟨c0,c1,c2,c3⟩:=cells4 (HNW.out W3 HB.out).2;by_cases hlt:i<M
    ·have i1:(i:Int)<(M:Int):=by omega
     have i25:(M:Int)<=2500:=by have:=HNB.out;omega
     have i7:(NN:Int)<=700:=by have:=HNB.out;omega
     obtain⟨a0,a1,a2,a3⟩:=HAW.out W3 (HNW.out W3 HB.out).1 i hlt;obtain⟨q1,q2,q3,q4,q5,q6⟩:=HAR.out i hlt;obtain⟨AF,hAF⟩:=zx ((N.arc i).f);obtain⟨AT,hAT⟩:=zx ((N.arc i).t);obtain⟨AP,hAP⟩:=zx ((N.arc i).cap);obtain⟨AC,hAC⟩:=zx ((N.arc i).cost);rw[<-hAF] at a0 q1;rw[<-hAT] at a1 q2;rw[<-hAP] at a2 q3 q4;rw[<-hAC] at a3 q5 q6;have hfx:=HFW.out W3 (HNW.out W3 HB.out).1 i hlt;obtain⟨FX,hFX⟩:=zx (gt fl i);rw[<-hFX] at hfx;have HE:=zh (show AF=(N.arc i).f/\AT=(N.arc i).t/\AP=(N.arc i).cap/\AC=(N.arc i).cost/\FX=gt fl i from⟨hAF,hAT,hAP,hAC,hFX⟩);have HQ:=zh (show AF<NN/\AT<NN/\0<=AP/\AP<=1000000/\0<=AC/\AC<=1000 from⟨q1,q2,q3,q4,q5,q6⟩);clear hFX hAF hAT hAP hAC q1 q2 q3 q4 q5 q6;go_upto_region 9 with fail;obtain⟨W4,hW4⟩:=zx (W3.alloc (.cells #[.int .i64 (AF:Int),.int .i64 (AT:Int),.int .i64 AP,.int .i64 AC] 172));obtain⟨g11,hg11⟩:=zx W3.heap.size;rw[<-hW4,<-hg11]
     have hk4:W4.heap[g11]?=some (.cells #[.int .i64 (AF:Int),.int .i64 (AT:Int),.int .i64 AP,.int .i64 AC] 172 (0,0)):=by rw[hW4,hg11];exact zN _ _
     have hb34:Below W3.heap.size W3 W4:=by rw[hW4];exact(zB _ _).alloc (zR _) _
     have HB4:=zh (HB.out.trans (hb34.mono HB.out.size));have HG11:=zh hg11;clear hW4 hg11 c0 c1 c2 c3 a0 a1 a2 a3;clear hfx;obtain⟨g8,hg8⟩:=zx g11;rw[<-hg8] at hk4 ⊢;have HP4:=zh (show RowI W4 gP P2/\PotP N q C P1 ag P2 from⟨HP.out.1.below hb34,HP.out.2⟩);have HK4:=zh (show ∀w',Below W4.heap.size W4 w'->w'.heap[g8]?=some (.cells #[.int .i64 (AF:Int),.int .i64 (AT:Int),.int .i64 AP,.int .i64 AC] 172 (0,0)) from fun w' hb=>(hb.block g8 (zA.1 hk4).1).trans hk4);have HG4:=zh (show g8≠gP from fun e=>by have:=HP.out.1.lt;have:=HG11.out;omega);clear hk4 hb34 HP hg8
     have hlD:P2.length=NN:=by rw[HEQ.out.1];exact HP4.out.2.pi.len
     obtain⟨dA,-⟩:=HP4.out.1.at_ (k:=AF) (by rw[hlD];exact HQ.out.1);obtain⟨dB,-⟩:=HP4.out.1.at_ (k:=AT) (by rw[hlD];exact HQ.out.2.1);have ha:=HP4.out.2.pi.lo AF (by rw[<-HEQ.out.1];exact HQ.out.1);have hb:=HP4.out.2.pi.hi AF (by rw[<-HEQ.out.1];exact HQ.out.1);have hc:=HQ0.out.1 AF (by rw[<-HEQ.out.1];exact HQ.out.1);obtain⟨DA,hDA⟩:=zx (gt P2 AF);obtain⟨DB,hDB⟩:=zx (gt P2 AT);rw[<-hDA] at dA ha hb;rw[<-hDB] at dB;have HDD:=zh (show DA=gt P2 AF/\DB=gt P2 AT/\P2.length=NN from⟨hDA,hDB,hlD⟩);have w1:IntKind.i64.wrap (DA+AC)=DA+AC:=zI _ (by have:=HQ0.out.2;have:=HQ.out;omega);have hfx:=HFW.out W4 (HNW.out W4 HB4.out).1 i hlt;rw[<-HE.out.2.2.2.2] at hfx;obtain⟨k0,k1,k2,k3⟩:=cells4 (HK4.out W4 (zB _ _));obtain⟨nb,hnb⟩:=zx (decide (FX<AP/\DA+AC<DB));have HNB1:=zh hnb
     have i1:(AF:Int)<(NN:Int):=by have:=HQ.out.1;omega
     have i2:(AT:Int)<(NN:Int):=by have:=HQ.out.2.1;omega
     clear hlD ha hb hc hDA hDB hnb;go_upto_region 9 with fail;go_cut [47] from 18 to 92 (fun v47 wc=>v47=.bool nb/\Hid (Below W4.heap.size W4 wc))
     case first =>
      by_cases t1:FX<AP
      ·have u1:decide (FX<AP)=true:=decide_eq_true t1;by_cases t3:DA+AC<DB
       ·have u3:decide (DA+AC<DB)=true:=decide_eq_true t3;have HR:=zh (show nb=true by rw[HNB1.out];exact decide_eq_true ⟨t1,t3⟩)
        go_quiet (fail)
        go_wp2_with fail;go_meet;exact⟨by rw[HR.out],zh (Below.drewN' (zB _ _) nq)⟩
       ·have u3:decide (DA+AC<DB)=false:=decide_eq_false t3;have HR:=zh (show nb=false by rw[HNB1.out];exact decide_eq_false (fun h=>t3 h.2))
        go_quiet (fail)
        go_wp2_with fail;go_meet;exact⟨by rw[HR.out],zh (Below.drewN' (zB _ _) nq)⟩
      ·have u1:decide (FX<AP)=false:=decide_eq_false t1;have HR:=zh (show nb=false by rw[HNB1.out];exact decide_eq_false (fun h=>t1 h.1))
       go_quiet (fail)
       go_wp2_with fail;go_meet;exact⟨by rw[HR.out],zh (Below.drewN' (zB _ _) nq)⟩
     case rest =>
      obtain⟨rfl,HB5⟩:=hcut;obtain⟨W5,hW5⟩:=zx wc;rw[<-hW5] at HB5 ⊢;clear hW5 k0 k1 k2 k3 dA dB hfx;have HP5:=zh (HP4.out.1.below HB5.out);have HK5:=zh (HK4.out W5 HB5.out);have HB5W:=zh (HB4.out.trans (HB5.out.mono HB4.out.size));go_step;go_cut [6] from 18 to 92 (fun v6 wc=>∃(ag:Bool) (P3:List Int),v6=.bool ag/\Hid (Below Wb.heap.size Wb wc)/\Hid (wc.heap[g8]?=some (.cells #[.int .i64 (AF:Int),.int .i64 (AT:Int),.int .i64 AP,.int .i64 AC] 172 (0,0)))/\Hid (RowI wc gP P3/\PotP N q C P1 ag P3))
      case first =>
       cases nb with
       | false =>
        go_wp2_with fail;go_meet;exact⟨ag,P2,rfl,HB5W,HK5,zh ⟨HP5.out,HP4.out.2⟩⟩
       | true =>
        have hyes:=of_decide_eq_true HNB1.out.symm;obtain⟨e1,e2,e3,e4⟩:=ends_fwd (N:=N) (fl:=fl) (i:=i) (by have:=HEQ.out;omega);have hed:N.Ed fl i:=⟨by have:=HEQ.out;omega,by rw[e4];have:=HE.out;omega⟩;obtain⟨r1,r2⟩:=PotI.relax HV.out HFE.out HP4.out.2.pi hed (by rw[e1,e2,e3,<-HE.out.1,<-HE.out.2.1,<-HE.out.2.2.2.1,<-HDD.out.1,<-HDD.out.2.1];have:=hyes.2;omega)
        have hval:gt P2 (N.tl i)+N.co i=DA+AC:=by rw[e1,e3,<-HE.out.1,<-HE.out.2.2.2.1,<-HDD.out.1]
        rw[hval,e2,<-HE.out.2.1] at r1 r2;have HN9:=zh (HP4.out.2.next r1 r2);clear hyes e1 e2 e3 e4 hed r1 r2 hval;obtain⟨k0,k1,k2,k3⟩:=cells4 HK5.out;have dA:=(HP5.out.at_ (k:=AF) (by rw[HDD.out.2.2];exact HQ.out.1)).1;rw[<-HDD.out.1] at dA;obtain⟨x1,z1⟩:=HP5.out.at_ (k:=AT) (by rw[HDD.out.2.2];exact HQ.out.2.1);go_upto_region 10 with fail
        go_still_tail 12,(by kernel_rfl)
        change wpList _ _ _ _ _ (World.drew _)
        go_wp2;have HB9:=zh (HB5W.out.setCell (p:=⟨gP,AT,none⟩) HGP.out (.int .i64 (DA+AC))).drew;have HK9:=zh (show((W5.setCell ⟨gP,AT,none⟩ (.int .i64 (DA+AC))).drew).heap[g8]?=some (.cells #[.int .i64 (AF:Int),.int .i64 (AT:Int),.int .i64 AP,.int .i64 AC] 172 (0,0)) from(Below.heap_setCell _ ⟨gP,AT,none⟩ _ g8 HG4.out).trans HK5.out);have HR9:=zh (show RowI ((W5.setCell ⟨gP,AT,none⟩ (.int .i64 (DA+AC))).drew) gP (P2.set AT (DA+AC))/\PotP N q C P1 true (P2.set AT (DA+AC)) from⟨(HP5.out.set AT (DA+AC)).drew,HN9.out⟩);go_meet;exact⟨true,_,rfl,HB9,HK9,HR9⟩
      case rest =>
       obtain⟨ag3,P3,rfl,HB6,HK6,HP6⟩:=hcut;obtain⟨W6,hW6⟩:=zx wc;rw[<-hW6] at HB6 HK6 HP6 ⊢;clear hW6 HP5 HB5 HK5 HB5W HNB1 HDD HP4 w1
       have hlD:P3.length=NN:=by rw[HEQ.out.1];exact HP6.out.2.pi.len
       obtain⟨dA,-⟩:=HP6.out.1.at_ (k:=AT) (by rw[hlD];exact HQ.out.2.1);obtain⟨dB,-⟩:=HP6.out.1.at_ (k:=AF) (by rw[hlD];exact HQ.out.1);have ha:=HP6.out.2.pi.lo AT (by rw[<-HEQ.out.1];exact HQ.out.2.1);have hb:=HP6.out.2.pi.hi AT (by rw[<-HEQ.out.1];exact HQ.out.2.1);have hc:=HQ0.out.1 AT (by rw[<-HEQ.out.1];exact HQ.out.2.1);obtain⟨DA,hDA⟩:=zx (gt P3 AT);obtain⟨DB,hDB⟩:=zx (gt P3 AF);rw[<-hDA] at dA ha hb;rw[<-hDB] at dB;have HDD:=zh (show DA=gt P3 AT/\DB=gt P3 AF/\P3.length=NN from⟨hDA,hDB,hlD⟩);have w1:IntKind.i64.wrap (DA-AC)=DA-AC:=zI _ (by have:=HQ0.out.2;have:=HQ.out;omega);have hfx:=HFW.out W6 (HNW.out W6 HB6.out).1 i hlt;rw[<-HE.out.2.2.2.2] at hfx;obtain⟨k0,k1,k2,k3⟩:=cells4 (HK6.out);obtain⟨nb2,hnb⟩:=zx (decide (0<FX/\DA-AC<DB));have HNB1:=zh hnb
       have i1:(AF:Int)<(NN:Int):=by have:=HQ.out.1;omega
       have i2:(AT:Int)<(NN:Int):=by have:=HQ.out.2.1;omega
       clear hlD ha hb hc hDA hDB hnb;go_upto_region 11 with fail;go_cut [80] from 18 to 92 (fun v80 wc=>v80=.bool nb2/\Hid (Below W6.heap.size W6 wc))
       case first =>
        by_cases t1:0<FX
        ·have u1:decide (0<FX)=true:=decide_eq_true t1;by_cases t3:DA-AC<DB
         ·have u3:decide (DA-AC<DB)=true:=decide_eq_true t3;have HR:=zh (show nb2=true by rw[HNB1.out];exact decide_eq_true ⟨t1,t3⟩)
          go_quiet (fail)
          go_wp2_with fail;go_meet;exact⟨by rw[HR.out],zh (Below.drewN' (zB _ _) nq)⟩
         ·have u3:decide (DA-AC<DB)=false:=decide_eq_false t3;have HR:=zh (show nb2=false by rw[HNB1.out];exact decide_eq_false (fun h=>t3 h.2))
          go_quiet (fail)
          go_wp2_with fail;go_meet;exact⟨by rw[HR.out],zh (Below.drewN' (zB _ _) nq)⟩
        ·have u1:decide (0<FX)=false:=decide_eq_false t1;have HR:=zh (show nb2=false by rw[HNB1.out];exact decide_eq_false (fun h=>t1 h.1))
         go_quiet (fail)
         go_wp2_with fail;go_meet;exact⟨by rw[HR.out],zh (Below.drewN' (zB _ _) nq)⟩
       case rest =>
        obtain⟨rfl,HB7⟩:=hcut;obtain⟨W5,hW5⟩:=zx wc;rw[<-hW5] at HB7 ⊢;clear hW5 k0 k1 k2 k3 dA dB hfx;have HP5:=zh (HP6.out.1.below HB7.out);have HK5:=zh ((HB7.out.block g8 (zA.1 HK6.out).1).trans HK6.out);have HB5W:=zh (HB6.out.trans (HB7.out.mono HB6.out.size))
        cases nb2 with
        | false =>
         go_wp2_with fail;go_roundg (M-(i+1))
         case measure=>omega
         case rel=>exact⟨i+1,ag3,P3,by omega,rfl,rfl,by go_num,HB5W,zh ⟨HP5.out,HP6.out.2⟩⟩
        | true =>
         have hyes:=of_decide_eq_true HNB1.out.symm;obtain⟨e1,e2,e3,e4⟩:=ends_bwd (N:=N) (fl:=fl) (i:=i);have hed:N.Ed fl (i+N.arcs.length):=⟨by have:=HEQ.out;omega,by rw[e4];have:=HE.out;omega⟩;obtain⟨r1,r2⟩:=PotI.relax HV.out HFE.out HP6.out.2.pi hed (by rw[e1,e2,e3,<-HE.out.1,<-HE.out.2.1,<-HE.out.2.2.2.1,<-HDD.out.1,<-HDD.out.2.1];have:=hyes.2;omega)
         have hval:gt P3 (N.tl (i+N.arcs.length))+N.co (i+N.arcs.length)=DA-AC:=by rw[e1,e3,<-HE.out.2.1,<-HE.out.2.2.2.1,<-HDD.out.1];omega
         rw[hval,e2,<-HE.out.1] at r1 r2;have HN9:=zh (HP6.out.2.next r1 r2);clear hyes e1 e2 e3 e4 hed r1 r2 hval;obtain⟨k0,k1,k2,k3⟩:=cells4 HK5.out;have dA:=(HP5.out.at_ (k:=AT) (by rw[HDD.out.2.2];exact HQ.out.2.1)).1;rw[<-HDD.out.1] at dA;obtain⟨x1,z1⟩:=HP5.out.at_ (k:=AF) (by rw[HDD.out.2.2];exact HQ.out.1);go_upto_region 12 with fail
         go_still_tail 12,(by kernel_rfl)
         change wpList _ _ _ _ _ (World.drew _)
         go_wp2;have HB9:=zh (HB5W.out.setCell (p:=⟨gP,AF,none⟩) HGP.out (.int .i64 (DA-AC))).drew;have HK9:=zh (show((W5.setCell ⟨gP,AF,none⟩ (.int .i64 (DA-AC))).drew).heap[g8]?=some (.cells #[.int .i64 (AF:Int),.int .i64 (AT:Int),.int .i64 AP,.int .i64 AC] 172 (0,0)) from(Below.heap_setCell _ ⟨gP,AF,none⟩ _ g8 HG4.out).trans HK5.out);have HR9:=zh (show RowI ((W5.setCell ⟨gP,AF,none⟩ (.int .i64 (DA-AC))).drew) gP (P3.set AF (DA-AC))/\PotP N q C P1 true (P3.set AF (DA-AC)) from⟨(HP5.out.set AF (DA-AC)).drew,HN9.out⟩);go_roundg (M-(i+1))
         case measure=>omega
         case rel=>exact⟨i+1,true,_,by omega,rfl,rfl,by go_num,HB9,HR9⟩
    ·have HJE:=zh (show i=M by omega);go_wp2_with fail;go_roundg (cond ag ((suml P2+S0).toNat+1) 0)
     case measure =>
      have hs:=HP.out.2.yes
      cases ag with
      | true =>
       have:=hs rfl;have h0:=HP.out.2.pi.sum (fun v hv=>(HQ0.out.1 v hv).1);rw[<-HEQ.out.1,<-HS0.out] at h0;simp only[cond_true];omega
      | false=>simp only[cond_false,cond_true];omega
     case rel=>exact⟨ag,P2,rfl,rfl,HB,zh ⟨HP.out.1,HP.out.2.pi⟩⟩
namespace NetM
theorem apart_app{N:NetM}:∀(a b:List Nat),N.Apart (a++b)->N.Apart a
 | [],_,_=>trivial
 | e :: a,b,h=>⟨fun x hx=>h.1 x (List.mem_append_left _ hx),apart_app a b h.2⟩
theorem augs_snoc{N:NetM}(m:Int)(a:List Nat)(e:Nat)(fl:List Int):N.augs m (a++[e]) fl=N.aug m (N.augs m a fl) e:=by unfold augs;rw[List.foldl_append];rfl
end NetM
structure WayI (N:NetM) (fl dist by_:List Int) (ES:List Nat):Prop where
 path:N.Path by_ N.snk ES
 on:∀e∈ES,OnP N fl dist by_ e
 ap:N.Apart ES
structure WayR (N:NetM) (fl dist by_:List Int) (ES dn rs:List Nat) (x:Nat) (m:Nat):Prop where
 way:WayI N fl dist by_ ES
 app:ES=dn++rs
 path:N.Path by_ x rs
 xlt:x<N.nodes
 m0:0<m
 low:∀e∈dn,(m:Int)<=N.re fl e
theorem WayR.next{N:NetM}{fl dist by_:List Int}{ES dn:List Nat}{e:Nat}{rs:List Nat}{x m m':Nat}(h:WayR N fl dist by_ ES dn (e :: rs) x m)(hv:NetV N)(h0:0<m')(h1:m'<=m)(h2:(m':Int)<=N.re fl e):WayR N fl dist by_ ES (dn++[e]) rs (N.tl e) m' :=
 ⟨h.way,by rw[List.append_assoc];exact h.app,h.path.inv.2.2,(hv.edge ((h.way.on e (by rw[h.app];simp)).1.1)).1,h0,fun e' he=>by
  rcases List.mem_append.1 he with he | he
  ·have:=h.low e' he;omega
  ·rw[List.mem_singleton.1 he];exact h2⟩
theorem WayR.edge{N:NetM}{fl dist by_:List Int}{ES dn:List Nat}{e:Nat}{rs:List Nat}{x m:Nat}(h:WayR N fl dist by_ ES dn (e :: rs) x m)(hb:0<=gt by_ x):x≠N.src/\gt by_ x=(e:Int)/\e<2*N.arcs.length/\0<N.re fl e:=by
 obtain⟨h1,h2,h3⟩:=h.path.inv;have h4:=(h.way.on e (by rw[h.app];simp)).1;exact⟨h1,by rw[h2];omega,h4.1,h4.2⟩
theorem WayR.end{N:NetM}{fl dist by_:List Int}{ES dn:List Nat}{x m:Nat}(h:WayR N fl dist by_ ES dn [] x m):x=N.src/\ES=dn:=by
 refine⟨?_,by rw[h.app,List.append_nil]⟩;have:=h.path
 cases this with
 | nil=>rfl
theorem WayI.caps{N:NetM}{fl dist by_:List Int}{ES:List Nat}{m:Nat}(h:WayI N fl dist by_ ES)(hc:N.Caps fl)(hm:∀e∈ES,(m:Int)<=N.re fl e){dn rs:List Nat}(he:ES=dn++rs):N.Caps (N.augs m dn fl) :=
 augs_caps (by omega) dn fl hc (fun x hx=>(h.on x (by rw[he];exact List.mem_append_left _ hx)).1.1) (fun x hx=>hm x (by rw[he];exact List.mem_append_left _ hx)) (NetM.apart_app dn rs (by rw[<-he];exact h.ap))
theorem solve_any{N:NetM}(hv:NetV N)(h1:0<N.arcs.length)(k:Nat)(hk:k<=72)(vA:Value)(w:World)(hA:SlS 4 ArcK w (Bl w.heap.size) vA N.arcs) :
  Calls Tryz.prog 55 #[.agg #[.int .i64 (N.nodes:Int),.int .i64 (N.src:Int),.int .i64 (N.snk:Int),vA],.int .i64 (k:Int)] w fun e w'=>Below w.heap.size w w' /\
   (e=.returned (.tuple #[.slice none 0 0,.int .i64 0,.slice none 0 0,.int .i64 12])\/∃(fl:List Int) (g:Nat) (A:Option Addr) (n c:Nat),e=.returned (.tuple #[.slice (some ⟨g,0,none⟩) N.arcs.length N.arcs.length,.int .i64 (cst N.arcs fl),.slice A n c,.int .i64 0])/\w.heap.size<=g/\RowI w' g fl/\N.Caps fl/\∀w,NetM.wt w N.arcs fl=(k:Int)*(w N.src-w N.snk)):=by
 have hV:=fun w' hb=>nv13_any hv h1 vA w' (SlS.below arcK hA hb)
 have hDI:=fun(fl:List Int) (p:Nat->Int) (a:Nat) (hF:FlowI N fl p a) vF w' (hb:Below w.heap.size w w') hfl=>distances_any hv h1 hF vA vF w' (SlS.below arcK hA hb) hfl
 have hCO:=fun(fl:List Int) (p:Nat->Int) (a:Nat) (hF:FlowI N fl p a) vF w' (hb:Below w.heap.size w w') hfl=>ncost_any hv h1 hF.caps a hF.wt vA vF w' (SlS.below arcK hA hb) hfl
 have hPO:=fun(fl:List Int) (p:Nat->Int) (a:Nat) (hF:FlowI N fl p a) (ha:a<=72) vF w' (hb:Below w.heap.size w w') hfl=>potentials_any hv h1 hF.caps hF.feas (C:=(a:Int)*far) (fun v hn=>⟨hF.lo v hn,hF.hi v hn⟩) (by unfold far;omega) vA vF w' (SlS.below arcK hA hb) hfl
 obtain⟨A,cA,rfl,-,hmA⟩:=hA.form;obtain⟨ab,aoff,rfl,hab,hac⟩:=arcs_src hA h1;obtain⟨NN,hNN⟩:=zx N.nodes;obtain⟨SR,hSR⟩:=zx N.src;obtain⟨SK,hSK⟩:=zx N.snk;obtain⟨M,hM⟩:=zx N.arcs.length;have hn7:=hv.n7;have hn2:=hv.n2;have hsr:=hv.src;have hsk:=hv.snk;have ha25:=hv.a25;rw[<-hNN] at hn7 hn2 hsr hsk;rw[<-hSR] at hsr;rw[<-hSK] at hsk;rw[<-hM] at ha25 h1;rw[<-hM] at hac;obtain⟨gN,hgN⟩:=zx w.heap.size;obtain⟨Wb,hWb⟩:=zx (w.alloc (.cells #[.int .i64 (NN:Int),.int .i64 (SR:Int),.int .i64 (SK:Int),.slice (some ⟨ab,aoff,none⟩) M cA] 119))
 have hkb:Wb.heap[gN]?=some (.cells #[.int .i64 (NN:Int),.int .i64 (SR:Int),.int .i64 (SK:Int),.slice (some ⟨ab,aoff,none⟩) M cA] 119 (0,0)):=by rw[hWb,hgN];exact zN _ _
 have hbb:Below w.heap.size w Wb:=by rw[hWb];exact(zB _ _).alloc (zR _) _
 have hgl:gN<Wb.heap.size:=(zA.1 hkb).1;have HAW:=zh (show ∀w',Below w.heap.size w w'->∀i,i<M->w'.cell? ⟨ab,aoff+i*4,none⟩=some (.int .i64 ((N.arc i).f:Int))/\w'.cell? ⟨ab,aoff+i*4+1,none⟩=some (.int .i64 ((N.arc i).t:Int))/\w'.cell? ⟨ab,aoff+i*4+2,none⟩=some (.int .i64 (N.arc i).cap)/\w'.cell? ⟨ab,aoff+i*4+3,none⟩=some (.int .i64 (N.arc i).cost) from fun w' hb i hi=>hac i hi w' (hb.block ab hab));have HNW:=zh (show ∀w',Below Wb.heap.size Wb w'->Below w.heap.size w w'/\w'.heap[gN]?=some (.cells #[.int .i64 (NN:Int),.int .i64 (SR:Int),.int .i64 (SK:Int),.slice (some ⟨ab,aoff,none⟩) M cA] 119 (0,0)) from fun w' hb=>⟨hbb.trans (hb.mono hbb.size),(hb.block gN hgl).trans hkb⟩);have HWB:=zh (And.intro hWb hgN);have HGS:=zh (show gN<Wb.heap.size/\w.heap.size<=Wb.heap.size from⟨hgl,hbb.size⟩);have HV:=zh hv;have HEQ:=zh (show NN=N.nodes/\SR=N.src/\SK=N.snk/\M=N.arcs.length from⟨hNN,hSR,hSK,hM⟩);have HNB:=zh (show NN<=700/\2<=NN/\SR<NN/\SK<NN/\M<=2500/\0<M from⟨hn7,hn2,hsr,hsk,ha25,h1⟩);have HAR:=zh (show ∀i,i<M->(N.arc i).f<NN/\(N.arc i).t<NN/\0<=(N.arc i).cap/\(N.arc i).cap<=1000000/\0<=(N.arc i).cost/\(N.arc i).cost<=1000 from fun i hi=>by rw[hNN];exact hv.arc i (by omega));rw[<-hNN,<-hSR,<-hSK,<-hM];clear hA h1 hNN hSR hSK hM hab hac hmA hgN hWb hkb hbb hgl hv hn7 hn2 hsr hsk ha25;rw[<-HEQ.out.1,<-HEQ.out.2.1,<-HEQ.out.2.2.1,<-HEQ.out.2.2.2] at hV hDI hCO hPO;have HVV:=zh hV;have HDI:=zh hDI;have HCO:=zh hCO;have HPO:=zh hPO;have HK:=zh hk;clear hV hDI hCO hPO hk;have hmk:=mk_ints M (by have:=HNB.out;omega);go_enter Tryz.func55,Tryz.ntmps55;go_upto_region 1 with fail;rw[<-HWB.out.1,<-HWB.out.2];obtain⟨c0,c1,c2,c3⟩:=cells4 (HNW.out Wb (zB _ _)).2;have t1:decide ((k:Int)<0)=false:=decide_eq_false (by omega);go_wp2_with fail;refine(HVV.out Wb (HNW.out Wb (zB _ _)).1).mono ?_;rintro e w2 ⟨rfl,hb2⟩;have HB2:=zh hb2;clear hb2 c0 c1 c2 c3;obtain⟨c0,c1,c2,c3⟩:=cells4 (HNW.out w2 HB2.out).2;go_upto_region 4 with fail;obtain⟨W2,hW2⟩:=zx (w2.alloc (.cells (Array.replicate M (.int .i64 0)) 3));obtain⟨gL,hgL⟩:=zx w2.heap.size;rw[<-hW2,<-hgL]
 have hr2:RowI W2 gL (List.replicate M 0):=by rw[hW2,hgL];exact RowI.new _ _ _
 have hb2:Below Wb.heap.size Wb W2:=by rw[hW2];exact HB2.out.alloc HB2.out.size _
 have HGL:=zh (show Wb.heap.size<=gL from by rw[hgL];exact HB2.out.size);have HR2:=zh hr2;have HBW:=zh hb2;have hfs:=FlowI.start HV.out;rw[<-HEQ.out.2.2.2] at hfs;have HFS:=zh hfs;clear hmk hW2 hgL hr2 hb2 c0 c1 c2 c3 hfs t1;go_wp2_with fail;go_loopg [9] k (fun z v9 wr=>∃(a:Nat) (fl:List Int) (p:Nat->Int),a<=k/\z=k-a/\v9=.int .i64 ((k-a:Nat):Int)/\Hid (Below Wb.heap.size Wb wr)/\Hid (RowI wr gL fl/\FlowI N fl p a))
 case atStart=>exact⟨0,_,_,by omega,rfl,by rw[Nat.sub_zero],HBW,zh ⟨HR2.out,HFS.out⟩⟩
 case round =>
  obtain⟨a,fl,p,hak,rfl,rfl,HB,HF⟩:=hrel;obtain⟨W3,hW3⟩:=zx wr;rw[<-hW3] at HB HF ⊢;clear hW3;obtain⟨c0,c1,c2,c3⟩:=cells4 (HNW.out W3 HB.out).2
  have hfl:IntS W3 (Bl W3.heap.size) (.slice (some ⟨gL,0,none⟩) fl.length fl.length) fl:=HF.out.1.intS HF.out.1.lt (fun x hx=>by
   obtain⟨i,hi,rfl⟩:=List.mem_iff_getElem.1 hx;have h1:=HF.out.2.caps.2 i (by rw[<-HF.out.2.caps.1];exact hi);have h2:=HV.out.arc i (by rw[<-HF.out.2.caps.1];exact hi);rw[gt_get (zG hi)] at h1
   unfold I64;omega) (by rw[HF.out.2.caps.1,<-HEQ.out.2.2.2];have:=HNB.out;unfold maxLen;omega)
  rw[HF.out.2.caps.1,<-HEQ.out.2.2.2] at hfl;have HFL:=zh hfl;have HLM:=zh (show fl.length=M by rw[HF.out.2.caps.1];exact HEQ.out.2.2.2.symm);clear hfl;by_cases hlt:a<k
  ·have i1:0<k-a:=by omega
   have i2:(0:Int)<((k-a:Nat):Int):=by omega
   have i7:(NN:Int)<=700:=by have:=HNB.out;omega
   have i25:(M:Int)<=2500:=by have:=HNB.out;omega
   obtain⟨LF,hLF⟩:=zx (k-a);rw[<-hLF] at i1 i2 ⊢;have HLF:=zh hLF;clear hLF;go_wp2_with fail;refine(HDI.out fl p a HF.out.2 _ W3 (HNW.out W3 HB.out).1 HFL.out).mono ?_;rintro e w5 ⟨gD,gB,dist,by_,rfl,hg1,hg2,hr1,hr2,hde,hb5⟩;have HB5:=zh (HB.out.trans (hb5.mono HB.out.size));have HF5:=zh (HF.out.1.below hb5);have HR5:=zh (And.intro hr1 hr2);have HDE:=zh hde;have HG5:=zh (show gD≠gL/\gB≠gL from by have:=HF.out.1.lt;omega);clear hg1 hg2 hr1 hr2 hde hb5 c0 c1 c2 c3;obtain⟨c0,c1,c2,c3⟩:=cells4 (HNW.out w5 HB5.out).2
   have hlD:dist.length=NN:=by rw[HEQ.out.1];exact HDE.out.ld
   have hlB:by_.length=NN:=by rw[HEQ.out.1];exact HDE.out.lb
   have HLN:=zh (And.intro hlD hlB)
   have i3:(SK:Int)<(NN:Int):=by have:=HNB.out;omega
   obtain⟨d1,-⟩:=HR5.out.1.at_ (k:=SK) (by rw[hlD];have:=HNB.out;omega);have hds:=HDE.out.hi SK (by rw[<-HEQ.out.1];have:=HNB.out;omega);obtain⟨DS,hDS⟩:=zx (gt dist SK);rw[<-hDS] at d1 hds;clear hlD hlB;by_cases hfar:DS=far
   ·have q1:(DS==(1099511627776:Int))=true:=beq_iff_eq.2 hfar;have HBX:=zh (HNW.out w5 HB5.out).1;clear hfar hds hDS;go_wp2_with fail;exact bodyPost_ret (v:=.tuple #[.slice none 0 0,.int .i64 0,.slice none 0 0,.int .i64 12]) (by simp[results,Tryz.results55]) rfl ⟨HBX.out,.inl rfl⟩
   ·have q1:(DS==(1099511627776:Int))=false:=beq_eq_false_iff_ne.2 hfar
    have hsl:gt dist N.snk<far:=by rw[<-HEQ.out.2.2.1,<-hDS];omega
    obtain⟨ES,hES⟩:=HDE.out.pa N.snk HV.out.snk hsl;have HWI:=zh (show WayI N fl dist by_ ES from⟨hES,fun e he=>(HDE.out.path HV.out hES HV.out.snk hsl e he).1,HDE.out.apart HV.out hES HV.out.snk hsl⟩);have HSL:=zh hsl;clear hfar hds hDS hsl hES;go_wp2_with fail;have HW0:=zh (show WayR N fl dist by_ ES [] ES SK LF/\LF<=LF from⟨⟨HWI.out,rfl,by rw[HEQ.out.2.2.1];exact HWI.out.path,by rw[HEQ.out.2.2.1];exact HV.out.snk,i1,fun e he=>by cases he⟩,zR _⟩);have HL72:=zh (show LF<=72 from by have:=HLF.out;have:=HK.out;omega);clear c0 c1 c2 c3 d1 q1;go_loopg [12,13] ES.length (fun z v12 v13 wr=>∃(dn rs:List Nat) (x m:Nat),z=rs.length/\v12=.int .i64 (m:Int)/\v13=.int .i64 (x:Int)/\Hid (Below w5.heap.size w5 wr)/\Hid (WayR N fl dist by_ ES dn rs x m/\m<=LF))
    case atStart=>exact⟨[],ES,SK,LF,rfl,rfl,rfl,zh (zB _ _),HW0⟩
    case round =>
     obtain⟨dn,rs,x,m,rfl,rfl,rfl,HBr,HW⟩:=hrel;obtain⟨W6,hW6⟩:=zx wr;rw[<-hW6] at HBr ⊢;clear hW6;have HB6:=zh (HB5.out.trans (HBr.out.mono HB5.out.size));obtain⟨c0,c1,c2,c3⟩:=cells4 (HNW.out W6 HB6.out).2
     have hxl:x<NN:=by rw[HEQ.out.1];exact HW.out.1.xlt
     have j1:(x:Int)<(NN:Int):=by omega
     have HXL:=zh hxl;clear hxl
     cases rs with
     | nil =>
      have hx:=HW.out.1.end.1;rw[<-HEQ.out.2.1] at hx
      have t1:((x:Int) != (SR:Int))=false:=by rw[hx];simp
      have n1:(x != SR)=false:=by rw[hx];simp
      have HX:=zh hx;clear hx;go_wp2_with fail;clear t1 n1 c0 c1 c2 c3;have HES:=zh HW.out.1.end.2;have HWY:=zh HW.out.1.way;have HLO:=zh (show(∀e∈ES,(m:Int)<=N.re fl e)/\0<m/\m<=LF from⟨by rw[HW.out.1.end.2];exact HW.out.1.low,HW.out.1.m0,HW.out.2⟩);have HRL:=zh (show RowI W6 gL (N.augs (m:Int) [] fl)/\RowI W6 gB by_/\WayR N fl dist by_ ES [] ES SK m from⟨HF5.out.below HBr.out,HR5.out.2.below HBr.out,⟨HW.out.1.way,rfl,by rw[HEQ.out.2.2.1];exact HW.out.1.way.path,by rw[HEQ.out.2.2.1];exact HV.out.snk,HW.out.1.m0,fun e he=>by cases he⟩⟩)
      have m72:(m:Int)<=72:=by have:=HLO.out.2.2;have:=HL72.out;omega
      clear HW;obtain⟨x0,hx0⟩:=zx x;go_loopg [15] ES.length (fun z v15 wr=>∃(dn rs:List Nat) (x:Nat),z=rs.length/\v15=.int .i64 (x:Int)/\Hid (Below Wb.heap.size Wb wr)/\Hid (RowI wr gL (N.augs (m:Int) dn fl)/\RowI wr gB by_/\WayR N fl dist by_ ES dn rs x m))
      case atStart=>exact⟨[],ES,SK,rfl,rfl,HB6,HRL⟩
      case round =>
       obtain⟨dn2,rs2,x2,rfl,rfl,HB7,HQ⟩:=hrel;obtain⟨W7,hW7⟩:=zx wr;rw[<-hW7] at HB7 HQ ⊢;clear hW7 hx0;obtain⟨c0,c1,c2,c3⟩:=cells4 (HNW.out W7 HB7.out).2
       have hxl:x2<NN:=by rw[HEQ.out.1];exact HQ.out.2.2.xlt
       have j1:(x2:Int)<(NN:Int):=by omega
       have HXL2:=zh hxl;clear hxl
       cases rs2 with
       | nil =>
        have hx:=HQ.out.2.2.end.1;rw[<-HEQ.out.2.1] at hx
        have t1:((x2:Int) != (SR:Int))=false:=by rw[hx];simp
        have n1:(x2 != SR)=false:=by rw[hx];simp
        have w2:IntKind.i64.wrap ((LF:Int)-(m:Int))=((LF-m:Nat):Int):=by rw[show(LF:Int)-(m:Int)=((LF-m:Nat):Int) by have:=HLO.out;omega];exact zI _ (by have:=HL72.out;omega)
        have HX2:=zh hx;clear hx;go_wp2_with fail;go_roundg (k-(a+m))
        case measure=>have:=HLO.out;have:=HLF.out;omega
        case rel =>
         have hd2:=HQ.out.2.2.end.2;refine⟨a+m,N.augs (m:Int) ES fl,nextP dist p,by have:=HLO.out;have:=HLF.out;omega,rfl,?_,HB7,zh ⟨by rw[hd2];exact HQ.out.1,?_⟩⟩
         ·first | (rw[w2];congr 2;have:=HLO.out;have:=HLF.out;omega) | (congr 2;have:=HLO.out;have:=HLF.out;omega)
         ·exact HF.out.2.step HV.out HDE.out HWY.out.path HSL.out HLO.out.2.1 (HWY.out.caps HF.out.2.caps HLO.out.1 (dn:=ES) (rs:=[]) (by rw[List.append_nil]))
       | cons e rs =>
        obtain⟨hx,hbx,he2,hre⟩:=HQ.out.2.2.edge (HDE.out.b0 x2 HQ.out.2.2.xlt).1;rw[<-HEQ.out.2.1] at hx;have t1:((x2:Int) != (SR:Int))=true:=bne_iff_ne.2 (by omega);have n1:(x2 != SR)=true:=bne_iff_ne.2 hx;obtain⟨d1,-⟩:=HQ.out.2.1.at_ (k:=x2) (by rw[HLN.out.2];exact HXL2.out);rw[hbx] at d1;have happ:=HQ.out.2.2.app;have hc1:=HWY.out.caps HF.out.2.caps HLO.out.1 happ;have hc2:=HWY.out.caps HF.out.2.caps HLO.out.1 (dn:=dn2++[e]) (rs:=rs) (by rw[List.append_assoc];exact happ);have hme:=HLO.out.1 e (by rw[happ];simp);have hsn:=NetM.augs_snoc (N:=N) (m:Int) dn2 e fl;rw[hsn] at hc2;have HE0:=zh (show e<2*M from by rw[HEQ.out.2.2.2];exact he2)
        have hln:(N.augs (m:Int) dn2 fl).length=M:=by rw[hc1.1];exact HEQ.out.2.2.2.symm
        have HSN:=zh hsn;clear hx hbx he2 hre happ hsn;by_cases hl:e<M
        ·have l1:(e:Int)<(M:Int):=by omega
         obtain⟨a0,a1,a2,a3⟩:=HAW.out W7 (HNW.out W7 HB7.out).1 e hl;obtain⟨q1,q2,q3,q4,q5,q6⟩:=HAR.out e hl;obtain⟨x1,z1⟩:=HQ.out.1.at_ (k:=e) (by rw[hln];exact hl);obtain⟨e1,e2,e3,e4⟩:=ends_fwd (N:=N) (fl:=fl) (i:=e) (by rw[<-HEQ.out.2.2.2];exact hl);have hb1:=hc1.2 e (by rw[<-HEQ.out.2.2.2];exact hl)
         have hau:N.aug (m:Int) (N.augs (m:Int) dn2 fl) e=(N.augs (m:Int) dn2 fl).set e (gt (N.augs (m:Int) dn2 fl) e+m):=by unfold NetM.aug;rw[if_pos (by rw[<-HEQ.out.2.2.2];exact hl)]
         have hnx:WayR N fl dist by_ ES (dn2++[e]) rs (N.arc e).f m:=by rw[<-e1];exact HQ.out.2.2.next HV.out HLO.out.2.1 (zR _) hme
         obtain⟨GX,hGX⟩:=zx (gt (N.augs (m:Int) dn2 fl) e);obtain⟨AF,hAF⟩:=zx ((N.arc e).f);rw[<-hGX] at x1 hau hb1;rw[<-hAF] at a0 q1 hnx;have w1:IntKind.i64.wrap (GX+(m:Int))=GX+(m:Int):=zI _ (by omega);have w2:wrap64 (GX+(m:Int))=GX+(m:Int):=IntWalk.wrap64_in _ (by omega);have hr8:=HQ.out.1.set e (GX+m);rw[<-hau,<-HSN.out] at hr8;have HR8:=zh (show RowI (W7.setCell ⟨gL,e,none⟩ (.int .i64 (GX+m))) gL (N.augs (m:Int) (dn2++[e]) fl)/\RowI (W7.setCell ⟨gL,e,none⟩ (.int .i64 (GX+m))) gB by_/\WayR N fl dist by_ ES (dn2++[e]) rs AF m from⟨hr8,HQ.out.2.1.other HG5.out.2 e _,hnx⟩);have HB8:=zh (HB7.out.setCell (p:=⟨gL,e,none⟩) HGL.out (.int .i64 (GX+m)));have b4:=HAW.out (W7.setCell ⟨gL,e,none⟩ (.int .i64 (GX+m))) (HNW.out _ HB8.out).1 e hl;obtain⟨b0,-⟩:=b4;rw[<-hAF] at b0;have b3:=(cells4 (HNW.out _ HB8.out).2).2.2.2;obtain⟨W8,hW8⟩:=zx (W7.setCell ⟨gL,e,none⟩ (.int .i64 (GX+m)));rw[<-hW8] at HR8 HB8 b0 b3;clear hc1 hc2 hme hln e1 e2 e3 e4 hb1 hau hnx hGX hAF q1 q2 q3 q4 q5 q6 hr8 a0 a1 a2 a3 hl;go_upto_region 21 with fail;rw[<-hW8];clear hW8 x1 z1 c0 c1 c2 c3 d1;go_wp2_with fail;go_roundg rs.length
         case measure=>simp
         case rel=>exact⟨dn2++[e],rs,AF,rfl,rfl,HB8,HR8⟩
        ·obtain⟨b,hb⟩:∃b,e=b+M:=⟨e-M,by omega⟩
         have hbM:b<M:=by have:=HE0.out;omega
         have l1:¬(e:Int)<(M:Int):=by omega
         have l2:decide (e<M)=false:=decide_eq_false hl;obtain⟨q1,q2,q3,q4,q5,q6⟩:=HAR.out b hbM;obtain⟨x1,z1⟩:=HQ.out.1.at_ (k:=b) (by rw[hln];exact hbM);obtain⟨e1,e2,e3,e4⟩:=ends_bwd (N:=N) (fl:=fl) (i:=b);rw[<-HEQ.out.2.2.2,<-hb] at e1 e2 e3 e4;have hb1:=hc1.2 b (by rw[<-HEQ.out.2.2.2];exact hbM)
         have heb:e-N.arcs.length=b:=by rw[<-HEQ.out.2.2.2];omega
         have hau:N.aug (m:Int) (N.augs (m:Int) dn2 fl) e=(N.augs (m:Int) dn2 fl).set b (gt (N.augs (m:Int) dn2 fl) b-m):=by unfold NetM.aug;rw[if_neg (by rw[<-HEQ.out.2.2.2];exact hl),heb]
         have hnx:WayR N fl dist by_ ES (dn2++[e]) rs (N.arc b).t m:=by rw[<-e1];exact HQ.out.2.2.next HV.out HLO.out.2.1 (zR _) hme
         obtain⟨GX,hGX⟩:=zx (gt (N.augs (m:Int) dn2 fl) b);obtain⟨AT,hAT⟩:=zx ((N.arc b).t);rw[<-hGX] at x1 hau hb1;rw[<-hAT] at q2 hnx;have w1:IntKind.i64.wrap (GX-(m:Int))=GX-(m:Int):=zI _ (by omega)
         have w2:IntKind.i64.wrap ((e:Int)-(M:Int))=(b:Int):=by rw[show(e:Int)-(M:Int)=(b:Int) by omega];exact zI _ (by omega)
         have w3:wrap64 ((e:Int)-(M:Int))=(b:Int):=by rw[show(e:Int)-(M:Int)=(b:Int) by omega];exact IntWalk.wrap64_in _ (by omega)
         have l3:(b:Int)<(M:Int):=by omega
         have hr8:=HQ.out.1.set b (GX-m);rw[<-hau,<-HSN.out] at hr8;have HR8:=zh (show RowI (W7.setCell ⟨gL,b,none⟩ (.int .i64 (GX-m))).drew gL (N.augs (m:Int) (dn2++[e]) fl)/\RowI (W7.setCell ⟨gL,b,none⟩ (.int .i64 (GX-m))).drew gB by_/\WayR N fl dist by_ ES (dn2++[e]) rs AT m from⟨hr8,HQ.out.2.1.other HG5.out.2 b _,hnx⟩);have HB8:=zh (HB7.out.setCell (p:=⟨gL,b,none⟩) HGL.out (.int .i64 (GX-m))).drew;have b4:=HAW.out (W7.setCell ⟨gL,b,none⟩ (.int .i64 (GX-m))).drew (HNW.out _ HB8.out).1 b hbM;obtain⟨-,b1,-⟩:=b4;rw[<-hAT] at b1;have b3:=(cells4 (HNW.out _ HB8.out).2).2.2.2;obtain⟨W8,hW8⟩:=zx ((W7.setCell ⟨gL,b,none⟩ (.int .i64 (GX-m))).drew);rw[<-hW8] at HR8 HB8 b1 b3;have HBE:=zh hb;clear hc1 hc2 hme hln e1 e2 e3 e4 hb1 heb hau hnx hGX hAT q1 q2 q3 q4 q5 q6 hr8 hb hl;go_upto_region 22 with fail
         go_still_tail 17,(by kernel_rfl)
         change wpList _ _ _ _ _ (World.drew _)
         go_upto_region 23 with fail;rw[<-hW8];clear hW8 x1 z1 c0 c1 c2 c3 d1;go_wp2_with fail;go_roundg rs.length
         case measure=>simp
         case rel=>exact⟨dn2++[e],rs,AT,rfl,rfl,HB8,HR8⟩
     | cons e rs =>
      obtain⟨hx,hbx,he2,hre⟩:=HW.out.1.edge (HDE.out.b0 x HW.out.1.xlt).1;rw[<-HEQ.out.2.1] at hx;have t1:((x:Int) != (SR:Int))=true:=bne_iff_ne.2 (by omega);have n1:(x != SR)=true:=bne_iff_ne.2 hx;obtain⟨d1,-⟩:=(HR5.out.2.below HBr.out).at_ (k:=x) (by rw[HLN.out.2];exact HXL.out);rw[hbx] at d1;have HE0:=zh (show e<2*M/\0<N.re fl e from⟨by rw[HEQ.out.2.2.2];exact he2,hre⟩);clear hx hbx he2 hre;by_cases hl:e<M
      ·have l1:(e:Int)<(M:Int):=by omega
       obtain⟨a0,a1,a2,a3⟩:=HAW.out W6 (HNW.out W6 HB6.out).1 e hl;obtain⟨q1,q2,q3,q4,q5,q6⟩:=HAR.out e hl;obtain⟨x1,-⟩:=(HF5.out.below HBr.out).at_ (k:=e) (by rw[HLM.out];exact hl);have hcc:=HF.out.2.caps.2 e (by rw[<-HEQ.out.2.2.2];exact hl);obtain⟨e1,e2,e3,e4⟩:=ends_fwd (N:=N) (fl:=fl) (i:=e) (by rw[<-HEQ.out.2.2.2];exact hl);have hre:=HE0.out.2;rw[e4] at hre;obtain⟨AF,hAF⟩:=zx ((N.arc e).f);obtain⟨AP,hAP⟩:=zx ((N.arc e).cap);obtain⟨FX,hFX⟩:=zx (gt fl e);rw[<-hAF] at a0 e1 q1;rw[<-hAP] at a2 hcc hre q3 q4 e4;rw[<-hFX] at x1 hcc hre e4;obtain⟨RX,hRX⟩:∃r:Nat,AP-FX=(r:Int):=⟨(AP-FX).toNat,by omega⟩
       have w1:IntKind.i64.wrap (AP-FX)=(RX:Int):=by rw[<-hRX];exact zI _ (by omega)
       obtain⟨m',hm'⟩:=zx (min m RX)
       have hmr:0<m'/\m'<=m/\(m':Int)<=N.re fl e:=by
        have:=HW.out.1.m0;rw[e4];omega
       have HN:=zh (show WayR N fl dist by_ ES (dn++[e]) rs AF m'/\m'<=LF from⟨by rw[<-e1];exact HW.out.1.next HV.out hmr.1 hmr.2.1 hmr.2.2,by have:=HW.out.2;omega⟩)
       have mi:(if RX<m then(RX:Int) else(m:Int))=(m':Int):=by rw[hm'];split <;> omega
       have mi2:min (m:Int) (RX:Int)=(m':Int):=by rw[hm'];omega
       have HMI:=zh mi;clear hcc e1 e2 e3 e4 hre hAF hAP hFX hRX q1 q2 q3 q4 q5 q6 hmr hm' a1 a3;go_upto_region 14 with fail
       go_quiet (fail)
       go_wp2_with fail;go_roundg rs.length
       case measure=>simp
       case rel=>exact⟨dn++[e],rs,AF,m',rfl,by first | rfl | rw[HMI.out],rfl,zh (Below.drewN' HBr.out nq),HN⟩
      ·obtain⟨b,hb⟩:∃b,e=b+M:=⟨e-M,by omega⟩
       have hbM:b<M:=by have:=HE0.out.1;omega
       have l1:¬(e:Int)<(M:Int):=by omega
       have l2:decide (e<M)=false:=decide_eq_false hl;obtain⟨a0,a1,a2,a3⟩:=HAW.out W6 (HNW.out W6 HB6.out).1 b hbM;obtain⟨q1,q2,q3,q4,q5,q6⟩:=HAR.out b hbM;obtain⟨x1,-⟩:=(HF5.out.below HBr.out).at_ (k:=b) (by rw[HLM.out];exact hbM);obtain⟨e1,e2,e3,e4⟩:=ends_bwd (N:=N) (fl:=fl) (i:=b);rw[<-HEQ.out.2.2.2,<-hb] at e1 e2 e3 e4;have hcc:=HF.out.2.caps.2 b (by rw[<-HEQ.out.2.2.2];exact hbM);have hre:=HE0.out.2;rw[e4] at hre;obtain⟨AT,hAT⟩:=zx ((N.arc b).t);obtain⟨FX,hFX⟩:=zx (gt fl b);rw[<-hAT] at a1 e1 q2;rw[<-hFX] at x1 hcc hre e4;obtain⟨RX,hRX⟩:∃r:Nat,FX=(r:Int):=⟨FX.toNat,by omega⟩;rw[hRX] at x1 e4
       have w1:IntKind.i64.wrap ((e:Int)-(M:Int))=(b:Int):=by rw[show(e:Int)-(M:Int)=(b:Int) by omega];exact zI _ (by omega)
       have l3:(b:Int)<(M:Int):=by omega
       obtain⟨m',hm'⟩:=zx (min m RX)
       have hmr:0<m'/\m'<=m/\(m':Int)<=N.re fl e:=by
        have:=HW.out.1.m0;rw[e4];omega
       have HN:=zh (show WayR N fl dist by_ ES (dn++[e]) rs AT m'/\m'<=LF from⟨by rw[<-e1];exact HW.out.1.next HV.out hmr.1 hmr.2.1 hmr.2.2,by have:=HW.out.2;omega⟩)
       have mi:(if RX<m then(RX:Int) else(m:Int))=(m':Int):=by rw[hm'];split <;> omega
       have mi2:min (m:Int) (RX:Int)=(m':Int):=by rw[hm'];omega
       have HMI:=zh mi;have HBE:=zh hb;clear hcc e1 e2 e3 e4 hre hAT hFX hRX q1 q2 q3 q4 q5 q6 hmr hm' a0 a2 a3 hb;go_upto_region 15 with fail
       go_quiet (fail)
       go_wp2_with fail;go_roundg rs.length
       case measure=>simp
       case rel=>exact⟨dn++[e],rs,AT,m',rfl,by first | rfl | rw[HMI.out],rfl,zh (Below.drewN' HBr.out nq),HN⟩
  ·have HAK:=zh (show a=k by omega)
   have h0:k-a=0:=by omega
   rw[h0];have HBX:=zh (HNW.out W3 HB.out).1;clear h0;go_wp2_with fail;refine(HCO.out fl p a HF.out.2 _ W3 HBX.out HFL.out).mono ?_;rintro e w5 ⟨rfl,hb5⟩;have HB5:=zh (HB.out.trans (hb5.mono HB.out.size));have HFL5:=zh ((HFL.out.keep (kept_below hb5)).mono (Bl.mono hb5.size));have HF5:=zh (HF.out.1.below hb5);clear hb5 c0 c1 c2 c3;obtain⟨c0,c1,c2,c3⟩:=cells4 (HNW.out w5 HB5.out).2;go_wp2_with fail;refine(HPO.out fl p a HF.out.2 (by have:=HK.out;omega) _ w5 (HNW.out w5 HB5.out).1 HFL5.out).mono ?_;rintro e w6 ⟨A6,n6,k6,rfl,hb6⟩;have HB6:=zh (HB5.out.trans (hb6.mono HB5.out.size));have HF6:=zh (HF5.out.below hb6);clear hb6 c0 c1 c2 c3;go_wp2_with fail;have hw:=HF.out.2.wt;rw[HAK.out,<-HEQ.out.2.1,<-HEQ.out.2.2.1] at hw;exact bodyPost_ret (v:=.tuple #[.slice (some ⟨gL,0,none⟩) M M,.int .i64 (cst N.arcs fl),.slice A6 n6 k6,.int .i64 0]) (by simp[results,Tryz.results55]) rfl ⟨(HNW.out w6 HB6.out).1,.inr ⟨fl,gL,A6,n6,k6,rfl,by have:=HGL.out;have:=HGS.out;omega,HF6.out,HF.out.2.caps,hw⟩⟩
end Go.Proofs.YtgfaieppacabjaaGreat
