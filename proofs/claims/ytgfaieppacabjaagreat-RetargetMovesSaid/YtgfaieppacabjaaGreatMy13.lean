/- A made fleet is valid: the program's Validate, walked. -/
import Derived.Test.YtgfaieppacabjaaGreatMy12
set_option linter.unusedSectionVars false
set_option maxRecDepth 100000
set_option maxHeartbeats 12800000
namespace Go.Proofs.YtgfaieppacabjaaGreat
open Go.RowKit
set_option linter.unusedVariables false
set_option linter.unusedSimpArgs false
theorem step_sl1{w:World}{ops:Array Oper}{rest:List Oper}{o:Oper}{a:Act}{Q:Exit->Act->World->Prop}(hg:o.guard=none)(s:Operand)(hop:o.op=Op.slice 30 s (some (.const (.int .i64 1))) none none)(b off M cc:Nat)(hs:a.eval s=.slice (some ⟨b,off,none⟩) (M+1) (cc+1))(hM:M<=cc)
  (hK:∀AP,(cc≠0->AP=some ⟨b,off+7,none⟩)->wpList Tryz.prog ops Q rest (a.put o.dst (.slice AP M cc)) w):wpList Tryz.prog ops Q (o :: rest) a w:=by
 refine wpList_plain hg fun K' hK'=>?_
 unfold Oper.wp
 have j1:(1:Int)<=(M:Int)+1:=by omega
 have j2:(M:Int)+1<=(cc:Int)+1:=by omega
 simp[execOp,hop,hs,Result.andThen];rw[show a.eval (Operand.const (Value.int IntKind.i64 1))=.int .i64 1 from rfl];by_cases hcz:cc=0
 ·subst hcz
  obtain rfl:M=0:=by omega
  go_simp;exact hK' _ _ (hK _ (fun h=>absurd rfl h))
 ·go_simp;exact hK' _ _ (hK _ (fun _=>rfl))
theorem below_setCellsV{B b:Nat}{a:World}(hb:B<=b):∀(vs:List Value) (o:Nat) (w:World),Below B a w->Below B a (w.setCells b o vs)
 | [],_,_,h=>h
 | v :: r,o,w,h=>by
  rw[World.setCells];exact below_setCellsV hb r (o+1) _ (h.setCell hb v)
theorem there_new{w:World}{b:Nat}{cs:Array Value}{T:TypeId}{n:Nat}(h:w.heap[b]?=some (.cells cs T (0,0)))(hn:n<=cs.size):w.there b 0 n:=fun j hj=>by
 rw[Nat.zero_add];exact⟨by rw[cell_of_row _ _ _ _ _ _ h,Array.getElem?_eq_getElem (by omega)];rfl,frozen_of_row _ _ _ _ _ h⟩
theorem range_same{w w':World}{b o:Nat}{cs:List Value}(h:w.rangeAt b o cs)(e:w'.heap[b]?=w.heap[b]?):w'.rangeAt b o cs:=fun j v hv=>(World.cell?_of_block (w:=w) (a:=⟨b,o+j,none⟩) e).trans (h j v hv)
theorem own_keptV{w w3 w5:World}{v:Value}{l:List ByteArray}{g B:Nat}{e:TypeId}(hg:w3.grownBy w5 v.ownBlock)(ho:w.ownsRow B e 1 v l.length (l.map Value.string))(hgs:g=w.heap.size)(hlt:g<w3.heap.size):w5.heap[g]?=w3.heap[g]?:=by
 subst hgs;refine hg.block _ hlt (fun e=>?_);have:=(World.ownsRow.lt ho _ e.symm).2;omega
theorem wpList_load_midW{ops:Array Oper}{rest:List Oper}{op:Oper}{a:Act}{w:World}{Q:Exit->Act->World->Prop}(hw:Region.wanted op (yielded ops a.tmps)=true)(ty:TypeId)(x:Operand)(ho:op.op=.load ty x)
  (b o:Nat) (hx:a.eval x=.pointer (some ⟨b,o,none⟩)) (cs:List Value) (d:TypeDesc) (hc:w.rangeAt b o cs)
  (hu:Tryz.prog.underlying ty=some d) (hd:d.isRow=true) (hi:(Tryz.prog.info? ty).map (·.size)=some cs.length)
  (h:wpList Tryz.prog ops Q rest (a.put op.dst (.agg cs.toArray)) w):wpList Tryz.prog ops Q (op :: rest) a w :=
 wpList_step fun K hK=>by
  rw[if_pos hw];exact wp_load_mid ty x ho b o hx cs d hc hu hd hi (hK _ _ h)
theorem uniq_own{w w':World}{base:Nat}{v:Value}{l l':List ByteArray}(h:OwnS w base v l)(e:l=l')(hb:Below w.heap.size w w')(hl:∀s∈l',LowN s)(hd:l'.Nodup)(hn:l'.length<=1000) :
  Calls Tryz.prog 46 #[v] w' fun e w2=>e=.returned (.bool true)/\Below w'.heap.size w' w2:=by
 subst e;exact funique_any v l w' ((h.below hb).slS (fun s hs=>by have:=(hl s hs).2.1;unfold maxLen;omega)) hl hd hn
theorem take_more{α:Type}{l:List α}{j:Nat}{x:α}(h:l[j]?=some x):l.take (j+1)=l.take j++[x]:=by
 obtain⟨h1,h2⟩:=zL.1 h;rw[List.take_succ_eq_append_getElem h1,h2]
theorem nodeN_dom{F:FltM}{t:Nat}{x:DomM}(h:F.doms[t+1]?=some x):(nodeN F)[t]?=some x.name:=by
 have:=(zL.1 h).1;unfold nodeN;rw[List.getElem?_append_left (by simp;omega),List.getElem?_map,List.getElem?_drop,Nat.add_comm 1 t,h];rfl
theorem nodeN_dve{F:FltM}{t M:Nat}{x:DveM}(hM:M+1=F.doms.length)(h:F.dves[t]?=some x):(nodeN F)[M+t]?=some x.name:=by
 unfold nodeN;rw[List.getElem?_append_right (by simp;omega),List.getElem?_map,show M+t-((F.doms.drop 1).map (·.name)).length=t by simp;omega,h];rfl
theorem map_name{α:Type}{l:List α}{f:α->ByteArray}{t:Nat}{x:α}(h:l[t]?=some x):(l.map f)[t]?=some (f x):=by rw[List.getElem?_map,h];rfl
theorem cells3v{W:World}{g:Nat}{a b c:Value}{t:TypeId}(h:W.heap[g]?=some (.cells #[a,b,c] t (0,0))):W.cell? ⟨g,0,none⟩=some a/\W.cell? ⟨g,1,none⟩=some b/\W.cell? ⟨g,2,none⟩=some c:=by
 refine⟨?_,?_,?_⟩ <;> (rw[cell_of_row _ _ _ _ _ _ h];rfl)
theorem cells2{W:World}{g:Nat}{a b:Value}{t:TypeId}(h:W.heap[g]?=some (.cells #[a,b] t (0,0))):W.cell? ⟨g,0,none⟩=some a/\W.cell? ⟨g,1,none⟩=some b:=by
 refine⟨?_,?_⟩ <;> (rw[cell_of_row _ _ _ _ _ _ h];rfl)
theorem three_at{cs:List Value}{a b c:Value}{w:World}{p o:Nat}(h:∀i c,cs[i]?=some c->w.cell? ⟨p,o+i,none⟩=some c)(k:cs=[a,b,c]) :
  w.cell? ⟨p,o,none⟩=some a/\w.cell? ⟨p,o+1,none⟩=some b/\w.cell? ⟨p,o+2,none⟩=some c:=by
 subst k;exact⟨h 0 _ rfl,h 1 _ rfl,h 2 _ rfl⟩
theorem two_at{cs:List Value}{a b:Value}{w:World}{p o:Nat}(h:∀i c,cs[i]?=some c->w.cell? ⟨p,o+i,none⟩=some c)(k:cs=[a,b]) :
  w.cell? ⟨p,o,none⟩=some a/\w.cell? ⟨p,o+1,none⟩=some b:=by
 subst k;exact⟨h 0 _ rfl,h 1 _ rfl⟩
theorem box_kept{w w5:World}{o:Obj}{v:Value}{l:List ByteArray}{g B:Nat}{e:TypeId}(hg:(w.alloc o).grownBy w5 v.ownBlock)(ho:w.ownsRow B e 1 v l.length (l.map Value.string))(hgs:g=w.heap.size):w5.heap[g]?=some o:=by
 subst hgs;refine(hg.block _ (by simp) (fun e=>?_)).trans (zN w o);have:=(World.ownsRow.lt ho _ e.symm).2;omega
theorem OwnS.at_len{w:World}{base:Nat}{v:Value}{l:List ByteArray}(h:OwnS w base v l)(n:Nat)(hn:l.length=n):∃A c,v=.slice A n c:=by
 subst hn;exact h.form
theorem OwnS.at_own{w:World}{base n:Nat}{A:Option Addr}{c:Nat}{l:List ByteArray}(h:OwnS w base (.slice A n c) l):w.ownsRow base 9 1 (.slice A n c) n (l.map Value.string):=by
 obtain⟨A',c',e⟩:=h.form;injection e with e1 e2 e3;have h':w.ownsRow base 9 1 (.slice A n c) l.length (l.map Value.string):=h;rw[<-e2] at h';exact h'
theorem one_frc2{w:World}{R:Nat->Prop}{v:Value}{x:Frc}(h:SlS 3 FrcK w R v [x]):∃b off c vn vd,v=.slice (some ⟨b,off,none⟩) 1 c/\1<=c/\R b/\w.cell? ⟨b,off,none⟩=some (.bool x.neg)/\w.cell? ⟨b,off+1,none⟩=some vn/\w.cell? ⟨b,off+2,none⟩=some vd/\LS w R vn (natL x.num)/\LS w R vd (natL x.den):=by
 obtain⟨A,c,e,hc,-⟩:=h.form;obtain⟨b,off,c',vn,vd,e2,hR,k⟩:=one_frc h;rw[e] at e2;injection e2 with e3 e4 e5;subst e5;exact⟨b,off,c,vn,vd,by rw[e,e3];rfl,hc,hR,k⟩
theorem fvalidate_any(N:Nat)(hN:N<=12)(vl vm vd vv vp vo:Value)(F:FltM)(w:World)(hf:FleetS w (Bl w.heap.size) vl vm vd vv vp vo F)(hok:FleetOk N F) :
  Calls Tryz.prog 16 #[.agg #[.int .i64 F.ext,vl,vm,vd,vv,vp,vo]] w fun e w'=>e=.returned (.int .i64 0)/\Below w.heap.size w w':=by
 obtain⟨Al,cl,hvl,-,-⟩:=hf.1.form;obtain⟨Am,cm,hvm,-,-⟩:=hf.2.1.form;obtain⟨Ad,cd,hvd,hcd,-⟩:=hf.2.2.1.form;obtain⟨Av,cv,hvv,-,-⟩:=hf.2.2.2.1.form;obtain⟨Ap,cp,hvp,-,-⟩:=hf.2.2.2.2.1.form;obtain⟨Ao,co,hvo,-,-⟩:=hf.2.2.2.2.2.form;have hl1:=(lawN_ok hok).2.2;have hm2:=(modN_ok hok).2.2;rw[hl1] at hvl;rw[hm2] at hvm;obtain⟨ND,hND⟩:=zx F.doms.length;obtain⟨NV,hNV⟩:=zx F.dves.length;obtain⟨NP,hNP⟩:=zx F.pols.length;obtain⟨NO,hNO⟩:=zx F.vols.length;rw[<-hND] at hvd hcd;rw[<-hNV] at hvv;rw[<-hNP] at hvp;rw[<-hNO] at hvo;subst hvl hvm hvd hvv hvp hvo;obtain⟨r,-,hlaws⟩:=hok.laws;have hroot:F.doms[0]?=some rootM:=hok.doms.root
 have hD1:1<=ND:=by rw[hND];exact(zL.1 hroot).1
 obtain⟨M,rfl⟩:∃M,ND=M+1:=⟨ND-1,by omega⟩;obtain⟨cc,rfl⟩:∃M,cd=M+1:=⟨cd-1,by omega⟩;obtain⟨W0,hW0⟩:=zx (w.alloc (.cells #[.int .i64 F.ext,.slice Al 1 cl,.slice Am 2 cm,.slice Ad (M+1) (cc+1),.slice Av NV cv,.slice Ap NP cp,.slice Ao NO co] 35));obtain⟨q,hq⟩:=zx w.heap.size
 have hb0:Below w.heap.size w W0:=by rw[hW0];exact(zB _ _).alloc (zR _) _
 have hqk:W0.heap[q]?=some (.cells #[.int .i64 F.ext,.slice Al 1 cl,.slice Am 2 cm,.slice Ad (M+1) (cc+1),.slice Av NV cv,.slice Ap NP cp,.slice Ao NO co] 35 (0,0)):=by rw[hW0,hq];exact zN _ _
 have hql:q<W0.heap.size:=(zA.1 hqk).1;have HC:=zh (fun(w':World) (hb:Below W0.heap.size W0 w')=>cells7 ((hb.block q hql).trans hqk));have hf0:=hf.below hb0;obtain⟨lb,lo,lcs,rfl,hlR,-,hlc,vs,vr,ve,hlcs,hvs,hvr,hve⟩:=hf0.1.at_ (k:=0) (by rw[hl1];omega)
 have hL0:F.laws[0]'(by rw[hl1];omega)=⟨{ data:=#[100,105,115,107] },[⟨false,1,1⟩],[[⟨false,0,1⟩]],[⟨false,1,100+r⟩]⟩:=by simp[hlaws]
 rw[hL0] at hlcs hvs hvr hve;obtain⟨bs,os,ks,sn,sd,rfl,hks,-,s0,s1,s2,sN,sD⟩:=one_frc2 hvs;obtain⟨br0,or0,kl,vrr,rfl,-,r0,hvrr⟩:=one_row hvr;obtain⟨br,orr,kr,rn,rd,rfl,hkr,-,x0,x1,x2,rN,rD⟩:=one_frc2 hvrr;obtain⟨be,oe,ke,en,ed,rfl,hke,-,e0,e1,e2,eN,eD⟩:=one_frc2 hve;have HLE:=zh (show LawE W0 r bs os br0 or0 be oe br orr kr sn sd rn rd en ed from⟨r0,s0,s1,s2,x0,x1,x2,e0,e1,e2,sN,sD,rN,rD,eN,eD⟩);have HKS:=zh (show 1<=ks/\1<=kr/\1<=ke from⟨hks,hkr,hke⟩);obtain⟨l0,l1,l2,l3⟩:=four hlc hlcs;have HLC:=zh (fun(w':World) (hb:Below W0.heap.size W0 w')=>(show w'.cell? ⟨lb,lo,none⟩=_/\w'.cell? ⟨lb,lo+1,none⟩=_/\w'.cell? ⟨lb,lo+2,none⟩=_/\w'.cell? ⟨lb,lo+3,none⟩=_ from⟨(hb.cell (p:=⟨lb,lo,none⟩) hlR).trans l0,(hb.cell (p:=⟨lb,lo+1,none⟩) hlR).trans l1,(hb.cell (p:=⟨lb,lo+2,none⟩) hlR).trans l2,(hb.cell (p:=⟨lb,lo+3,none⟩) hlR).trans l3⟩));obtain⟨db,doff,dcs,rfl,hdR,-,-,-⟩:=hf0.2.2.1.at_ (k:=0) (by omega);obtain⟨mb,mo,mcs,rfl,-,-,-,-⟩:=hf0.2.1.at_ (k:=0) (by omega);obtain⟨vb,vof,vcs,rfl,-,-,-,-⟩:=hf0.2.2.2.1.at_ (k:=0) (by have:=hok.dve1;omega);obtain⟨pb,pof,pcs,rfl,hpR,-,-,-⟩:=hf0.2.2.2.2.1.at_ (k:=0) (by have:=hok.pol1;omega);obtain⟨ob,oof,ocs,rfl,-,-,-,-⟩:=hf0.2.2.2.2.2.at_ (k:=0) (by have:=hok.vol1;omega);have HL1N:=zh (show(F.laws.map (·.name)).take 1=[{ data:=#[100,105,115,107] }] by rw[hlaws];rfl);have HPB:=zh (show pb<W0.heap.size from hpR);have HDB:=zh (show db<W0.heap.size from hdR);have HF0:=zh hf0;have HF:=zh (fun(w':World) (hb:Below W0.heap.size W0 w')=>(hf.below hb0).below hb);have hdm:=zh (fdomains_any F.ext (.slice (some ⟨lb,lo,none⟩) 1 cl) (.slice (some ⟨mb,mo,none⟩) 2 cm) (.slice (some ⟨vb,vof,none⟩) NV cv) (.slice (some ⟨pb,pof,none⟩) NP cp) (.slice (some ⟨ob,oof,none⟩) NO co) _ F.doms W0 (hf.below hb0).2.2.1 hok.doms (by rw[<-hND];exact hD1) hok.domN ⟨_,_,_,rfl⟩ ⟨_,_,_,rfl⟩ ⟨_,_,_,rfl⟩ ⟨_,_,_,rfl⟩ ⟨_,_,_,rfl⟩);have HIN:=zh (fin_any F.ext 1 4 W0);rw[decide_eq_true (show 1<=F.ext/\F.ext<=4 by have:=hok.ext;omega)] at HIN;have HOK:=zh hok;have HN12:=zh hN;have HLN:=zh (show M+1=F.doms.length/\NV=F.dves.length/\NP=F.pols.length/\NO=F.vols.length/\F.laws.length=1/\F.models.length=2 from⟨hND,hNV,hNP,hNO,hl1,hm2⟩)
 have i1:(M:Int)+1<=21:=by have:=hok.domN;omega
 have i2:(NV:Int)<=9:=by have:=hok.dveN;omega
 have i3:(NP:Int)<=2:=by have:=hok.polN;omega
 have i4:(NO:Int)<=12:=by have:=hok.volN;omega
 have i5:(1:Int)<=(M:Int)+1:=by omega
 have i6:(M:Int)+1<=(cc:Int)+1:=by omega
 have b1:decide ((40:Int)<(M:Int)+1)=false:=decide_eq_false (by omega);have b2:decide ((24:Int)<(NV:Int))=false:=decide_eq_false (by omega);have b3:decide ((4:Int)<(NP:Int))=false:=decide_eq_false (by omega);have b4:decide ((12:Int)<(NO:Int))=false:=decide_eq_false (by omega);have HI:=zh (show M<=cc/\M<=20/\NV<=9/\NP<=2/\NO<=12 from⟨by omega,by omega,by omega,by omega,by omega⟩);obtain⟨EXT,hEXT⟩:=zx F.ext;rw[<-hEXT] at HC hdm HIN hW0 ⊢;have HW0:=zh hW0;have HQ:=zh hq;have HB0:=zh hb0;have HQL:=zh hql;obtain⟨c0,c1,c2,c3,c4,c5,c6⟩:=HC.out W0 (zB _ _);clear hf0 hlR hpR hlc hlcs hvs hvr hve hL0 hks r0 hvrr hkr x0 x1 x2 rN rD hke e0 e1 e2 eN eD s0 s1 s2 sN sD l0 l1 l2 l3 hdR hlaws;clear hf hok hW0 hq hb0 hqk hql hroot hl1 hm2 hND hNV hNP hNO hD1 hcd hEXT;go_enter Tryz.func16,Tryz.ntmps16;go_upto_region 1 with fail;rw[<-HW0.out,<-HQ.out];go_wp2_with fail;refine HIN.out.mono ?_;rintro e w1 ⟨rfl,rfl⟩;go_wp2_with fail;refine hdm.out.mono ?_;rintro e w1 ⟨rfl,hb1⟩;clear c0 c1 c2 c3 c4 c5 c6;obtain⟨c0,c1,c2,c3,c4,c5,c6⟩:=HC.out w1 hb1;have HB1:=zh hb1;clear hb1;clear i6;go_wp2_with fail;clear c0 c1 c2 c3 c4 c5 c6;go_loopg [3,8,69] 1 (fun z v3 v8 v69 wr=>∃j:Nat,j<=1/\z=1-j/\v8=.bool true/\v69=.int .i64 (j:Int)/\Hid (OwnS wr w1.heap.size v3 ((F.laws.map (·.name)).take j))/\Hid (Below w1.heap.size w1 wr))
 case atStart=>exact⟨0,by omega,rfl,rfl,rfl,OwnS.nil _ _,zB _ _⟩
 case round =>
  obtain⟨j,hj,rfl,rfl,rfl,HO,HBR⟩:=hrel;by_cases hlt:j<1
  ·-- L1{
   obtain rfl:j=0:=by omega
   obtain⟨A3,c3,rfl⟩:=HO.out.at_len 0 (by rw[List.length_take];omega);have hbr:=HB1.out.trans (HBR.out.mono HB1.out.size);obtain⟨l0,l1,l2,l3⟩:=HLC.out wr hbr;obtain⟨W3,hW3⟩:=zx (wr.alloc (.cells #[.string { data:=#[100,105,115,107] },.slice (some ⟨bs,os,none⟩) 1 ks,.slice (some ⟨br0,or0,none⟩) 1 kl,.slice (some ⟨be,oe,none⟩) 1 ke] 96));obtain⟨g,hg⟩:=zx wr.heap.size
   have hb3:Below wr.heap.size wr W3:=by rw[hW3];exact(zB _ _).alloc (zR _) _
   have hgk:W3.heap[g]?=some (.cells #[.string { data:=#[100,105,115,107] },.slice (some ⟨bs,os,none⟩) 1 ks,.slice (some ⟨br0,or0,none⟩) 1 kl,.slice (some ⟨be,oe,none⟩) 1 ke] 96 (0,0)):=by rw[hW3,hg];exact zN _ _
   obtain⟨d0,d1,d2,d3⟩:=cells4 hgk;have HOW:=zh (HO.out.below hb3);have HB3:=zh (HBR.out.trans (hb3.mono HBR.out.size));have HSZ:=zh HB3.out.size;have HW3:=zh hW3;have HG:=zh hg;have HE5:=zh (fun(w':World) (hb:Below W0.heap.size W0 w')=>HLE.out.below hb);clear hW3 hg hgk hb3 hbr;go_upto_region 8 with fail;rw[<-HW3.out,<-HG.out];go_wp2_with (at_builtin;refine app_s { data:=#[100,105,115,107] } (.tmp 73) (.tmp 76) rfl rfl w1.heap.size (.slice A3 0 c3) 0 [] rfl (by rfl) HOW.out (by rfl) (by omega) HSZ.out ?_;intro v5 w5 hown5 hg5 hat5;obtain⟨f0,f1,f2,f3⟩:=cells4 (box_kept (by rw[<-HW3.out];exact hg5) HO.out HG.out);have HOW5:=zh hown5;have HB5:=zh (HB3.out.grown hg5 HSZ.out (fun b e=>(HOW.out.lt b e).1));clear hown5 hg5 hat5 d0 d1 d2 d3 l0 l1 l2 l3);go_wp2_with fail;refine(flaw_any _ r bs os br0 or0 be oe br orr ks kl ke kr sn sd rn rd en ed w5 (HE5.out w5 (HB1.out.trans (HB5.out.mono HB1.out.size))) HKS.out.1 HKS.out.2.2 HKS.out.2.1).mono ?_;rintro e w6 ⟨rfl,hb6⟩;have HOW6:=zh (show OwnS w6 w1.heap.size v5 ((F.laws.map (·.name)).take 1) from by rw[HL1N.out];exact HOW5.out.below hb6);have HB6:=zh (HB5.out.trans (hb6.mono HB5.out.size));clear hb6 f0 f1 f2 f3;go_wp2_with fail;go_roundg 0
   case measure=>omega
   case rel=>exact⟨1,by omega,rfl,rfl,rfl,HOW6.out,HB6.out⟩
  ·obtain rfl:j=1:=by omega
   obtain⟨wa,hwa⟩:=zx (wr:World);subst hwa;have HO1:=HO;have HBA:=zh (HB1.out.trans (HBR.out.mono HB1.out.size));obtain⟨c0,c1,c2,c3,c4,c5,c6⟩:=HC.out wa HBA.out;clear HO HBR hlt hj;go_wp2_with fail;clear c0 c1 c2 c3 c4 c5 c6;go_loopg [4,8,87] 2 (fun z v4 v8 v87 wr=>∃j:Nat,j<=2/\z=2-j/\v8=.bool true/\v87=.int .i64 (j:Int)/\Hid (OwnS wr wa.heap.size v4 ((F.models.map (·.name)).take (j)))/\Hid (Below wa.heap.size wa wr))
   case atStart=>exact⟨0,by omega,rfl,rfl,rfl,OwnS.nil _ _,zB _ _⟩
   case round =>
    obtain⟨j,hj,rfl,rfl,rfl,HO,HBR⟩:=hrel;by_cases hlt:j<2
    ·-- L2{
     have hbr:=HBA.out.trans (HBR.out.mono HBA.out.size)
     have hjl:j<F.models.length:=by have:=HLN.out.2.2.2.2.2;omega
     obtain⟨b',off',cs,hAe,-,-,hc,hcs⟩:=(HF.out wr hbr).2.1.at_ (k:=j) hjl;injection hAe with hAe;injection hAe with hA1 hA2;subst hA1;subst hA2;obtain⟨x1,x2,x3,x4,x5⟩:=modN_at HOK.out F.models[j] (List.getElem_mem hjl);obtain⟨l0,l1,l2,l3⟩:=four hc hcs;rw[x5] at l3;obtain⟨X,hX⟩:=zx (F.models[j].name);obtain⟨XE,hXE⟩:=zx (F.models[j].ext);obtain⟨XP,hXP⟩:=zx (F.models[j].port);rw[<-hX] at l0;rw[<-hXE] at l1 x1 x2;rw[<-hXP] at l2 x3 x4;have HI1:=zh (fun w=>fin_any XE 1 16 w);rw[decide_eq_true (show 1<=XE/\XE<=16 by omega)] at HI1;have HI2:=zh (fun w=>fin_any XP 1 64 w);rw[decide_eq_true (show 1<=XP/\XP<=64 by omega)] at HI2;have HI3:=zh (fun w=>fin_any 0 0 0 w);rw[decide_eq_true (show(0:Int)<=0/\(0:Int)<=0 by omega)] at HI3;have HX:=zh hX;clear hc hcs x1 x2 x3 x4 x5 hXE hXP hX
     have htk:(F.models.map (·.name)).take (j+1)=(F.models.map (·.name)).take (j)++[X]:=by rw[List.take_succ_eq_append_getElem (by rw[List.length_map];exact hjl),List.getElem_map,<-HX.out]
     obtain⟨A3,c3,rfl⟩:=HO.out.at_len (j) (by rw[List.length_take];have:=HLN.out.2.2.2.2.2;rw[List.length_map];omega);obtain⟨W3,hW3⟩:=zx (wr.alloc (.cells #[.string X,.int .i64 XE,.int .i64 XP,.int .i64 0] 98));obtain⟨g,hg⟩:=zx wr.heap.size
     have hb3:Below wr.heap.size wr W3:=by rw[hW3];exact(zB _ _).alloc (zR _) _
     have hgk:W3.heap[g]?=some (.cells #[.string X,.int .i64 XE,.int .i64 XP,.int .i64 0] 98 (0,0)):=by rw[hW3,hg];exact zN _ _
     obtain⟨d0,d1,d2,d3⟩:=cells4 hgk;have HOW:=zh (HO.out.below hb3);have HB3:=zh (HBR.out.trans (hb3.mono HBR.out.size));have HSZ:=zh HB3.out.size;have HW3:=zh hW3;have HG:=zh hg;have HTK:=zh htk;have HJ:=zh hj;have HLT:=zh hlt;clear hW3 hg hgk hb3 hbr htk;go_upto_region 14 with fail;rw[<-HW3.out,<-HG.out];go_wp2_with (at_builtin;refine app_s X (.tmp 91) (.tmp 94) rfl rfl wa.heap.size (.slice A3 (j) c3) (j) ((F.models.map (·.name)).take (j)) (by rw[List.length_take];have:=HLN.out.2.2.2.2.2;rw[List.length_map];omega) (by rfl) HOW.out.at_own (by rfl) (by have:=HJ.out;have:=HI.out;omega) HSZ.out ?_;intro v5 w5 hown5 hg5 hat5;obtain⟨f0,f1,f2,f3⟩:=cells4 (box_kept (by rw[<-HW3.out];exact hg5) HO.out HG.out);have HOW5:=zh hown5;rw[<-HTK.out] at HOW5;have HB5:=zh (HB3.out.grown hg5 HSZ.out (fun b e=>(HOW.out.lt b e).1));clear hown5 hg5 hat5 d0 d1 d2 d3 l0 l1 l2 l3);obtain⟨c0,c1,c2,c3',c4,c5,c6⟩:=HC.out w5 (HBA.out.trans (HB5.out.mono HBA.out.size));go_wp2_with fail;refine(HI1.out _).mono ?_;rintro e w6 ⟨rfl,rfl⟩;go_wp2_with fail;refine(HI2.out _).mono ?_;rintro e w6 ⟨rfl,rfl⟩;go_wp2_with fail;refine(HI3.out _).mono ?_;rintro e w6 ⟨rfl,rfl⟩;have HOWZ:=HOW5;have HBZ:=HB5;go_wp2_with fail;clear f0 f1 f2 f3;go_roundg (2-(j+1))
     case measure=>omega
     case rel=>exact⟨j+1,by have:=HLT.out;omega,rfl,rfl,by go_num,HOWZ.out,HBZ.out⟩
    ·-- R2{
     obtain rfl:j=2:=by omega
     obtain⟨wb,hwb⟩:=zx (wr:World);subst hwb;have HO2:=HO;have HAB:=HBR;have HBB:=zh (HBA.out.trans (HBR.out.mono HBA.out.size));obtain⟨c0,c1,c2,c3,c4,c5,c6⟩:=HC.out wb HBB.out;clear HO HBR hlt hj;go_upto_region 17 with fail;go_wp2_with (refine step_sl1 rfl (.tmp 118) rfl db doff M cc rfl HI.out.1 ?_;intro AP hAP;have HAP:=zh hAP;clear hAP);clear c0 c1 c2 c3 c4 c5 c6;go_wp2_with fail;go_loopg [5,121] M (fun z v5 v121 wr=>∃j:Nat,j<=M/\z=M-j/\v121=.int .i64 (j:Int)/\Hid (OwnS wr wb.heap.size v5 ((nodeN F).take (j)))/\Hid (Below wb.heap.size wb wr))
     case atStart=>exact⟨0,by omega,rfl,rfl,OwnS.nil _ _,zB _ _⟩
     case round =>
      obtain⟨j,hj,rfl,rfl,HO,HBR⟩:=hrel;by_cases hlt:j<M
      ·-- L3{
       have hbr:=HBB.out.trans (HBR.out.mono HBB.out.size)
       have hjl:j+1<F.doms.length:=by have:=HLN.out.1;omega
       obtain rfl:=HAP.out (by have:=HI.out.1;omega);obtain⟨b',off',cs,hAe,-,-,hc,vn,vd,hcs,hvn,hvd⟩:=(HF.out wr hbr).2.2.1.at_ (k:=j+1) hjl;injection hAe with hAe;injection hAe with hA1 hA2;subst hA1;subst hA2;obtain⟨A1,N1,e1,rfl⟩:=hvn.frm;obtain⟨A2,N2,e2,rfl⟩:=hvd.frm;obtain⟨l0,l1,l2,l3,l4,l5,l6⟩:=seven_at (w:=wr) (p:=db) (o:=doff+7+j*7) (fun t x hx=>by have:=hc t x hx;rw[show doff+(j+1)*7+t=doff+7+j*7+t by omega] at this;exact this) hcs;obtain⟨X,hX⟩:=zx (F.doms[j+1].name);obtain⟨X1,hX1⟩:=zx (F.doms[j+1].level);obtain⟨X2,hX2⟩:=zx (F.doms[j+1].parent);obtain⟨X3,hX3⟩:=zx (F.doms[j+1].uplink);obtain⟨X4,hX4⟩:=zx (F.doms[j+1].shock.neg);rw[<-hX] at l0;rw[<-hX1] at l1;rw[<-hX2] at l2;rw[<-hX3] at l3;rw[<-hX4] at l4;have HX:=zh hX;clear hc hcs hX hX1 hX2 hX3 hX4 hvn hvd
       have htk:(nodeN F).take (j+1)=(nodeN F).take (j)++[X]:=by have:=HX.out;rw[this];exact take_more (nodeN_dom (zG hjl))
       obtain⟨A3,c3,rfl⟩:=HO.out.at_len (j) (by rw[List.length_take];rw[nodeN_length];have:=HLN.out.1;omega);obtain⟨W3,hW3⟩:=zx (wr.alloc (.cells #[.string X,.int .i64 X1,.int .i64 X2,.int .i64 X3,.bool X4,.slice A1 N1 e1,.slice A2 N2 e2] 100));obtain⟨g,hg⟩:=zx wr.heap.size
       have hb3:Below wr.heap.size wr W3:=by rw[hW3];exact(zB _ _).alloc (zR _) _
       have hgk:W3.heap[g]?=some (.cells #[.string X,.int .i64 X1,.int .i64 X2,.int .i64 X3,.bool X4,.slice A1 N1 e1,.slice A2 N2 e2] 100 (0,0)):=by rw[hW3,hg];exact zN _ _
       obtain⟨d0,d1,d2,d3,d4,d5,d6⟩:=cells7 hgk;have HOW:=zh (HO.out.below hb3);have HB3:=zh (HBR.out.trans (hb3.mono HBR.out.size));have HSZ:=zh HB3.out.size;have HW3:=zh hW3;have HG:=zh hg;have HTK:=zh htk;have HJ:=zh hj;have HLT:=zh hlt;clear hW3 hg hgk hb3 hbr htk;go_upto_region 20 with fail;rw[<-HW3.out,<-HG.out];go_wp2_with (at_builtin;refine app_s X (.tmp 125) (.tmp 128) rfl rfl wb.heap.size (.slice A3 (j) c3) (j) ((nodeN F).take (j)) (by rw[List.length_take];rw[nodeN_length];have:=HLN.out.1;omega) (by rfl) HOW.out.at_own (by rfl) (by have:=HJ.out;have:=HI.out;omega) HSZ.out ?_;intro v5 w5 hown5 hg5 hat5;obtain⟨f0,f1,f2,f3,f4,f5,f6⟩:=cells7 (box_kept (by rw[<-HW3.out];exact hg5) HO.out HG.out);have HOW5:=zh hown5;rw[<-HTK.out] at HOW5;have HB5:=zh (HB3.out.grown hg5 HSZ.out (fun b e=>(HOW.out.lt b e).1));clear hown5 hg5 hat5 d0 d1 d2 d3 d4 d5 d6 l0 l1 l2 l3 l4 l5 l6);have HOWZ:=HOW5;have HBZ:=HB5;go_wp2_with fail;clear f0 f1 f2 f3 f4 f5 f6;go_roundg (M-(j+1))
       case measure=>omega
       case rel=>exact⟨j+1,by have:=HLT.out;omega,rfl,by go_num,HOWZ.out,HBZ.out⟩
      ·-- R3{
       obtain rfl:M=j:=by omega
       obtain⟨wc,hwc⟩:=zx (wr:World);subst hwc;have HO3:=HO;have HBC:=HBR;have HC3:=zh (HBB.out.trans (HBR.out.mono HBB.out.size));obtain⟨c0,c1,c2,c3,c4,c5,c6⟩:=HC.out wc HC3.out;clear HO HBR hlt hj;go_wp2_with fail;clear c0 c1 c2 c3 c4 c5 c6;go_loopg [5,8,134] NV (fun z v5 v8 v134 wr=>∃j:Nat,j<=NV/\z=NV-j/\v8=.bool true/\v134=.int .i64 (j:Int)/\Hid (OwnS wr wb.heap.size v5 ((nodeN F).take (M+j)))/\Hid (Below wb.heap.size wb wr))
       case atStart=>exact⟨0,by omega,rfl,rfl,rfl,HO3.out,HBC.out⟩
       case round =>
        obtain⟨j,hj,rfl,rfl,rfl,HO,HBR⟩:=hrel;by_cases hlt:j<NV
        ·-- L4{
         have hbr:=HBB.out.trans (HBR.out.mono HBB.out.size)
         have hjl:j<F.dves.length:=by have:=HLN.out.2.1;omega
         obtain⟨b',off',cs,hAe,-,-,hc,hcs⟩:=(HF.out wr hbr).2.2.2.1.at_ (k:=j) hjl;injection hAe with hAe;injection hAe with hA1 hA2;subst hA1;subst hA2;obtain⟨-,x2,m,x3,dp,hdp,hdl⟩:=HOK.out.dves j F.dves[j] (zG hjl);have hml:m<F.doms.length:=(zL.1 hdp).1;obtain⟨b2,off2,cs2,hAe,-,-,hcp,vn2,vd2,hcs2,-,-⟩:=(HF.out W0 (zB _ _)).2.2.1.at_ (k:=m) hml;injection hAe with hAe;injection hAe with hA1 hA2;subst hA1;subst hA2;obtain⟨-,q1,-⟩:=seven_at hcp hcs2;rw[show F.doms[m]=dp from(zL.1 hdp).2,hdl] at q1;obtain⟨l0,l1,l2⟩:=three_at hc hcs;rw[x3] at l2;obtain⟨X,hX⟩:=zx (F.dves[j].name)
         obtain⟨MO,hMO,hMO1⟩:∃x:Nat,F.dves[j].model=(x:Int)/\x<=1:=by rcases x2 with e | e <;> rw[e] <;> first | exact⟨0,rfl,by omega⟩ | exact⟨1,rfl,by omega⟩
         rw[<-hX] at l0;rw[hMO] at l1
         have hmM:m<M+1:=by have:=HLN.out.1;omega
         have HI1:=zh (fun w=>fin_any (MO:Int) 0 1 w);rw[decide_eq_true (show 0<=(MO:Int)/\(MO:Int)<=1 by omega)] at HI1;have HI2:=zh (fun w=>fin_any (m:Int) 0 (M:Int) w);rw[decide_eq_true (show(0:Int)<=(m:Int)/\(m:Int)<=(M:Int) by omega)] at HI2;have HX:=zh hX;have HQ1:=zh (fun(w':World) (hb:Below W0.heap.size W0 w')=>(hb.cell (p:=⟨db,doff+m*7+1,none⟩) HDB.out).trans q1)
         have im1:(m:Int)<(M:Int)+1:=by omega
         clear hc hcs x2 x3 hMO hX hcp hcs2 q1 hdp hdl hml hMO1 hmM
         have htk:(nodeN F).take (M+j+1)=(nodeN F).take (M+j)++[X]:=by have:=HX.out;rw[this];exact take_more (nodeN_dve HLN.out.1 (zG hjl))
         obtain⟨A3,c3,rfl⟩:=HO.out.at_len (M+j) (by rw[List.length_take];rw[nodeN_length];have:=HLN.out;omega);obtain⟨W3,hW3⟩:=zx (wr.alloc (.cells #[.string X,.int .i64 (MO:Int),.int .i64 (m:Int)] 102));obtain⟨g,hg⟩:=zx wr.heap.size
         have hb3:Below wr.heap.size wr W3:=by rw[hW3];exact(zB _ _).alloc (zR _) _
         have hgk:W3.heap[g]?=some (.cells #[.string X,.int .i64 (MO:Int),.int .i64 (m:Int)] 102 (0,0)):=by rw[hW3,hg];exact zN _ _
         obtain⟨d0,d1,d2⟩:=cells3v hgk;have HOW:=zh (HO.out.below hb3);have HB3:=zh (HBR.out.trans (hb3.mono HBR.out.size));have HSZ:=zh HB3.out.size;have HW3:=zh hW3;have HG:=zh hg;have HTK:=zh htk;have HJ:=zh hj;have HLT:=zh hlt;clear hW3 hg hgk hb3 hbr htk;go_upto_region 25 with fail;rw[<-HW3.out,<-HG.out];go_wp2_with (at_builtin;refine app_s X (.tmp 138) (.tmp 141) rfl rfl wb.heap.size (.slice A3 (M+j) c3) (M+j) ((nodeN F).take (M+j)) (by rw[List.length_take];rw[nodeN_length];have:=HLN.out;omega) (by rfl) HOW.out.at_own (by rfl) (by have:=HJ.out;have:=HI.out;omega) HSZ.out ?_;intro v5 w5 hown5 hg5 hat5;obtain⟨f0,f1,f2⟩:=cells3v (box_kept (by rw[<-HW3.out];exact hg5) HO.out HG.out);have HOW5:=zh hown5;rw[<-HTK.out] at HOW5;have HB5:=zh (HB3.out.grown hg5 HSZ.out (fun b e=>(HOW.out.lt b e).1));clear hown5 hg5 hat5 d0 d1 d2 l0 l1 l2;obtain⟨c0,c1,c2,c3',c4,c5,c6⟩:=HC.out w5 (HBB.out.trans (HB5.out.mono HBB.out.size));have q1:=HQ1.out w5 (HBB.out.trans (HB5.out.mono HBB.out.size)));go_wp2_with fail;refine(HI1.out _).mono ?_;rintro e w6 ⟨rfl,rfl⟩;go_wp2_with fail;refine(HI2.out _).mono ?_;rintro e w6 ⟨rfl,rfl⟩;have HOWZ:=HOW5;have HBZ:=HB5;go_wp2_with fail;clear f0 f1 f2;go_roundg (NV-(j+1))
         case measure=>omega
         case rel=>exact⟨j+1,by have:=HLT.out;omega,rfl,rfl,by go_num,HOWZ.out,HBZ.out⟩
        ·-- R4{
         obtain rfl:NV=j:=by omega
         obtain⟨wd,hwd⟩:=zx (wr:World);subst hwd;have HO4:=HO;have HBD:=HBR;have HD:=zh (HBB.out.trans (HBR.out.mono HBB.out.size));obtain⟨c0,c1,c2,c3,c4,c5,c6⟩:=HC.out wd HD.out;clear HO HBR hlt hj;go_wp2_with fail;clear c0 c1 c2 c3 c4 c5 c6;go_loopg [6,8,176] NP (fun z v6 v8 v176 wr=>∃j:Nat,j<=NP/\z=NP-j/\v8=.bool true/\v176=.int .i64 (j:Int)/\Hid (OwnS wr wd.heap.size v6 ((F.pols.map (·.name)).take j))/\Hid (Below wd.heap.size wd wr))
         case atStart=>exact⟨0,by omega,rfl,rfl,rfl,OwnS.nil _ _,zB _ _⟩
         case round =>
          obtain⟨j,hj,rfl,rfl,rfl,HO,HBR⟩:=hrel;by_cases hlt:j<NP
          ·-- L5{
           have hbr:=HD.out.trans (HBR.out.mono HD.out.size)
           have hjl:j<F.pols.length:=by have:=HLN.out.2.2.1;omega
           obtain⟨b',off',cs,hAe,-,-,hc,vm,vr,tn,td,hn,hd,hcs,k1,k2,k3,k4,k5,k6⟩:=(HF.out W0 (zB _ _)).2.2.2.2.1.at_ (k:=j) hjl;injection hAe with hAe;injection hAe with hA1 hA2;subst hA1;subst hA2;have HPV:=zh (fun(w':World) (hb:Below W0.heap.size W0 w')=>fpolicy_any F.pols[j] vm vr tn td hn hd w' (HOK.out.pols j _ (zG hjl)).2.2 ((k1.keep (kept_below hb)).mono (Bl.mono hb.size)) (SlS.below frcK k2 hb) (k3.below hb) (k4.below hb) (k5.below hb) (k6.below hb));obtain⟨Am,em,hvm,-,-⟩:=k1.form7;obtain⟨Ar,er,hvr,-,-⟩:=k2.form;obtain⟨A1,N1,e1,rfl⟩:=k3.frm;obtain⟨A2,N2,e2,rfl⟩:=k4.frm;obtain⟨A4,N4,e4,rfl⟩:=k5.frm;obtain⟨A5,N5,e5,rfl⟩:=k6.frm;obtain⟨Lm,hLm⟩:=zx (F.pols[j].models.length);obtain⟨Lr,hLr⟩:=zx (F.pols[j].repair.length);rw[<-hLm] at hvm;rw[<-hLr] at hvr;subst hvm hvr;have hrg0:W0.rangeAt pb (pof+j*17) cs:=hc;rw[hcs] at hrg0;have hpb:pb<W0.heap.size:=HPB.out;obtain⟨X,hX⟩:=zx (F.pols[j].name);obtain⟨XK,hXK⟩:=zx (F.pols[j].k);obtain⟨XM,hXM⟩:=zx (F.pols[j].m);obtain⟨XQ,hXQ⟩:=zx (F.pols[j].q);obtain⟨X3,hX3⟩:=zx (F.pols[j].s3);obtain⟨X4,hX4⟩:=zx (F.pols[j].s4);obtain⟨B1,hB1⟩:=zx (F.pols[j].target.neg);obtain⟨B2,hB2⟩:=zx (F.pols[j].horizon.neg)
           have htk:(F.pols.map (·.name)).take (j+1)=(F.pols.map (·.name)).take j++[X]:=by rw[hX];exact take_more (map_name (zG hjl))
           rw[<-hX,<-hXK,<-hXM,<-hXQ,<-hX3,<-hX4,<-hB1,<-hB2] at HPV hrg0;obtain⟨A3,c3,rfl⟩:=HO.out.at_len j (by rw[List.length_take];have:=HLN.out.2.2.1;rw[List.length_map];omega);have hrg:=range_same hrg0 (hbr.block pb hpb);obtain⟨W3,hW3⟩:=zx ((wr.alloc (.cells #[.string ⟨#[]⟩,.int .i64 0,.int .i64 0,.int .i64 0,.int .i64 0,.int .i64 0,.int .i64 0,.int .i64 0,.int .i64 0,.slice none 0 0,.slice none 0 0,.bool false,.slice none 0 0,.slice none 0 0,.bool false,.slice none 0 0,.slice none 0 0] 55)).setCells wr.heap.size 0 [.string X,.int .i64 XK,.int .i64 XM,.int .i64 XQ,.int .i64 0,.int .i64 0,.int .i64 0,.int .i64 X3,.int .i64 X4,.slice Am Lm em,.slice Ar Lr er,.bool B1,.slice A1 N1 e1,.slice A2 N2 e2,.bool B2,.slice A4 N4 e4,.slice A5 N5 e5]);obtain⟨g,hg⟩:=zx wr.heap.size;have hth:(wr.alloc (.cells #[.string ⟨#[]⟩,.int .i64 0,.int .i64 0,.int .i64 0,.int .i64 0,.int .i64 0,.int .i64 0,.int .i64 0,.int .i64 0,.slice none 0 0,.slice none 0 0,.bool false,.slice none 0 0,.slice none 0 0,.bool false,.slice none 0 0,.slice none 0 0] 55)).there wr.heap.size 0 17:=there_new (cs:=#[.string ⟨#[]⟩,.int .i64 0,.int .i64 0,.int .i64 0,.int .i64 0,.int .i64 0,.int .i64 0,.int .i64 0,.int .i64 0,.slice none 0 0,.slice none 0 0,.bool false,.slice none 0 0,.slice none 0 0,.bool false,.slice none 0 0,.slice none 0 0]) (zN wr _) (zR 17)
           have hb3:Below wr.heap.size wr W3:=by rw[hW3];exact below_setCellsV (zR _) _ _ _ ((zB _ _).alloc (zR _) _)
           have hgk:W3.rangeAt g 0 [.string X,.int .i64 XK,.int .i64 XM,.int .i64 XQ,.int .i64 0,.int .i64 0,.int .i64 0,.int .i64 X3,.int .i64 X4,.slice Am Lm em,.slice Ar Lr er,.bool B1,.slice A1 N1 e1,.slice A2 N2 e2,.bool B2,.slice A4 N4 e4,.slice A5 N5 e5]:=by rw[hW3,hg];exact World.rangeAt_setCells_same _ _ _ _ hth
           have d0:W3.cell? ⟨g,0,none⟩=some (.string X):=hgk 0 _ rfl;have hgl:g<W3.heap.size:=World.block_lt_of_cell? W3 _ d0;have HTH:=zh hth;have HRG:=zh hrg;have HGK:=zh hgk;have HGL:=zh hgl;have HOW:=zh (HO.out.below hb3);have HB3:=zh (HBR.out.trans (hb3.mono HBR.out.size));have HSZ:=zh HB3.out.size;have HW3:=zh hW3;have HG:=zh hg;have HTK:=zh htk;have HJ:=zh hj;have HLT:=zh hlt;clear hW3 hg hgk hb3 hbr htk hth hrg hgl hrg0 hpb hc hcs k1 k2 k3 k4 k5 k6 hX hXK hXM hXQ hX3 hX4 hB1 hB2 hLm hLr;go_wp2_with (first | (refine wpList_load_mid rfl 55 (.tmp 178) rfl pb (pof+j*17) (by rfl) [.string X,.int .i64 XK,.int .i64 XM,.int .i64 XQ,.int .i64 0,.int .i64 0,.int .i64 0,.int .i64 X3,.int .i64 X4,.slice Am Lm em,.slice Ar Lr er,.bool B1,.slice A1 N1 e1,.slice A2 N2 e2,.bool B2,.slice A4 N4 e4,.slice A5 N5 e5] _ HRG.out Tryz.underlying55 rfl size_pol ?_) | (refine wpList_store_mid rfl 55 (.tmp 18) (.tmp 179) rfl wr.heap.size 0 #[.string X,.int .i64 XK,.int .i64 XM,.int .i64 XQ,.int .i64 0,.int .i64 0,.int .i64 0,.int .i64 X3,.int .i64 X4,.slice Am Lm em,.slice Ar Lr er,.bool B1,.slice A1 N1 e1,.slice A2 N2 e2,.bool B2,.slice A4 N4 e4,.slice A5 N5 e5] (by rfl) (by rfl) HTH.out size_pol (by simp[Value.oneCell']) ?_;rw[<-HW3.out,<-HG.out]) | (at_builtin;refine app_s X (.tmp 180) (.tmp 183) rfl rfl wd.heap.size (.slice A3 j c3) j ((F.pols.map (·.name)).take j) (by rw[List.length_take];have:=HLN.out.2.2.1;rw[List.length_map];omega) (by rfl) HOW.out.at_own (by rfl) (by have:=HJ.out;have:=HI.out;omega) HSZ.out ?_;intro v5 w5 hown5 hg5 hat5;have HGK5:=zh (range_same HGK.out (own_keptV hg5 HO.out HG.out HGL.out));have HOW5:=zh hown5;rw[<-HTK.out] at HOW5;have HB5:=zh (HB3.out.grown hg5 HSZ.out (fun b e=>(HOW.out.lt b e).1));clear hown5 hg5 hat5 d0;obtain⟨c0,c1,c2,c3',c4,c5,c6⟩:=HC.out w5 (HD.out.trans (HB5.out.mono HD.out.size))) | (refine wpList_load_midW (by rfl) 55 (.tmp 18) rfl g 0 (by rfl) [.string X,.int .i64 XK,.int .i64 XM,.int .i64 XQ,.int .i64 0,.int .i64 0,.int .i64 0,.int .i64 X3,.int .i64 X4,.slice Am Lm em,.slice Ar Lr er,.bool B1,.slice A1 N1 e1,.slice A2 N2 e2,.bool B2,.slice A4 N4 e4,.slice A5 N5 e5] _ HGK5.out Tryz.underlying55 rfl size_pol ?_));go_wp2_with fail;refine(HPV.out w5 (HD.out.trans (HB5.out.mono HD.out.size))).mono ?_;rintro e w6 ⟨rfl,hb6⟩;have HOWZ:=zh (HOW5.out.below hb6);have HBZ:=zh (HB5.out.trans (hb6.mono HB5.out.size));clear hb6 c0 c1 c2 c3' c4 c5 c6;go_wp2_with fail;go_roundg (NP-(j+1))
           case measure=>omega
           case rel=>exact⟨j+1,by have:=HLT.out;omega,rfl,rfl,by go_num,HOWZ.out,HBZ.out⟩
          ·-- R5{
           obtain rfl:NP=j:=by omega
           obtain⟨we,hwe⟩:=zx (wr:World);subst hwe;have HO5:=HO;have HDE:=HBR;have HE:=zh (HD.out.trans (HBR.out.mono HD.out.size));obtain⟨c0,c1,c2,c3,c4,c5,c6⟩:=HC.out we HE.out;clear HO HBR hlt hj;go_wp2_with fail;clear c0 c1 c2 c3 c4 c5 c6;go_loopg [7,8,197] NO (fun z v7 v8 v197 wr=>∃j:Nat,j<=NO/\z=NO-j/\v8=.bool true/\v197=.int .i64 (j:Int)/\Hid (OwnS wr we.heap.size v7 ((F.vols.map (·.name)).take (j)))/\Hid (Below we.heap.size we wr))
           case atStart=>exact⟨0,by omega,rfl,rfl,rfl,OwnS.nil _ _,zB _ _⟩
           case round =>
            obtain⟨j,hj,rfl,rfl,rfl,HO,HBR⟩:=hrel;by_cases hlt:j<NO
            ·-- L6{
             have hbr:=HE.out.trans (HBR.out.mono HE.out.size)
             have hjl:j<F.vols.length:=by have:=HLN.out.2.2.2.1;omega
             obtain⟨b',off',cs,hAe,-,-,hc,hcs⟩:=(HF.out wr hbr).2.2.2.2.2.at_ (k:=j) hjl;injection hAe with hAe;injection hAe with hA1 hA2;subst hA1;subst hA2;obtain⟨-,-,m,x3,x4⟩:=HOK.out.vols j F.vols[j] (zG hjl);obtain⟨l0,l1⟩:=two_at hc hcs;rw[x3] at l1;obtain⟨X,hX⟩:=zx (F.vols[j].name);rw[<-hX] at l0
             have hnp:m<NP:=by have:=HLN.out.2.2.1;omega
             have HI1:=zh (fun w=>fin_any (m:Int) 0 ((NP-1:Nat):Int) w);rw[decide_eq_true (show(0:Int)<=(m:Int)/\(m:Int)<=((NP-1:Nat):Int) by omega)] at HI1;have HX:=zh hX
             have hsub:IntKind.i64.wrap ((NP:Int)-1)=((NP-1:Nat):Int):=by have:=HI.out;rw[show(NP:Int)-1=((NP-1:Nat):Int) by omega];exact zI _ (by omega)
             clear hc hcs x3 x4 hX hnp
             have htk:(F.vols.map (·.name)).take (j+1)=(F.vols.map (·.name)).take (j)++[X]:=by have:=HX.out;rw[this];exact take_more (map_name (zG hjl))
             obtain⟨A3,c3,rfl⟩:=HO.out.at_len (j) (by rw[List.length_take];have:=HLN.out.2.2.2.1;rw[List.length_map];omega);obtain⟨W3,hW3⟩:=zx (wr.alloc (.cells #[.string X,.int .i64 (m:Int)] 106));obtain⟨g,hg⟩:=zx wr.heap.size
             have hb3:Below wr.heap.size wr W3:=by rw[hW3];exact(zB _ _).alloc (zR _) _
             have hgk:W3.heap[g]?=some (.cells #[.string X,.int .i64 (m:Int)] 106 (0,0)):=by rw[hW3,hg];exact zN _ _
             obtain⟨d0,d1⟩:=cells2 hgk;have HOW:=zh (HO.out.below hb3);have HB3:=zh (HBR.out.trans (hb3.mono HBR.out.size));have HSZ:=zh HB3.out.size;have HW3:=zh hW3;have HG:=zh hg;have HTK:=zh htk;have HJ:=zh hj;have HLT:=zh hlt;clear hW3 hg hgk hb3 hbr htk;go_upto_region 37 with fail;rw[<-HW3.out,<-HG.out];go_wp2_with (at_builtin;refine app_s X (.tmp 201) (.tmp 204) rfl rfl we.heap.size (.slice A3 (j) c3) (j) ((F.vols.map (·.name)).take (j)) (by rw[List.length_take];have:=HLN.out.2.2.2.1;rw[List.length_map];omega) (by rfl) HOW.out.at_own (by rfl) (by have:=HJ.out;have:=HI.out;omega) HSZ.out ?_;intro v5 w5 hown5 hg5 hat5;obtain⟨f0,f1⟩:=cells2 (box_kept (by rw[<-HW3.out];exact hg5) HO.out HG.out);have HOW5:=zh hown5;rw[<-HTK.out] at HOW5;have HB5:=zh (HB3.out.grown hg5 HSZ.out (fun b e=>(HOW.out.lt b e).1));clear hown5 hg5 hat5 d0 d1 l0 l1;obtain⟨c0,c1,c2,c3',c4,c5,c6⟩:=HC.out w5 (HE.out.trans (HB5.out.mono HE.out.size)));go_wp2_with fail;refine(HI1.out _).mono ?_;rintro e w6 ⟨rfl,rfl⟩;have HOWZ:=HOW5;have HBZ:=HB5;go_wp2_with fail;clear f0 f1;go_roundg (NO-(j+1))
             case measure=>omega
             case rel=>exact⟨j+1,by have:=HLT.out;omega,rfl,rfl,by go_num,HOWZ.out,HBZ.out⟩
            ·-- R6{
             obtain rfl:NO=j:=by omega
             obtain⟨wf,hwf⟩:=zx (wr:World);subst hwf;have hef:=HBR.out;have hdf:=HDE.out.trans (hef.mono HDE.out.size);have hbf:=HBD.out.trans (hdf.mono HBD.out.size);have haf:=HAB.out.trans (hbf.mono HAB.out.size);have h0f:=HE.out.trans (hef.mono HE.out.size);have HU1:=zh (fun(w':World) (hb:Below wf.heap.size wf w')=>uniq_own HO1.out (List.take_of_length_le (by rw[List.length_map];have:=HLN.out;omega)) (haf.trans (hb.mono haf.size)) (lawN_ok HOK.out).1 (lawN_ok HOK.out).2.1 (by rw[List.length_map];have:=HLN.out;omega));have HU2:=zh (fun(w':World) (hb:Below wf.heap.size wf w')=>uniq_own HO2.out (List.take_of_length_le (by rw[List.length_map];have:=HLN.out;omega)) (hbf.trans (hb.mono hbf.size)) (modN_ok HOK.out).1 (modN_ok HOK.out).2.1 (by rw[List.length_map];have:=HLN.out;omega));have HU3:=zh (fun(w':World) (hb:Below wf.heap.size wf w')=>uniq_own HO4.out (List.take_of_length_le (by rw[nodeN_length];have:=HLN.out;omega)) (hdf.trans (hb.mono hdf.size)) (nodeN_low HOK.out) (nodeN_nodup HOK.out) (by rw[nodeN_length];have:=HLN.out;have:=HI.out;omega));have HU4:=zh (fun(w':World) (hb:Below wf.heap.size wf w')=>uniq_own HO5.out (List.take_of_length_le (by rw[List.length_map];have:=HLN.out;omega)) (hef.trans (hb.mono hef.size)) (polN_low HOK.out) (polN_nodup HOK.out) (by rw[List.length_map];have:=HLN.out;have:=HI.out;omega));have HU5:=zh (fun(w':World) (hb:Below wf.heap.size wf w')=>uniq_own HO.out (List.take_of_length_le (by rw[List.length_map];have:=HLN.out;omega)) hb (volN_low HN12.out HOK.out) (volN_nodup HN12.out HOK.out) (by rw[List.length_map];have:=HLN.out;have:=HI.out;omega));have HF0E:=zh h0f;clear HO HBR hlt hj hef hdf hbf haf h0f;go_wp2_with fail;refine(HU1.out _ (zB _ _)).mono ?_;rintro e w6 ⟨rfl,hb6⟩;have HZ:=zh hb6;clear hb6;go_wp2_with fail;refine(HU2.out _ HZ.out).mono ?_;rintro e w7 ⟨rfl,hb7⟩;have HZ7:=zh (HZ.out.trans (hb7.mono HZ.out.size));clear hb7;go_wp2_with fail;refine(HU3.out _ HZ7.out).mono ?_;rintro e w8 ⟨rfl,hb8⟩;have HZ8:=zh (HZ7.out.trans (hb8.mono HZ7.out.size));clear hb8;go_wp2_with fail;refine(HU4.out _ HZ8.out).mono ?_;rintro e w9 ⟨rfl,hb9⟩;have HZ9:=zh (HZ8.out.trans (hb9.mono HZ8.out.size));clear hb9;go_wp2_with fail;refine(HU5.out _ HZ9.out).mono ?_;rintro e w10 ⟨rfl,hb10⟩;have HZ10:=zh (HZ9.out.trans (hb10.mono HZ9.out.size));clear hb10;go_wp2_with fail;go_ret;exact⟨rfl,HB0.out.trans ((HF0E.out.trans (HZ10.out.mono HF0E.out.size)).mono HB0.out.size)⟩
end Go.Proofs.YtgfaieppacabjaaGreat
