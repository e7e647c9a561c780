/- The law RetargetMoves, walked. -/
import Derived.Test.YtgfaieppacabjaaGreatMy31
import Derived.Test.YtgfaieppacabjaaGreatMy23
import Derived.Lib.SmallJoins
set_option linter.unusedSectionVars false
set_option maxRecDepth 100000
set_option maxHeartbeats 12800000
namespace Go.Proofs.YtgfaieppacabjaaGreat
open Go.RowKit
set_option linter.unusedVariables false
set_option linter.unusedSimpArgs false
theorem sz_up{N:Nat}{F:FltM}{pi:Nat}{x:PolM}{m q:Int}(hok:FleetOk N F)(hgk:FleetOk N (raiseM F pi m q))(hx:F.pols[pi]?=some x)(hm:x.m<=m){v:Nat}(hv:v<F.vols.length):szN F v<=szN (raiseM F pi m q) v:=by
 have h1:=szN_eq hok hv;have h2:=szN_eq (F:=raiseM F pi m q) hgk (v:=v) hv;have hvp:volP (raiseM F pi m q) v=volP F v:=rfl
 have hk:kOf (raiseM F pi m q) v=kOf F v/\mOf F v<=mOf (raiseM F pi m q) v:=by
  unfold kOf mOf;rw[hvp];by_cases hp:pi=volP F v
  ·subst hp;rw[raise_at hx,hx];exact⟨rfl,hm⟩
  ·rw[raise_other hp];exact⟨rfl,Int.le_refl _⟩
 omega
theorem raise_uni(Z0:Nat->Prop)(N:Nat)(hN:N<=12)(vl vm vd vv vp vo tn td:Value)(F:FltM)(pi:Nat)(x:PolM)(m q:Int)(w:World)(hf:FleetS w (BlZ Z0 w.heap.size) vl vm vd vv vp vo F)(hZ0:∀b,Z0 b->b<w.heap.size)(hok:FleetOk N F)(hx:F.pols[pi]?=some x)(hm:x.m<=m)(hm6:m<=6)(hq1:x.k<=q)(hq2:q<=x.k+m)
  (htn:LS w (Bl w.heap.size) tn (natL 1)) (htd:LS w (Bl w.heap.size) td (natL 1000)) :
  Calls Tryz.prog 11 #[.agg #[.int .i64 F.ext,vl,vm,vd,vv,vp,vo],.int .i64 (pi:Int),.int .i64 m,.int .i64 q,.agg #[.bool false,tn,td]] w fun e w'=>∃(ex er:Int) (A1 A2 A3 A4 A5 A6:Option Addr) (n1 n2 n3 n4 n5 n6 c1 c2 c3 c4 c5 c6:Nat),e=.returned (.tuple #[.agg #[.int .i64 ex,.slice A1 n1 c1,.slice A2 n2 c2,.slice A3 n3 c3,.slice A4 n4 c4,.slice A5 n5 c5,.slice A6 n6 c6],.int .i64 er])/\Below w.heap.size w w' /\
   ((4<m/\er=5)\/(m<=4/\er=0/\ex=F.ext/\FleetS w' (BlZ Z0 w'.heap.size) (.slice A1 n1 c1) (.slice A2 n2 c2) (.slice A3 n3 c3) (.slice A4 n4 c4) (.slice A5 n5 c5) (.slice A6 n6 c6) (raiseM F pi m q))):=by
 refine(raiseZ_any Z0 N hN vl vm vd vv vp vo tn td F pi x m q w hf hZ0 hok hx hm hm6 hq1 hq2 htn htd).mono ?_;rintro e w' ⟨hb,⟨h4,rfl⟩ | ⟨h4,ul,um,ud,uv,up,uo,rfl,hg⟩⟩
 ·exact⟨_,_,_,_,_,_,_,_,_,_,_,_,_,_,_,_,_,_,_,_,rfl,hb,.inl ⟨h4,rfl⟩⟩
 ·obtain⟨A1,n1,c1,rfl⟩:=hg.1.form3;obtain⟨A2,n2,c2,rfl⟩:=hg.2.1.form3;obtain⟨A3,n3,c3,rfl⟩:=hg.2.2.1.form3;obtain⟨A4,n4,c4,rfl⟩:=hg.2.2.2.1.form3;obtain⟨A5,n5,c5,rfl⟩:=hg.2.2.2.2.1.form3;obtain⟨A6,n6,c6,rfl⟩:=hg.2.2.2.2.2.form3;exact⟨_,_,_,_,_,_,_,_,_,_,_,_,_,_,_,_,_,_,_,_,rfl,hb,.inr ⟨h4,rfl,rfl,hg⟩⟩
theorem seven_of{W:World}{g:Nat}{a b c d e f h:Value}(q:W.rangeAt g 0 [a,b,c,d,e,f,h]):W.cell? ⟨g,0,none⟩=some a/\W.cell? ⟨g,1,none⟩=some b/\W.cell? ⟨g,2,none⟩=some c/\W.cell? ⟨g,3,none⟩=some d/\W.cell? ⟨g,4,none⟩=some e/\W.cell? ⟨g,5,none⟩=some f/\W.cell? ⟨g,6,none⟩=some h :=
 ⟨q 0 _ rfl,q 1 _ rfl,q 2 _ rfl,q 3 _ rfl,q 4 _ rfl,q 5 _ rfl,q 6 _ rfl⟩
theorem freshR_take(l:List Int)(i:Nat)(h:i<l.length):freshR (l.take (i+1))=freshR (l.take i)+(if gt l i<0 then 1 else 0):=by
 have e:l.take (i+1)=l.take i++[gt l i]:=by
  rw[List.take_add_one,zG h];unfold gt;rw[List.getD_eq_getElem?_getD,zG h]
  rfl
 rw[e];unfold freshR;rw[List.filter_append,zP];by_cases hx:gt l i<0
 ·rw[if_pos hx];simp[hx]
 ·rw[if_neg hx];simp[hx]
theorem freshR_le(l:List Int):freshR l<=l.length:=List.length_filter_le _ _
theorem fresh_le{n:Nat}(L:List (List Int))(h:∀v,v<n->(L.getD v []).length<=6):∀k,k<=n->freshN L k<=6*k
 | 0,_=>zR 0
 | k+1,hk=>by
  have h1:=fresh_le L h k (by omega);have h2:=freshR_le (L.getD k []);have h3:=h k (by omega);show freshN L k+freshR (L.getD k [])<=_;omega
theorem moves_any(vt:Value)(xs:List Int)(p m q:Int)(w:World)(hx:IntS w (Bl w.heap.size) vt xs)(hp:I64 p)(hm:I64 m)(hq:I64 q) :
  Calls Tryz.prog 6 #[vt,.int .i64 p,.int .i64 m,.int .i64 q] w fun e w'=>e=.returned (.bool true)/\Below w.heap.size w w':=by
 have HMD:=zh (made35r_any vt xs w hx)
 obtain⟨At,nt,ct,rfl⟩:∃A n c,vt=.slice A n c:=by obtain⟨A,c,e,-⟩:=hx.1;exact⟨A,_,c,e⟩
 have HI:=zh (And.intro hp (And.intro hm hq));clear hx hp hm hq;go_enter Tryz.func6,Tryz.ntmps6;go_wp2_with fail;refine HMD.out.mono ?_;rintro e w2 ⟨vl,vm,vd,vv,vp,vo,vy,Ar,nr,kr,gT,F,L,RM,rfl,hf,hly,hok,hlo,hb2,hrm⟩;clear HMD;obtain⟨Al,nl,cl,rfl⟩:=hf.1.form3;obtain⟨Am,nm,cm,rfl⟩:=hf.2.1.form3;obtain⟨Ad,nd,cd,rfl⟩:=hf.2.2.1.form3;obtain⟨Av,nv,cv,rfl⟩:=hf.2.2.2.1.form3;obtain⟨Ap,cp,hvp,-⟩:=hf.2.2.2.2.1.form;subst hvp;obtain⟨Ao,no,co,rfl⟩:=hf.2.2.2.2.2.form3;obtain⟨Ay,ny,ky,rfl⟩:=hly.form3;have hl2:SlS 1 RowIK w2 (Bl w2.heap.size) (.slice Ay ny ky) L:=hly.mono rowIK (fun b hb=>hb.2);have HL2:=zh hl2;have HR2:=zh (show IntS w2 (Bl w2.heap.size) (.slice Ar nr kr) RM from hrm.mono (fun b hb=>hb.2));have HLO:=zh hlo;clear hl2 hlo hrm;obtain⟨EX,hEX⟩:=zx F.ext;obtain⟨NP,hNP⟩:=zx F.pols.length;have hf2:FleetS w2 (Bl w2.heap.size) (.slice Al nl cl) (.slice Am nm cm) (.slice Ad nd cd) (.slice Av nv cv) (.slice Ap F.pols.length cp) (.slice Ao no co) F:=hf.mono (fun b hb=>hb.2);have HB2:=zh hb2;have HF2:=zh hf2;have HOK:=zh hok;have HEX:=zh hEX;have HNP:=zh hNP;rw[<-hEX,<-hNP];clear hf hf2 hly hok hEX hNP hb2;go_upto_region 2 with fail;obtain⟨W3,hW3⟩:=zx (w2.alloc (.cells #[.int .i64 EX,.slice Al nl cl,.slice Am nm cm,.slice Ad nd cd,.slice Av nv cv,.slice Ap NP cp,.slice Ao no co,.slice Ay ny ky,.slice Ar nr kr] 39));obtain⟨gC,hgC⟩:=zx w2.heap.size;rw[<-hW3,<-hgC]
 have h3k:W3.heap[gC]?=some (.cells #[.int .i64 EX,.slice Al nl cl,.slice Am nm cm,.slice Ad nd cd,.slice Av nv cv,.slice Ap NP cp,.slice Ao no co,.slice Ay ny ky,.slice Ar nr kr] 39 (0,0)):=by rw[hW3,hgC];exact zN _ _
 have hb3:Below w2.heap.size w2 W3:=by rw[hW3];exact(zB _ _).alloc (zR _) _
 have g3l:gC<W3.heap.size:=(zA.1 h3k).1;have hw3:=HB2.out.trans (hb3.mono HB2.out.size);have HBW:=zh (show ∀w',Below W3.heap.size W3 w'->Below w.heap.size w w' from fun w' hb=>hw3.trans (hb.mono hw3.size));have HC:=zh (show ∀w',Below W3.heap.size W3 w'->w'.heap[gC]?=some (.cells #[.int .i64 EX,.slice Al nl cl,.slice Am nm cm,.slice Ad nd cd,.slice Av nv cv,.slice Ap NP cp,.slice Ao no co,.slice Ay ny ky,.slice Ar nr kr] 39 (0,0)) from fun w' hb=>(hb.block gC g3l).trans h3k);have HFS:=zh (show ∀w',Below W3.heap.size W3 w'->FleetS w' (Bl w'.heap.size) (.slice Al nl cl) (.slice Am nm cm) (.slice Ad nd cd) (.slice Av nv cv) (.slice Ap F.pols.length cp) (.slice Ao no co) F from fun w' hb=>HF2.out.below (hb3.trans (hb.mono hb3.size)));have HLS:=zh (show ∀w',Below W3.heap.size W3 w'->SlS 1 RowIK w' (Bl w'.heap.size) (.slice Ay ny ky) L from fun w' hb=>SlS.below rowIK HL2.out (hb3.trans (hb.mono hb3.size)));have HRM:=zh (show ∀w',Below W3.heap.size W3 w'->IntS w' (Bl w'.heap.size) (.slice Ar nr kr) RM from fun w' hb=>(HR2.out.keep (fun b hq=>(hb3.trans (hb.mono hb3.size)).block b hq)).mono (Bl.mono (hb3.trans (hb.mono hb3.size)).size));clear hW3 hgC h3k hb3 g3l hw3 HF2 HB2 HL2 HR2;have hra:=raised_any 3 _ _ _ _ _ _ F p m q W3 (HFS.out W3 (zB _ _)) HOK.out HI.out.1 HI.out.2.1 HI.out.2.2;rw[<-HEX.out,<-HNP.out] at hra;have HRA:=zh hra;clear hra;obtain⟨c0,c1,c2,c3,c4,c5,c6,c7,c8⟩:=cells9 (HC.out W3 (zB _ _));go_wp2_with fail;refine HRA.out.mono ?_;rintro e w4 ⟨pi,x,a,b,hx,hpi,ha3,ham,⟨hbm,hbq⟩,rfl,hb4⟩;clear HRA c0 c1 c2 c3 c4 c5 c6 c7 c8;have HB4:=zh hb4;have HX:=zh hx;obtain⟨M1,hM1⟩:=zx (x.m+(a:Int));obtain⟨Q1,hQ1⟩:=zx (x.k+(b:Int));rw[<-hM1,<-hQ1];have hpw:=(HOK.out.pols pi x hx).2.2;obtain⟨hk1,hm0,hm4,-,-,-,-,-,-,-,-,htg,-⟩:=hpw;have HM:=zh (show x.m<=M1/\M1<=6/\x.k<=Q1/\Q1<=x.k+M1/\0<=M1/\(x.k=1\/x.k=2) from⟨by omega,by omega,by omega,by omega,by omega,hk1⟩);have hpl:=(zL.1 hx).1;obtain⟨pb,pof,cs,hAp,hRp,hcl,hc,hK⟩:=(HFS.out w4 HB4.out).2.2.2.2.1.at_ (k:=pi) hpl;rw[(zL.1 hx).2] at hK;subst hAp;obtain⟨v1,v2,v3,v4,v5,v6,rfl,i1,i2,i3,i4,i5,i6⟩:=hK;rw[htg] at hc i3 i4;obtain⟨At3,kt3,rfl⟩:=ls_one i3 (by decide);obtain⟨At4,kt4,rfl⟩:=ls_one i4 (by decide);have e11:w4.cell? ⟨pb,pof+pi*17+11,none⟩=some (.bool false):=hc 11 _ rfl;have e12:w4.cell? ⟨pb,pof+pi*17+12,none⟩=some (.slice At3 1 kt3):=hc 12 _ rfl;have e13:w4.cell? ⟨pb,pof+pi*17+13,none⟩=some (.slice At4 1 kt4):=hc 13 _ rfl;have HT34:=zh (And.intro i3 i4)
 have lp:(pi:Int)<(NP:Int):=by rw[HNP.out];omega
 have HPI:=zh (show pi<NP/\NP<=2 from⟨by omega,by rw[HNP.out];exact HOK.out.polN⟩)
 have hrt:w4.rangeAt pb (pof+pi*17+11) [.bool false,.slice At3 1 kt3,.slice At4 1 kt4]:=fun k u hu=>by
  match k,hu with
  | 0,hu=>simp at hu;subst hu;exact e11
  | 1,hu=>simp at hu;subst hu;exact e12
  | 2,hu=>simp at hu;subst hu;exact e13
  | k+3,hu=>simp at hu
 have hpbl:pb<w4.heap.size:=hRp;obtain⟨W4,hW4⟩:=zx w4;rw[<-hW4] at HB4 HT34 hrt hpbl ⊢
 have HSR:=zh (show ∀w',Below W4.heap.size W4 w'->(fun w'=>w'.rangeAt gC 0 [.int .i64 EX,.slice Al nl cl,.slice Am nm cm,.slice Ad nd cd,.slice Av nv cv,.slice (some ⟨pb,pof,none⟩) NP cp,.slice Ao no co]/\w'.rangeAt pb (pof+pi*17+11) [.bool false,.slice At3 1 kt3,.slice At4 1 kt4]) w' from fun w' hb=>⟨fun k u hu=>by
  have h9:=HC.out w' (HB4.out.trans (hb.mono HB4.out.size));rw[cell_of_row _ _ _ _ _ _ h9,Nat.zero_add,<-Array.getElem?_toList]
  match k,hu with
  | 0,hu=>exact hu
  | 1,hu=>exact hu
  | 2,hu=>exact hu
  | 3,hu=>exact hu
  | 4,hu=>exact hu
  | 5,hu=>exact hu
  | 6,hu=>exact hu
  | k+7,hu=>simp at hu,range_same hrt (hb.block pb hpbl)⟩)
 have hf4:=HFS.out W4 HB4.out
 have hrs:=fun(Z0:Nat->Prop) (hZ:∀b,Z0 b->W4.heap.size<=b) (w':World) (hb:Below W4.heap.size W4 w') (hZ0:∀b,Z0 b->b<w'.heap.size)=>raise_uni Z0 3 (by omega) _ _ _ _ _ _ _ _ F pi x M1 Q1 w' ((hf4.keep (fun b hb'=>hb.block b hb')).mono (fun b hb'=>⟨zM hb' hb.size,fun e=>by have:=hZ b e;unfold Bl at hb';omega⟩)) hZ0 HOK.out HX.out HM.out.1 HM.out.2.1 HM.out.2.2.1 HM.out.2.2.2.1 (HT34.out.1.below hb) (HT34.out.2.below hb)
 rw[<-HEX.out,<-HNP.out] at hrs;have HRS:=zh hrs;clear hrs hf4 hx hpi ha3 ham hbm hbq hb4 hM1 hQ1 hk1 hm0 hm4 htg hpl hRp hcl hc i1 i2 i3 i4 i5 i6 e11 e12 e13 hrt hpbl hW4;go_upto_region 3 with fail;go_cut [11,12] from 35 to 50 (fun v11 v12 wc=>∃(gG:Nat) (ex er:Int) (E1 E2 E3 E4 E5 E6:Option Addr) (m1 m2 m3 m4 m5 m6 t1 t2 t3 t4 t5 t6:Nat),v11=.pointer (some ⟨gG,0,none⟩)/\v12=.int .i64 er/\Hid (Below W4.heap.size W4 wc)/\Hid (wc.rangeAt gG 0 [.int .i64 ex,.slice E1 m1 t1,.slice E2 m2 t2,.slice E3 m3 t3,.slice E4 m4 t4,.slice E5 m5 t5,.slice E6 m6 t6]/\gG<wc.heap.size)/\Hid ((4<M1/\er=5)\/(M1<=4/\er=0/\ex=EX/\FleetS wc (Bl wc.heap.size) (.slice E1 m1 t1) (.slice E2 m2 t2) (.slice E3 m3 t3) (.slice E4 m4 t4) (.slice E5 m5 t5) (.slice E6 m6 t6) (raiseM F pi M1 Q1))))
 case first =>
  refine region_tail (S:=(fun w'=>w'.rangeAt gC 0 [.int .i64 EX,.slice Al nl cl,.slice Am nm cm,.slice Ad nd cd,.slice Av nv cv,.slice (some ⟨pb,pof,none⟩) NP cp,.slice Ao no co]/\w'.rangeAt pb (pof+pi*17+11) [.bool false,.slice At3 1 kt3,.slice At4 1 kt4])) [] (by kernel_rfl) (HSR.out _ (zB _ _).drew) (fun hHeld=>?_);refine tk 0 36 ?_;refine takeT (i:=1) (d:=37) (v:=(.agg #[.int .i64 EX,.slice Al nl cl,.slice Am nm cm,.slice Ad nd cd,.slice Av nv cv,.slice (some ⟨pb,pof,none⟩) NP cp,.slice Ao no co])) rfl rfl (by kernel_rfl) (by kernel_rfl) (by kernel_rfl) (by kernel_rfl) (fun _ _ _ h=>h) (yieldsIf_load_mid (by rfl) 35 (.tmp 36) rfl gC 0 (by rfl) [.int .i64 EX,.slice Al nl cl,.slice Am nm cm,.slice Ad nd cd,.slice Av nv cv,.slice (some ⟨pb,pof,none⟩) NP cp,.slice Ao no co] _ (fun w hw=>hw.1) Tryz.underlying35 rfl size_fltE) (by assumption) ?_;(try simp only[Act.put,z1,z2,z3]);refine tk 2 38 ?_;refine tk 3 39 ?_;refine tk 4 40 ?_;refine tk 5 41 ?_;refine tk 6 42 ?_;refine takeT (i:=7) (d:=43) (v:=?_) rfl rfl (by kernel_rfl) (by kernel_rfl) (by kernel_rfl) (by kernel_rfl) (fun _ _ _ h=>h) (Or.inl ⟨by rfl,?_⟩) (by assumption) ?_;rotate_left
  ·(intro w hSw;(try dsimp only at hSw);(have c5:=hSw.1 5 _ rfl);go_simp;first | done | with_reducible rfl)
  (try simp only[Act.put,z1,z2,z3]);refine tk 8 44 ?_;refine tk 9 45 ?_;refine tk 10 46 ?_;refine takeT (i:=11) (d:=47) (v:=(.agg #[.bool false,.slice At3 1 kt3,.slice At4 1 kt4])) rfl rfl (by kernel_rfl) (by kernel_rfl) (by kernel_rfl) (by kernel_rfl) (fun _ _ _ h=>h) (yieldsIf_load_mid (by rfl) 26 (.tmp 46) rfl pb (pof+pi*17+11) (by rfl) [.bool false,.slice At3 1 kt3,.slice At4 1 kt4] _ (fun w hw=>hw.2) Tryz.underlying26 rfl size_frac7) (by assumption) ?_;(try simp only[Act.put,z1,z2,z3]);refine readyT (rs:=[12,16]) (by kernel_rfl) (by simp) ?_;refine zC rfl (fun K hK=>?_) ?_
  ·go_simp;(go_at_call 11;refine(HRS.out (fun _=>False) (fun _ h=>h.elim) _ (zB _ _).drew (fun _ h=>h.elim)).mono ?_;rintro e w6 ⟨ex,er,E1,E2,E3,E4,E5,E6,m1,m2,m3,m4,m5,m6,t1,t2,t3,t4,t5,t6,rfl,hb6,hcase⟩;have HB6:=zh (show Below W4.heap.size W4 w6 from((zB _ _).drew:Below W4.heap.size W4 W4.drew).trans hb6);have HX6:=zh hcase;clear hb6 hcase);go_wp2_with fail;refine hK.out _ _ ?_ (fun hHeld=>?_)
   ·exact HSR.out _ HB6.out
   clear hK K;(try simp only[Act.put,z1,z2,z3]);refine tk 13 35 ?_;refine tk 14 49 ?_;refine tk 15 50 ?_;refine readyT (rs:=[16]) (by kernel_rfl) (by simp) ?_;refine zC rfl (fun K hK=>?_) ?_
   ·go_simp;obtain⟨W7,hW7⟩:=zx (w6.alloc (.cells #[.int .i64 0,.slice none 0 0,.slice none 0 0,.slice none 0 0,.slice none 0 0,.slice none 0 0,.slice none 0 0] 35));obtain⟨gG,hgG⟩:=zx w6.heap.size;rw[<-hW7,<-hgG];have hk7:=(new7 hW7).1;have hb7:=(new7 hW7).2;rw[<-hgG] at hk7
    have hgs:W4.heap.size<=gG:=by rw[hgG];exact HB6.out.size
    have HTH:=zh (show W7.there gG 0 7 from there_new hk7 (zR 7));have HB7:=zh (HB6.out.trans (hb7.mono HB6.out.size));have HB67:=zh hb7;have HG6:=zh (show w6.heap.size<=gG by omega);have HGS:=zh hgs;have HGL:=zh (zA.1 hk7).1;clear hW7 hgG hk7 hb7 hgs;refine hK.out _ _ ?_ (fun hHeld=>?_)
    ·(first|exact HSR.out _ HB7.out|exact HSR.out _ HB5.out)
    clear hK K;(try simp only[Act.put,z1,z2,z3]);refine readyT (rs:=[17]) (by kernel_rfl) (by simp) ?_;refine zC rfl (fun K hK=>?_) ?_
    ·refine wp_store_mid 35 (.tmp 11) (.tmp 49) rfl gG 0 #[.int .i64 ex,.slice E1 m1 t1,.slice E2 m2 t2,.slice E3 m3 t3,.slice E4 m4 t4,.slice E5 m5 t5,.slice E6 m6 t6] (by rfl) (by rfl) HTH.out size_fltE (by simp[Value.oneCell']) ?_;simp only[List.toList_toArray];have hgr:=World.rangeAt_setCells_same W7 gG 0 [.int .i64 ex,.slice E1 m1 t1,.slice E2 m2 t2,.slice E3 m3 t3,.slice E4 m4 t4,.slice E5 m5 t5,.slice E6 m6 t6] HTH.out;have hbz:Below W4.heap.size W4 (World.setCells W7 gG 0 [.int .i64 ex,.slice E1 m1 t1,.slice E2 m2 t2,.slice E3 m3 t3,.slice E4 m4 t4,.slice E5 m5 t5,.slice E6 m6 t6]):=below_setCellsV HGS.out _ _ _ HB7.out
     have hkp:∀b,b≠gG->(World.setCells W7 gG 0 [.int .i64 ex,.slice E1 m1 t1,.slice E2 m2 t2,.slice E3 m3 t3,.slice E4 m4 t4,.slice E5 m5 t5,.slice E6 m6 t6]).heap[b]?=W7.heap[b]?:=fun b hb=>setCells_other _ _ _ _ hb
     have hsz:=setCells_sizeK (g:=gG) [.int .i64 ex,.slice E1 m1 t1,.slice E2 m2 t2,.slice E3 m3 t3,.slice E4 m4 t4,.slice E5 m5 t5,.slice E6 m6 t6] 0 W7;obtain⟨W8,hW8⟩:=zx (World.setCells W7 gG 0 [.int .i64 ex,.slice E1 m1 t1,.slice E2 m2 t2,.slice E3 m3 t3,.slice E4 m4 t4,.slice E5 m5 t5,.slice E6 m6 t6]);rw[<-hW8] at hgr hbz hkp hsz ⊢;clear hW8;have HGR:=zh hgr;have HB8:=zh hbz;have HKP:=zh (show(∀b,b≠gG->W8.heap[b]?=W7.heap[b]?)/\W8.heap.size=W7.heap.size from⟨hkp,hsz⟩);clear hgr hbz hkp hsz;refine hK.out _ _ ?_ (fun hHeld=>?_)
     ·exact HSR.out _ HB8.out
     clear hK K;(try simp only[Act.put,z1,z2,z3]);refine tk 18 12 ?_;refine doneT (by kernel_rfl) ?_ _;clear hHeld;have h6:=HX6.out
     have hc:(4<M1/\er=5)\/(M1<=4/\er=0/\ex=EX/\FleetS W8 (Bl W8.heap.size) (.slice E1 m1 t1) (.slice E2 m2 t2) (.slice E3 m3 t3) (.slice E4 m4 t4) (.slice E5 m5 t5) (.slice E6 m6 t6) (raiseM F pi M1 Q1)):=by
      rcases h6 with h | ⟨h1,h2,h3,h4⟩
      ·exact .inl h
      ·exact .inr ⟨h1,h2,h3,(h4.keep (fun b hb=>(HKP.out.1 b (by have h7:=hb.1;have h8:=HG6.out;omega)).trans (HB67.out.block b hb.1))).mono (fun b hb=>by unfold Bl;rw[HKP.out.2];exact zM hb.1 HB67.out.size)⟩
     have HCC:=zh hc;have HGR2:=zh (show W8.rangeAt gG 0 [.int .i64 ex,.slice E1 m1 t1,.slice E2 m2 t2,.slice E3 m3 t3,.slice E4 m4 t4,.slice E5 m5 t5,.slice E6 m6 t6]/\gG<W8.heap.size from⟨HGR.out,by rw[HKP.out.2];exact HGL.out⟩);clear hc h6;go_wp2_with fail;go_meet;exact⟨gG,ex,er,E1,E2,E3,E4,E5,E6,m1,m2,m3,m4,m5,m6,t1,t2,t3,t4,t5,t6,rfl,rfl,HB8,HGR2,HCC⟩
    exact zE
   exact zE
  refine zC rfl (fun K hK=>?_) ?_
  ·go_simp;obtain⟨W5,hW5⟩:=zx ((W4.alloc (.cells #[.int .i64 0,.slice none 0 0,.slice none 0 0,.slice none 0 0,.slice none 0 0,.slice none 0 0,.slice none 0 0] 35)).drew);obtain⟨gG,hgG⟩:=zx W4.heap.size;rw[<-hW5,<-hgG]
   have hk5:W5.heap[gG]?=some (.cells #[.int .i64 0,.slice none 0 0,.slice none 0 0,.slice none 0 0,.slice none 0 0,.slice none 0 0,.slice none 0 0] 35 (0,0)):=by rw[hW5,hgG];exact zN W4 _
   have hb5:Below W4.heap.size W4 W5:=by rw[hW5];exact((zB _ _).alloc (zR _) _).drew
   have HB5:=zh hb5;have HK5:=zh hk5;have HG5:=zh (show W4.heap.size<=gG/\gG<W5.heap.size from⟨by omega,(zA.1 hk5).1⟩);clear hW5 hgG hb5 hk5;refine hK.out _ _ ?_ (fun hHeld=>?_)
   ·(first|exact HSR.out _ HB7.out|exact HSR.out _ HB5.out)
   clear hK K;(try simp only[Act.put,z1,z2,z3]);refine readyT (rs:=[12]) (by kernel_rfl) (by simp) ?_;refine zC rfl (fun K hK=>?_) ?_
   ·go_simp;(go_at_call 11;refine(HRS.out (fun b=>b=gG) (fun b e=>by subst e;exact HG5.out.1) W5 HB5.out (fun b e=>by subst e;exact HG5.out.2)).mono ?_;rintro e w6 ⟨ex,er,E1,E2,E3,E4,E5,E6,m1,m2,m3,m4,m5,m6,t1,t2,t3,t4,t5,t6,rfl,hb6,hcase⟩;have HB6:=zh (show Below W4.heap.size W4 w6 from HB5.out.trans (hb6.mono HB5.out.size));have HX6:=zh hcase;have HB56:=zh hb6;clear hb6 hcase);go_wp2_with fail;refine hK.out _ _ ?_ (fun hHeld=>?_)
    ·exact HSR.out _ HB6.out
    clear hK K;(try simp only[Act.put,z1,z2,z3]);refine tk 13 35 ?_;refine tk 14 49 ?_;refine tk 15 50 ?_;refine readyT (rs:=[17]) (by kernel_rfl) (by simp) ?_;refine zC rfl (fun K hK=>?_) ?_
    ·have HTH:=zh (show w6.there gG 0 7 from there_new ((HB56.out.block gG HG5.out.2).trans HK5.out) (zR 7));have HGS:=zh HG5.out.1;have HGL:=zh (zM HG5.out.2 HB56.out.size);refine wp_store_mid 35 (.tmp 11) (.tmp 49) rfl gG 0 #[.int .i64 ex,.slice E1 m1 t1,.slice E2 m2 t2,.slice E3 m3 t3,.slice E4 m4 t4,.slice E5 m5 t5,.slice E6 m6 t6] (by rfl) (by rfl) HTH.out size_fltE (by simp[Value.oneCell']) ?_;simp only[List.toList_toArray];have hgr:=World.rangeAt_setCells_same w6 gG 0 [.int .i64 ex,.slice E1 m1 t1,.slice E2 m2 t2,.slice E3 m3 t3,.slice E4 m4 t4,.slice E5 m5 t5,.slice E6 m6 t6] HTH.out;have hbz:Below W4.heap.size W4 (World.setCells w6 gG 0 [.int .i64 ex,.slice E1 m1 t1,.slice E2 m2 t2,.slice E3 m3 t3,.slice E4 m4 t4,.slice E5 m5 t5,.slice E6 m6 t6]):=below_setCellsV HGS.out _ _ _ HB6.out
     have hkp:∀b,b≠gG->(World.setCells w6 gG 0 [.int .i64 ex,.slice E1 m1 t1,.slice E2 m2 t2,.slice E3 m3 t3,.slice E4 m4 t4,.slice E5 m5 t5,.slice E6 m6 t6]).heap[b]?=w6.heap[b]?:=fun b hb=>setCells_other _ _ _ _ hb
     have hsz:=setCells_sizeK (g:=gG) [.int .i64 ex,.slice E1 m1 t1,.slice E2 m2 t2,.slice E3 m3 t3,.slice E4 m4 t4,.slice E5 m5 t5,.slice E6 m6 t6] 0 w6;obtain⟨W8,hW8⟩:=zx (World.setCells w6 gG 0 [.int .i64 ex,.slice E1 m1 t1,.slice E2 m2 t2,.slice E3 m3 t3,.slice E4 m4 t4,.slice E5 m5 t5,.slice E6 m6 t6]);rw[<-hW8] at hgr hbz hkp hsz ⊢;clear hW8;have HGR:=zh hgr;have HB8:=zh hbz;have HKP:=zh (show(∀b,b≠gG->W8.heap[b]?=w6.heap[b]?)/\W8.heap.size=w6.heap.size from⟨hkp,hsz⟩);clear hgr hbz hkp hsz;refine hK.out _ _ ?_ (fun hHeld=>?_)
     ·exact HSR.out _ HB8.out
     clear hK K;(try simp only[Act.put,z1,z2,z3]);refine tk 18 12 ?_;refine doneT (by kernel_rfl) ?_ _;clear hHeld;have h6:=HX6.out
     have hc:(4<M1/\er=5)\/(M1<=4/\er=0/\ex=EX/\FleetS W8 (Bl W8.heap.size) (.slice E1 m1 t1) (.slice E2 m2 t2) (.slice E3 m3 t3) (.slice E4 m4 t4) (.slice E5 m5 t5) (.slice E6 m6 t6) (raiseM F pi M1 Q1)):=by
      rcases h6 with h | ⟨h1,h2,h3,h4⟩
      ·exact .inl h
      ·exact .inr ⟨h1,h2,h3,(h4.keep (fun b hb=>HKP.out.1 b hb.2)).mono (fun b hb=>by unfold Bl;rw[HKP.out.2];exact hb.1)⟩
     have HCC:=zh hc;have HGR2:=zh (show W8.rangeAt gG 0 [.int .i64 ex,.slice E1 m1 t1,.slice E2 m2 t2,.slice E3 m3 t3,.slice E4 m4 t4,.slice E5 m5 t5,.slice E6 m6 t6]/\gG<W8.heap.size from⟨HGR.out,by rw[HKP.out.2];exact HGL.out⟩);clear hc h6;go_wp2_with fail;go_meet;exact⟨gG,ex,er,E1,E2,E3,E4,E5,E6,m1,m2,m3,m4,m5,m6,t1,t2,t3,t4,t5,t6,rfl,rfl,HB8,HGR2,HCC⟩
    exact zE
   exact zE
  exact zE
 case rest =>
  obtain⟨gG,ex,er,E1,E2,E3,E4,E5,E6,m1,m2,m3,m4,m5,m6,t1,t2,t3,t4,t5,t6,rfl,rfl,HBC,HGR,HCC⟩:=hcut;clear HRS;rcases HCC.out with ⟨h4,her⟩ | ⟨h4,her,hex,hg⟩
  ·subst her;clear HCC h4 HGR HSR;go_wp2_with fail;refine(awake_any wc).mono ?_;rintro e w9 ⟨rfl,hb9⟩;have HB9:=zh (HB4.out.trans ((HBC.out.trans (hb9.mono HBC.out.size)).mono HB4.out.size));clear hb9;go_wp2_with fail;go_ret;exact⟨rfl,HBW.out w9 HB9.out⟩
  ·subst her;rw[hex] at HGR;obtain⟨G,hG⟩:=zx (raiseM F pi M1 Q1);rw[<-hG] at hg
   have hgext:G.ext=F.ext:=by rw[hG];rfl
   have hgok:FleetOk 3 G:=by rw[hG];exact raise_ok HOK.out HX.out HM.out.2.2.2.2.1 h4 HM.out.2.2.1 HM.out.2.2.2.1
   have hsz:∀v,v<F.vols.length->szN F v<=szN G v:=fun v hv=>by
    rw[hG];rw[hG] at hgok;exact sz_up HOK.out hgok HX.out HM.out.1 hv
   have hgv:F.vols.length=G.vols.length:=by rw[hG];rfl
   have hgd:F.dves.length=G.dves.length:=by rw[hG];rfl
   obtain⟨WC,hWC⟩:=zx wc;rw[<-hWC] at HBC HGR hg ⊢;have HB0:=zh (HB4.out.trans (HBC.out.mono HB4.out.size));have HGC:=zh (show ∀w',Below WC.heap.size WC w'->(w'.rangeAt gG 0 [.int .i64 EX,.slice E1 m1 t1,.slice E2 m2 t2,.slice E3 m3 t3,.slice E4 m4 t4,.slice E5 m5 t5,.slice E6 m6 t6]/\FleetS w' (Bl w'.heap.size) (.slice E1 m1 t1) (.slice E2 m2 t2) (.slice E3 m3 t3) (.slice E4 m4 t4) (.slice E5 m5 t5) (.slice E6 m6 t6) G/\Below W3.heap.size W3 w') from fun w' hb=>⟨range_same HGR.out.1 (hb.block gG HGR.out.2),hg.below hb,HB0.out.trans (hb.mono HB0.out.size)⟩);have hlg:LayOk G G.vols.length (extL G L):=ext_ok HLO.out hgv hgd hsz;have HGG:=zh (show G.ext=EX/\FleetOk 3 G/\(∀v,v<F.vols.length->szN F v<=szN G v)/\LayOk G G.vols.length (extL G L) from⟨by rw[hgext,HEX.out],hgok,hsz,hlg⟩)
   have hep:=fun(w':World) (hb:Below WC.heap.size WC w')=>pextend_any 3 (by omega) _ _ _ _ _ _ _ _ _ _ _ _ _ F G L w' (HFS.out w' (HGC.out w' hb).2.2) HOK.out (HGC.out w' hb).2.1 hgok hgv hgd (HLS.out w' (HGC.out w' hb).2.2) HLO.out
   rw[hgext,<-HEX.out,<-HNP.out] at hep;have HEP:=zh hep;clear hG hg hgext hgok hsz hgv hgd hWC hep hex h4 HCC HSR hlg;obtain⟨c0,c1,c2,c3,c4,c5,c6⟩:=seven_of (HGC.out WC (zB _ _)).1;obtain⟨d0,d1,d2,d3,d4,d5,d6,d7,d8⟩:=cells9 (HC.out WC (HGC.out WC (zB _ _)).2.2);go_wp2_with fail;refine(HEP.out WC (zB _ _)).mono ?_;rintro e w7 ⟨hb7,hcase⟩;obtain⟨W7,hW7⟩:=zx w7;rw[<-hW7] at hb7 hcase ⊢;have HB7:=zh hb7;clear hb7 c0 c1 c2 c3 c4 c5 c6 d0 d1 d2 d3 d4 d5 d6 d7 d8 hW7;rcases hcase with ⟨rfl,v,hv,hlt⟩ | ⟨Aa,na,ka,rfl,hsa,-⟩
   ·exact absurd (HGG.out.2.2.1 v hv) (by omega)
   ·obtain⟨EL,hEL⟩:=zx (extL G L);rw[<-hEL] at hsa HGG;have HSA:=zh (show ∀w',Below W7.heap.size W7 w'->SlS 1 RowIK w' (Bl w'.heap.size) (.slice Aa na ka) EL from fun w' hb=>SlS.below rowIK hsa hb);obtain⟨NV,hNV⟩:=zx G.vols.length
    have hel:EL.length=NV:=by rw[hNV];exact HGG.out.2.2.2.1
    obtain⟨AL,cL,hvL,-⟩:=hsa.form
    have hna:na=NV:=by injection hvL with _ e _;rw[e,hel]
    subst hna
    have hlen:∀v,v<na->(EL.getD v []).length<=6:=fun v hv=>by
     have hvl:v<EL.length:=by rw[hel];exact hv
     have he:EL.getD v []=EL[v]:=by rw[List.getD_eq_getElem?_getD,zG hvl];rfl
     have hz:=szN_range HGG.out.2.1 (v:=v) (by rw[<-hNV];exact hv);rw[he,(HGG.out.2.2.2.2 v _ (zG hvl)).1];exact hz.2
    have HRL:=zh (show ∀v,v<na->∃(lb lof:Nat) (A:Option Addr) (c:Nat),Aa=some ⟨lb,lof,none⟩/\W7.cell? ⟨lb,lof+v,none⟩=some (.slice A (EL.getD v []).length c)/\IntS W7 (Bl W7.heap.size) (.slice A (EL.getD v []).length c) (EL.getD v []) from fun v hv=>by
     have hvl:v<EL.length:=by rw[hel];exact hv
     obtain⟨b,off,cs,e,hR,-,hc,vr,rfl,hr⟩:=hsa.at_ (k:=v) hvl;have hr':=hr;obtain⟨A,c,rfl,-⟩:=hr.1
     have he:EL.getD v []=EL[v]:=by rw[List.getD_eq_getElem?_getD,zG hvl];rfl
     exact⟨b,off,A,c,e,by rw[he];have:=hc 0 _ rfl;simpa using this,by rw[he];exact hr'⟩)
    have HLN:=zh hlen;have HFB:=zh (fun k hk=>fresh_le EL hlen k hk);have HNV:=zh (show na=G.vols.length/\na<=12 from⟨hNV,by rw[hNV];have:=HGG.out.2.1.volN;omega⟩);clear hsa hEL hNV hel hvL hlen;go_wp2_with fail;go_loopg [15,16] na (fun z v15 v16 wr=>∃v:Nat,v<=na/\z=na-v/\v15=.int .i64 ((freshN EL v:Nat):Int)/\v16=.int .i64 (v:Int)/\W7=wr)
    case atStart=>exact⟨0,by omega,rfl,rfl,rfl,rfl⟩
    case round =>
     obtain⟨v,hv,rfl,rfl,rfl,rfl⟩:=hrel;by_cases hlt:v<na
     ·have i1:(v:Int)<(na:Int):=by omega
      have HLT:=zh hlt
      have v12:(na:Int)<=12:=by have:=HNV.out.2;omega
      obtain⟨lb,lof,A,c,hAa,hcl,hir⟩:=HRL.out v hlt;subst hAa;have h6:=HLN.out v hlt;have hfb:=HFB.out v (by omega);have hv12:=HNV.out.2;obtain⟨l,hl⟩:=zx (EL.getD v []);rw[<-hl] at hcl hir h6
      have hfs:freshN EL (v+1)=freshN EL v+freshR l:=by rw[hl];rfl
      obtain⟨S0,hS0⟩:=zx (freshN EL v);rw[<-hS0] at hfs hfb ⊢;obtain⟨LN,hLN⟩:=zx l.length;rw[<-hLN] at hcl hir h6;have HFS2:=zh (show freshN EL (v+1)=S0+freshR l/\LN=l.length/\LN<=6/\S0<=72 from⟨hfs,hLN,h6,by omega⟩);have HIR:=zh hir;clear hlt hir h6 hfb hv12 hl hfs hS0 hLN;go_wp2_with fail;go_loopg [15,17] LN (fun z v15 v17 wr=>∃i:Nat,i<=LN/\z=LN-i/\v15=.int .i64 ((S0+freshR (l.take i):Nat):Int)/\v17=.int .i64 (i:Int)/\W7=wr)
      case atStart=>exact⟨0,by omega,rfl,rfl,rfl,rfl⟩
      case round =>
       obtain⟨i,hi,rfl,rfl,rfl,rfl⟩:=hrel;by_cases hlt:i<LN
       ·have i2:(i:Int)<(LN:Int):=by omega
        have HLT2:=zh hlt
        have l6:(LN:Int)<=6:=by have:=HFS2.out.2.2.1;omega
        obtain⟨rb,rof,hA,-,hrc⟩:=ints_at HIR.out (by have:=HFS2.out.2.1;omega);have hx:=hrc i (by have:=HFS2.out.2.1;omega) W7 rfl;subst hA;have ht:=freshR_take l i (by have:=HFS2.out.2.1;omega);have htl:=freshR_le (l.take i)
        have htm:(l.take i).length<=6:=by rw[List.length_take];have:=HFS2.out.2.2.1;omega
        have hs72:=HFS2.out.2.2.2;obtain⟨X,hX⟩:=zx (gt l i);rw[<-hX] at hx ht;obtain⟨T0,hT0⟩:=zx (freshR (l.take i));rw[<-hT0] at ht htl ⊢;obtain⟨S1,hS1⟩:=zx (S0+T0);rw[<-hS1];have HTT:=zh (show freshR (l.take (i+1))=T0+(if X<0 then 1 else 0)/\S1=S0+T0/\S1<=78 from⟨ht,hS1,by omega⟩);clear hlt hrc hX hT0 hS1 ht htl htm hs72;by_cases hx0:X<0
        ·have hx0':=zh hx0;have HTE:=zh (show S0+freshR (l.take (i+1))=S1+1 from by rw[HTT.out.1,if_pos hx0,HTT.out.2.1];omega)
         have s78:(S1:Int)<=78:=by have:=HTT.out.2.2;omega
         go_wp2_with fail;go_roundg (LN-(i+1))
         case measure=>have:=HLT2.out;omega
         case rel=>exact⟨i+1,by have:=HLT2.out;omega,rfl,by rw[HTE.out];go_num,by go_num,rfl⟩
        ·have hx0':=zh hx0;have HTE:=zh (show S0+freshR (l.take (i+1))=S1 from by rw[HTT.out.1,if_neg hx0,HTT.out.2.1];omega)
         have hge:0<=X:=by omega
         clear hx0;go_wp2_with fail;go_roundg (LN-(i+1))
         case measure=>have:=HLT2.out;omega
         case rel=>exact⟨i+1,by have:=HLT2.out;omega,rfl,by rw[HTE.out],by go_num,rfl⟩
       ·have HIE:=zh (show i=LN by omega);go_wp2_with fail;go_roundg (na-(v+1))
        case measure=>have:=HLT.out;omega
        case rel=>exact⟨v+1,by have:=HLT.out;omega,rfl,by rw[HFS2.out.1,HIE.out,HFS2.out.2.1,List.take_length],by go_num,rfl⟩
     ·have hve:v=na:=by omega
      subst hve
      have hls:=fun(w':World) (hb:Below W7.heap.size W7 w')=>least_any 3 (by omega) _ _ _ _ _ _ _ _ G EL RM w' (HRM.out w' (HGC.out w' (HB7.out.trans (hb.mono HB7.out.size))).2.2) (HGC.out w' (HB7.out.trans (hb.mono HB7.out.size))).2.1 HGG.out.2.1 (HSA.out w' hb) HGG.out.2.2.2
      rw[HGG.out.1,<-HNV.out.1] at hls;obtain⟨FN,hFN⟩:=zx (freshN EL v);rw[<-hFN] at hls ⊢;have HLS2:=zh hls;clear hls hFN hv hlt;obtain⟨c0,c1,c2,c3,c4,c5,c6⟩:=seven_of (HGC.out W7 HB7.out).1;obtain⟨d0,d1,d2,d3,d4,d5,d6,d7,d8⟩:=cells9 (HC.out W7 (HGC.out W7 HB7.out).2.2);go_wp2_with fail;refine(HLS2.out W7 (zB _ _)).mono ?_;rintro e w8 ⟨hb8,P,pn,pc,mv,Q,qn,qc,er,rfl,hce⟩;have HB8:=zh (HB7.out.trans (hb8.mono HB7.out.size));clear hb8 c0 c1 c2 c3 c4 c5 c6 d0 d1 d2 d3 d4 d5 d6 d7 d8 HLS2;have HCE:=zh hce;clear hce;go_upto_region 19 with fail;obtain⟨W9,hW9⟩:=zx (w8.alloc (.cells #[.slice P pn pc,.int .i64 mv,.slice Q qn qc] 65));obtain⟨gT2,hgT2⟩:=zx w8.heap.size;rw[<-hW9,<-hgT2]
      have h9k:W9.heap[gT2]?=some (.cells #[.slice P pn pc,.int .i64 mv,.slice Q qn qc] 65 (0,0)):=by rw[hW9,hgT2];exact zN _ _
      have hb9:Below w8.heap.size w8 W9:=by rw[hW9];exact(zB _ _).alloc (zR _) _
      have HB9:=zh (HB8.out.trans (hb9.mono HB8.out.size))
      have HMV:=zh (show ∀w',Below W9.heap.size W9 w'->w'.cell? ⟨gT2,1,none⟩=some (.int .i64 mv) from fun w' hb=>by
       rw[cell_of_row _ _ _ _ _ _ ((hb.block gT2 (zA.1 h9k).1).trans h9k)];rfl)
      clear hW9 hgT2 h9k hb9;go_wp2_with fail;refine(awake_any W9).mono ?_;rintro e w10 ⟨rfl,hb10⟩;have hm1:=HMV.out w10 hb10;have HBX:=zh (HB9.out.trans (hb10.mono HB9.out.size));clear hb10;rcases HCE.out with her | ⟨her,hge⟩
      ·subst her;clear HCE;go_wp2_with fail;go_ret;exact⟨rfl,HBW.out w10 (HGC.out w10 HBX.out).2.2⟩
      ·subst her;clear HCE
       have hgn:¬(mv<(FN:Int)):=by omega
       go_wp2_with fail;go_ret;exact⟨rfl,HBW.out w10 (HGC.out w10 HBX.out).2.2⟩
open Go.RowKit Go.ChangeShapes Go.WideShapes Go.ChangeAt Go.Deep Go.Joins
theorem wf_i64{x:Int}(h:(Lit.int .i64 x).wf=true):I64 x:=by
 simpa[Lit.wf,IntKind.min,IntKind.max,IntKind.signed,IntKind.bits,I64] using h
section
variable {H : Type} {enc : TypeId × Value -> H} {P : Program} {W : World}
theorem open_intS{t e:TypeId}{spare:Nat->Bool}{held:Bool}{base fuel:Nat}{v:Value}{x:DataW H×List MemPlace}(ht:P.underlying t=some (.slice e))(he:P.underlying e=some (.int .i64))(hc:P.cellsOf e=1)
  (h:DataW.trod enc P W base spare held fuel t [v]=some x):∃xs,IntS W (Bl W.heap.size) v xs:=by
 rcases open_ints ht he hc h with ⟨hcs,_⟩ | ⟨a,len,cap,zs,hcs,_,hl,hm,hz,_,hcell,hwz⟩
 ·simp at hcs;subst hcs;exact⟨[],IntS.nil _ _ _⟩
 ·simp at hcs;subst hcs
  have hzl:len<=zs.length:=by rw[hz];split <;> omega
  have hxl:(zs.take len).length=len:=by rw[List.length_take];omega
  refine⟨zs.take len,⟨some a,cap,by rw[hxl],by rw[hxl];exact hl,by rw[hxl];omega,fun hn=>?_⟩,fun y hy=>wf_i64 (hwz y (List.mem_of_mem_take hy))⟩;rw[hxl] at hn;obtain⟨b,off,spot⟩:=a;have g0:=hcell 0 (by omega)
  have hspot:spot=none:=by simpa[Addr.add] using World.cell?_spot g0
  subst hspot;have hb:=block_lt_of_cell g0;refine⟨b,off,rfl,by simpa[Addr.add,Bl] using hb,fun k y hk=>?_⟩;have hkl:k<(zs.take len).length:=(zL.1 hk).1;rw[hxl] at hkl;have g:=hcell k (by omega)
  have e1:(⟨b,off,none⟩:Addr).add k=⟨b,off+k,none⟩:=by unfold Addr.add;split <;> simp_all
  rw[e1] at g;rw[g];rw[List.getElem?_take_of_lt hkl] at hk;rw[List.getD,hk];rfl
end
end Go.Proofs.YtgfaieppacabjaaGreat
