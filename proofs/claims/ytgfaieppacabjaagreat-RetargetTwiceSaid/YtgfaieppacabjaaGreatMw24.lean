/- The law RetargetTwice, walked. -/
import Derived.BigQuiet
import Derived.Deep.QuietTactic
import Derived.Deep.MidRow
import Derived.Test.YtgfaieppacabjaaGreatMw05
import Derived.Test.YtgfaieppacabjaaGreatMw21
import Derived.Test.YtgfaieppacabjaaGreatMw23
import Derived.Test.YtgfaieppacabjaaGreatMw01
import Derived.ProofKit
import Derived.OpenShut
import Derived.Lib.SmallJoins
import Derived.Deep.Slices
import Derived.Deep.Fields
import Derived.ChangeSame
set_option linter.unusedSectionVars false
set_option maxRecDepth 100000
set_option maxHeartbeats 12800000
namespace Go.Proofs.YtgfaieppacabjaaGreat
open Go.RowKit
set_option linter.unusedVariables false
set_option linter.unusedSimpArgs false
theorem within_in{x n:Nat} (h:x<n):within (x:Int) (n:Int)=(x:Int):=by
 unfold within
 rw[if_neg (by omega),Int.emod_eq_of_lt (by omega) (by omega)]
theorem cells9{W:World} {g:Nat} {a b c d e f h i j:Value} {t:TypeId} (q:W.heap[g]?=some (.cells #[a,b,c,d,e,f,h,i,j] t (0,0))):W.cell? ⟨g,0,none⟩=some a∧W.cell? ⟨g,1,none⟩=some b∧W.cell? ⟨g,2,none⟩=some c∧W.cell? ⟨g,3,none⟩=some d∧W.cell? ⟨g,4,none⟩=some e∧W.cell? ⟨g,5,none⟩=some f∧W.cell? ⟨g,6,none⟩=some h∧W.cell? ⟨g,7,none⟩=some i∧W.cell? ⟨g,8,none⟩=some j:=by
 refine⟨?_,?_,?_,?_,?_,?_,?_,?_,?_⟩ <;> (rw[cell_of_row _ _ _ _ _ _ q];rfl)
theorem new7{w W:World} {a b c d e f g:Value} {t:TypeId} (h:W=w.alloc (.cells #[a,b,c,d,e,f,g] t)):W.heap[w.heap.size]?=some (.cells #[a,b,c,d,e,f,g] t (0,0))∧Below w.heap.size w W:=by
 subst h
 exact⟨heap_alloc_new _ _,(Below.refl _ _).alloc (Nat.le_refl _) _⟩
theorem twice_any(vt:Value) (xs:List Int) (p m q n r:Int) (w:World) (hx:IntS w (Bl w.heap.size) vt xs) (hp:I64 p) (hm:I64 m) (hq:I64 q) (hn:I64 n) (hr:I64 r) :
  Calls Tryz.prog 4 #[vt,.int .i64 p,.int .i64 m,.int .i64 q,.int .i64 n,.int .i64 r] w fun e w'=>e=.returned (.bool true)∧Below w.heap.size w w':=by
 have HMD:=zh (made35_any vt xs w hx)
 obtain⟨At,nt,ct,rfl⟩:∃A n c,vt=.slice A n c:=by obtain⟨A,c,e,-⟩:=hx.1;exact⟨A,_,c,e⟩
 have HI:=zh (And.intro hp (And.intro hm (And.intro hq (And.intro hn hr))))
 clear hx hp hm hq hn hr
 go_enter Tryz.func4,Tryz.ntmps4
 go_wp2_with fail
 refine HMD.out.mono ?_
 rintro e w2 ⟨vl,vm,vd,vv,vp,vo,vy,Ar,nr,kr,gT,F,L,rfl,hf,hly,hok,-,hb2⟩
 clear HMD
 obtain⟨Al,nl,cl,rfl⟩:=hf.1.form3
 obtain⟨Am,nm,cm,rfl⟩:=hf.2.1.form3
 obtain⟨Ad,nd,cd,rfl⟩:=hf.2.2.1.form3
 obtain⟨Av,nv,cv,rfl⟩:=hf.2.2.2.1.form3
 obtain⟨Ap,cp,hvp,-⟩:=hf.2.2.2.2.1.form
 subst hvp
 obtain⟨Ao,no,co,rfl⟩:=hf.2.2.2.2.2.form3
 obtain⟨Ay,ny,ky,rfl⟩:=hly.form3
 obtain⟨EX,hEX⟩:=zx F.ext
 obtain⟨NP,hNP⟩:=zx F.pols.length
 have hf2:FleetS w2 (Bl w2.heap.size) (.slice Al nl cl) (.slice Am nm cm) (.slice Ad nd cd) (.slice Av nv cv) (.slice Ap F.pols.length cp) (.slice Ao no co) F:=hf.mono (fun b hb=>hb.2)
 have HB2:=zh hb2
 have HF2:=zh hf2
 have HOK:=zh hok
 have HEX:=zh hEX
 have HNP:=zh hNP
 rw[←hEX,←hNP]
 clear hf hf2 hly hok hEX hNP hb2
 go_upto_region 2 with fail
 obtain⟨W3,hW3⟩:=zx (w2.alloc (.cells #[.int .i64 EX,.slice Al nl cl,.slice Am nm cm,.slice Ad nd cd,.slice Av nv cv,.slice Ap NP cp,.slice Ao no co,.slice Ay ny ky,.slice Ar nr kr] 39))
 obtain⟨gC,hgC⟩:=zx w2.heap.size
 rw[←hW3,←hgC]
 have h3k:W3.heap[gC]?=some (.cells #[.int .i64 EX,.slice Al nl cl,.slice Am nm cm,.slice Ad nd cd,.slice Av nv cv,.slice Ap NP cp,.slice Ao no co,.slice Ay ny ky,.slice Ar nr kr] 39 (0,0)):=by rw[hW3,hgC];exact heap_alloc_new _ _
 have hb3:Below w2.heap.size w2 W3:=by rw[hW3];exact(Below.refl _ _).alloc (Nat.le_refl _) _
 have g3l:gC<W3.heap.size:=(Array.getElem?_eq_some_iff.1 h3k).1
 have hw3:=HB2.out.trans (hb3.mono HB2.out.size)
 have HBW:=zh (show ∀w',Below W3.heap.size W3 w'→Below w.heap.size w w' from fun w' hb=>hw3.trans (hb.mono hw3.size))
 have HC:=zh (show ∀w',Below W3.heap.size W3 w'→w'.heap[gC]?=some (.cells #[.int .i64 EX,.slice Al nl cl,.slice Am nm cm,.slice Ad nd cd,.slice Av nv cv,.slice Ap NP cp,.slice Ao no co,.slice Ay ny ky,.slice Ar nr kr] 39 (0,0)) from fun w' hb=>(hb.block gC g3l).trans h3k)
 have HFS:=zh (show ∀w',Below W3.heap.size W3 w'→FleetS w' (Bl w'.heap.size) (.slice Al nl cl) (.slice Am nm cm) (.slice Ad nd cd) (.slice Av nv cv) (.slice Ap F.pols.length cp) (.slice Ao no co) F from fun w' hb=>HF2.out.below (hb3.trans (hb.mono hb3.size)))
 clear hW3 hgC h3k hb3 g3l hw3 HF2 HB2
 have hra:=raised_any 3 _ _ _ _ _ _ F p m q W3 (HFS.out W3 (Below.refl _ _)) HOK.out HI.out.1 HI.out.2.1 HI.out.2.2.1
 rw[←HEX.out,←HNP.out] at hra
 have HRA:=zh hra
 clear hra
 obtain⟨c0,c1,c2,c3,c4,c5,c6,c7,c8⟩:=cells9 (HC.out W3 (Below.refl _ _))
 go_wp2_with fail
 refine HRA.out.mono ?_
 rintro e w4 ⟨pi,x,a,b,hx,hpi,ha3,ham,⟨hbm,hbq⟩,rfl,hb4⟩
 clear HRA c0 c1 c2 c3 c4 c5 c6 c7 c8
 have HB4:=zh hb4
 have HX:=zh hx
 obtain⟨M1,hM1⟩:=zx (x.m+(a:Int))
 obtain⟨Q1,hQ1⟩:=zx (x.k+(b:Int))
 rw[←hM1,←hQ1]
 have hpw:=(HOK.out.pols pi x hx).2.2
 obtain⟨hk1,hm0,hm4,-,-,-,-,-,-,-,-,htg,-⟩:=hpw
 have HM:=zh (show x.m≤M1∧M1≤6∧x.k≤Q1∧Q1≤x.k+M1∧0≤M1∧(x.k=1∨x.k=2) from⟨by omega,by omega,by omega,by omega,by omega,hk1⟩)
 have hpl:=(List.getElem?_eq_some_iff.1 hx).1
 obtain⟨pb,pof,cs,hAp,hRp,hcl,hc,hK⟩:=(HFS.out w4 HB4.out).2.2.2.2.1.at_ (k:=pi) hpl
 rw[(List.getElem?_eq_some_iff.1 hx).2] at hK
 subst hAp
 obtain⟨v1,v2,v3,v4,v5,v6,rfl,i1,i2,i3,i4,i5,i6⟩:=hK
 rw[htg] at hc i3 i4
 obtain⟨At3,kt3,rfl⟩:=ls_one i3 (by decide)
 obtain⟨At4,kt4,rfl⟩:=ls_one i4 (by decide)
 have e11:w4.cell? ⟨pb,pof+pi * 17+11,none⟩=some (.bool false):=hc 11 _ rfl
 have e12:w4.cell? ⟨pb,pof+pi * 17+12,none⟩=some (.slice At3 1 kt3):=hc 12 _ rfl
 have e13:w4.cell? ⟨pb,pof+pi * 17+13,none⟩=some (.slice At4 1 kt4):=hc 13 _ rfl
 have HT34:=zh (And.intro i3 i4)
 have lp:(pi:Int)<(NP:Int):=by rw[HNP.out];omega
 have HPI:=zh (show pi<NP∧NP≤2 from⟨by omega,by rw[HNP.out];exact HOK.out.polN⟩)
 clear hx hpi ha3 ham hbm hbq hb4 hM1 hQ1 hk1 hm0 hm4 htg hpl hRp hcl hc i1 i2 i3 i4 i5 i6
 obtain⟨c0,c1,c2,c3,c4,c5,c6,c7,c8⟩:=cells9 (HC.out w4 HB4.out)
 go_upto_region 4 with fail
 obtain⟨W5,hW5⟩:=zx (w4.alloc (.cells #[.bool false,.slice At3 1 kt3,.slice At4 1 kt4] 26))
 obtain⟨gT5,hgT5⟩:=zx w4.heap.size
 rw[←hW5,←hgT5]
 have h5k:W5.heap[gT5]?=some (.cells #[.bool false,.slice At3 1 kt3,.slice At4 1 kt4] 26 (0,0)):=by rw[hgT5];exact(new3 hW5).1
 have hb5:=(new3 hW5).2
 have g5l:gT5<W5.heap.size:=(Array.getElem?_eq_some_iff.1 h5k).1
 have HB5:=zh (HB4.out.trans (hb5.mono HB4.out.size))
 have HT5:=zh (show ∀w',Below W5.heap.size W5 w'→w'.heap[gT5]?=some (.cells #[.bool false,.slice At3 1 kt3,.slice At4 1 kt4] 26 (0,0))∧LS w' (Bl w'.heap.size) (.slice At3 1 kt3) (natL 1)∧LS w' (Bl w'.heap.size) (.slice At4 1 kt4) (natL 1000)∧Below W3.heap.size W3 w' from fun w' hb=>⟨(hb.block gT5 g5l).trans h5k,HT34.out.1.below (hb5.trans (hb.mono hb5.size)),HT34.out.2.below (hb5.trans (hb.mono hb5.size)),HB5.out.trans (hb.mono HB5.out.size)⟩)
 clear hW5 hgT5 h5k hb5 g5l HT34 HB4 e11 e12 e13 c0 c1 c2 c3 c4 c5 c6 c7 c8
 obtain⟨c0,c1,c2,c3,c4,c5,c6,c7,c8⟩:=cells9 (HC.out W5 HB5.out)
 obtain⟨d0,d1,d2⟩:=cells3v (HT5.out W5 (Below.refl _ _)).1
 have hrs:=raise_any 3 (by omega) _ _ _ _ _ _ _ _ F pi x M1 Q1 W5 (HFS.out W5 HB5.out) HOK.out HX.out HM.out.1 HM.out.2.1 HM.out.2.2.1 HM.out.2.2.2.1 (HT5.out W5 (Below.refl _ _)).2.1 (HT5.out W5 (Below.refl _ _)).2.2.1
 rw[←HEX.out,←HNP.out] at hrs
 have HRS:=zh hrs
 clear hrs
 go_wp2_with fail
 refine HRS.out.mono ?_
 rintro e w6 ⟨hb6,hcase⟩
 have HB6:=zh hb6
 clear HRS hb6 c0 c1 c2 c3 c4 c5 c6 c7 c8 d0 d1 d2
 rcases hcase with ⟨hbig,rfl⟩ | ⟨hle,ul,um,ud,uv,up,uo,rfl,hg⟩
 ·go_upto_region 6 with fail
  obtain⟨W7,hW7⟩:=zx (w6.alloc (.cells #[.int .i64 0,.slice none 0 0,.slice none 0 0,.slice none 0 0,.slice none 0 0,.slice none 0 0,.slice none 0 0] 35))
  have hb7:=(new7 hW7).2
  rw[←hW7]
  have HB7:=zh (HB6.out.trans (hb7.mono HB6.out.size))
  clear hW7 hb7
  go_wp2_with fail
  refine(awake_any W7).mono ?_
  rintro e w8 ⟨rfl,hb8⟩
  have HB8:=zh (HB7.out.trans (hb8.mono HB7.out.size))
  clear hb8
  go_wp2_with fail
  go_ret
  exact⟨rfl,HBW.out w8 (HT5.out w8 HB8.out).2.2.2⟩
 ·obtain⟨G,hG⟩:=zx (raiseM F pi M1 Q1)
  rw[←hG] at hg
  have hgext:G.ext=F.ext:=by rw[hG];rfl
  have hglen:G.pols.length=F.pols.length:=by rw[hG];exact raise_len _ _ _ _
  have hgok:FleetOk 3 G:=by rw[hG];exact raise_ok HOK.out HX.out HM.out.2.2.2.2.1 hle HM.out.2.2.1 HM.out.2.2.2.1
  have hgat:G.pols[pi]?=some (upP x M1 Q1):=by rw[hG];exact raise_at HX.out
  obtain⟨El,ml,tl,rfl⟩:=hg.1.form3
  obtain⟨Em,mm,tm,rfl⟩:=hg.2.1.form3
  obtain⟨Ed,md,td,rfl⟩:=hg.2.2.1.form3
  obtain⟨Ev,mv,tv,rfl⟩:=hg.2.2.2.1.form3
  obtain⟨Ep,tp,hup,-⟩:=hg.2.2.2.2.1.form
  rw[hglen] at hup
  subst hup
  obtain⟨Eo,mo,tto,rfl⟩:=hg.2.2.2.2.2.form3
  have HG:=zh hg
  have HGG:=zh (show G=raiseM F pi M1 Q1∧G.ext=EX∧G.pols.length=NP∧FleetOk 3 G∧G.pols[pi]?=some (upP x M1 Q1)∧M1≤4 from⟨hG,by rw[hgext,HEX.out],by rw[hglen,HNP.out],hgok,hgat,hle⟩)
  rw[←HNP.out]
  clear hg hG hgext hglen hgok hgat hle
  have hne:((NP:Int) != (NP:Int))=false:=by simp
  go_upto_region 5 with fail
  obtain⟨W7,hW7⟩:=zx (w6.alloc (.cells #[.int .i64 EX,.slice El ml tl,.slice Em mm tm,.slice Ed md td,.slice Ev mv tv,.slice Ep NP tp,.slice Eo mo tto] 35))
  obtain⟨gG,hgG⟩:=zx w6.heap.size
  rw[←hW7,←hgG]
  have h7k:W7.heap[gG]?=some (.cells #[.int .i64 EX,.slice El ml tl,.slice Em mm tm,.slice Ed md td,.slice Ev mv tv,.slice Ep NP tp,.slice Eo mo tto] 35 (0,0)):=by rw[hgG];exact(new7 hW7).1
  have hb7:=(new7 hW7).2
  have g7l:gG<W7.heap.size:=(Array.getElem?_eq_some_iff.1 h7k).1
  have HB7:=zh (HB6.out.trans (hb7.mono HB6.out.size))
  have HGC:=zh (show ∀w',Below W7.heap.size W7 w'→w'.heap[gG]?=some (.cells #[.int .i64 EX,.slice El ml tl,.slice Em mm tm,.slice Ed md td,.slice Ev mv tv,.slice Ep NP tp,.slice Eo mo tto] 35 (0,0))∧FleetS w' (Bl w'.heap.size) (.slice El ml tl) (.slice Em mm tm) (.slice Ed md td) (.slice Ev mv tv) (.slice Ep F.pols.length tp) (.slice Eo mo tto) G∧Below W5.heap.size W5 w' from fun w' hb=>⟨(hb.block gG g7l).trans h7k,HG.out.below (hb7.trans (hb.mono hb7.size)),HB7.out.trans (hb.mono HB7.out.size)⟩)
  clear hW7 hgG h7k hb7 g7l HG HB6
  obtain⟨c0,c1,c2,c3,c4,c5,c6,c7,c8⟩:=cells9 (HC.out W7 (HT5.out W7 HB7.out).2.2.2)
  obtain⟨f0,f1,f2,f3,f4,f5,f6⟩:=cells7 (HGC.out W7 (Below.refl _ _)).1
  have hra:=raised_any 3 _ _ _ _ _ _ G (pi:Int) n r W7 (HGC.out W7 (Below.refl _ _)).2.1 HGG.out.2.2.2.1 (by have:=HPI.out;unfold I64;omega) HI.out.2.2.2.1 HI.out.2.2.2.2
  rw[HGG.out.2.1,←HNP.out] at hra
  have HRA:=zh hra
  clear hra
  go_wp2_with fail
  refine HRA.out.mono ?_
  rintro e w8 ⟨pi2,y,a2,b2,hy,hpi2,ha3,-,⟨hbm,-⟩,rfl,hb8⟩
  rw[HGG.out.2.2.1,within_in HPI.out.1] at hpi2
  have hpe:pi2=pi:=by omega
  subst hpe
  rw[HGG.out.2.2.2.2.1] at hy
  injection hy with hy
  subst hy
  clear HRA c0 c1 c2 c3 c4 c5 c6 c7 c8 f0 f1 f2 f3 f4 f5 f6 hne
  obtain⟨M2,hM2⟩:=zx ((upP x M1 Q1).m+(a2:Int))
  obtain⟨Q2,hQ2⟩:=zx ((upP x M1 Q1).k+(b2:Int))
  rw[←hM2,←hQ2]
  have hM2':M2=M1+(a2:Int):=hM2
  have hQ2':Q2=x.k+(b2:Int):=hQ2
  have hbm':(b2:Int)≤M1+a2:=hbm
  have hm1:=HM.out
  have hg1:=HGG.out.2.2.2.2.2
  have HM2:=zh (show M1≤M2∧M2≤6∧x.k≤Q2∧Q2≤x.k+M2∧x.m≤M2 from⟨by omega,by omega,by omega,by omega,by omega⟩)
  have HB8:=zh hb8
  clear hM2 hQ2 hM2' hQ2' hbm' hm1 hg1 hpi2 ha3 hbm hb8
  obtain⟨f0,f1,f2,f3,f4,f5,f6⟩:=cells7 (HGC.out w8 HB8.out).1
  obtain⟨d0,d1,d2⟩:=cells3v (HT5.out w8 (HGC.out w8 HB8.out).2.2).1
  have hrs:=raise_any 3 (by omega) _ _ _ _ _ _ _ _ G pi2 (upP x M1 Q1) M2 Q2 w8 (HGC.out w8 HB8.out).2.1 HGG.out.2.2.2.1 HGG.out.2.2.2.2.1 HM2.out.1 HM2.out.2.1 HM2.out.2.2.1 HM2.out.2.2.2.1 (HT5.out w8 (HGC.out w8 HB8.out).2.2).2.1 (HT5.out w8 (HGC.out w8 HB8.out).2.2).2.2.1
  rw[HGG.out.2.1,←HNP.out] at hrs
  have HRS:=zh hrs
  clear hrs
  go_wp2_with fail
  refine HRS.out.mono ?_
  rintro e w9 ⟨hb9,hcase⟩
  have HB9:=zh (HB8.out.trans (hb9.mono HB8.out.size))
  clear HRS hb9 f0 f1 f2 f3 f4 f5 f6 d0 d1 d2
  rcases hcase with ⟨hbig,rfl⟩ | ⟨hle,ul,um,ud,uv,up,uo,rfl,hg2⟩
  ·go_upto_region 11 with fail
   obtain⟨W10,hW10⟩:=zx (w9.alloc (.cells #[.int .i64 0,.slice none 0 0,.slice none 0 0,.slice none 0 0,.slice none 0 0,.slice none 0 0,.slice none 0 0] 35))
   have hb10:=(new7 hW10).2
   rw[←hW10]
   have HB10:=zh (HB9.out.trans (hb10.mono HB9.out.size))
   clear hW10 hb10
   obtain⟨c0,c1,c2,c3,c4,c5,c6,c7,c8⟩:=cells9 (HC.out W10 (HT5.out W10 (HGC.out W10 HB10.out).2.2).2.2.2)
   obtain⟨d0,d1,d2⟩:=cells3v (HT5.out W10 (HGC.out W10 HB10.out).2.2).1
   have hrs:=raise_any 3 (by omega) _ _ _ _ _ _ _ _ F pi2 x M2 Q2 W10 (HFS.out W10 (HT5.out W10 (HGC.out W10 HB10.out).2.2).2.2.2) HOK.out HX.out HM2.out.2.2.2.2 HM2.out.2.1 HM2.out.2.2.1 HM2.out.2.2.2.1 (HT5.out W10 (HGC.out W10 HB10.out).2.2).2.1 (HT5.out W10 (HGC.out W10 HB10.out).2.2).2.2.1
   rw[←HEX.out,←HNP.out] at hrs
   have HRS:=zh hrs
   clear hrs
   go_wp2_with fail
   refine HRS.out.mono ?_
   rintro e w11 ⟨hb11,hcase⟩
   have HB11:=zh (HB10.out.trans (hb11.mono HB10.out.size))
   have HBX11:=zh hb11
   clear HRS hb11 c0 c1 c2 c3 c4 c5 c6 c7 c8 d0 d1 d2
   rcases hcase with ⟨-,rfl⟩ | ⟨hle,-⟩
   ·clear hbig
    go_upto_region 12 with fail
    obtain⟨W12,hW12⟩:=zx (w11.alloc (.cells #[.int .i64 0,.slice none 0 0,.slice none 0 0,.slice none 0 0,.slice none 0 0,.slice none 0 0,.slice none 0 0] 35))
    have hb12:=(new7 hW12).2
    rw[←hW12]
    have HB12:=zh (HB11.out.trans (hb12.mono HB11.out.size))
    clear hW12 hb12
    go_wp2_with fail
    refine(awake_any W12).mono ?_
    rintro e w13 ⟨rfl,hb13⟩
    have HB13:=zh (HB12.out.trans (hb13.mono HB12.out.size))
    clear hb13
    go_wp2_with fail
    go_ret
    exact⟨rfl,HBW.out w13 (HT5.out w13 (HGC.out w13 HB13.out).2.2).2.2.2⟩
   ·omega
  ·obtain⟨H,hH⟩:=zx (raiseM F pi2 M2 Q2)
   have hm1:=HM.out
   have hm2:=HM2.out
   have hhok:FleetOk 3 H:=by rw[hH];exact raise_ok HOK.out HX.out (by omega) hle hm2.2.2.1 hm2.2.2.2.1
   have hhext:H.ext=EX:=by rw[hH,HEX.out];rfl
   rw[HGG.out.1,raise_raise,←hH] at hg2
   obtain⟨El2,ml2,tl2,rfl⟩:=hg2.1.form3
   obtain⟨Em2,mm2,tm2,rfl⟩:=hg2.2.1.form3
   obtain⟨Ed2,md2,td2,rfl⟩:=hg2.2.2.1.form3
   obtain⟨Ev2,mv2,tv2,rfl⟩:=hg2.2.2.2.1.form3
   obtain⟨Ep2,mp2,tp2,rfl⟩:=hg2.2.2.2.2.1.form3
   obtain⟨Eo2,mo2,to2,rfl⟩:=hg2.2.2.2.2.2.form3
   have HG2:=zh hg2
   have HHH:=zh (And.intro hH (And.intro hhok (And.intro hhext hle)))
   clear hg2 hH hhok hhext hle hm1 hm2
   go_upto_region 11 with fail
   obtain⟨W10,hW10⟩:=zx (w9.alloc (.cells #[.int .i64 EX,.slice El2 ml2 tl2,.slice Em2 mm2 tm2,.slice Ed2 md2 td2,.slice Ev2 mv2 tv2,.slice Ep2 mp2 tp2,.slice Eo2 mo2 to2] 35))
   obtain⟨gH,hgH⟩:=zx w9.heap.size
   rw[←hW10,←hgH]
   have h10k:W10.heap[gH]?=some (.cells #[.int .i64 EX,.slice El2 ml2 tl2,.slice Em2 mm2 tm2,.slice Ed2 md2 td2,.slice Ev2 mv2 tv2,.slice Ep2 mp2 tp2,.slice Eo2 mo2 to2] 35 (0,0)):=by rw[hgH];exact(new7 hW10).1
   have hb10:=(new7 hW10).2
   have g10l:gH<W10.heap.size:=(Array.getElem?_eq_some_iff.1 h10k).1
   have HB10:=zh (HB9.out.trans (hb10.mono HB9.out.size))
   have HHC:=zh (show ∀w',Below W10.heap.size W10 w'→w'.heap[gH]?=some (.cells #[.int .i64 EX,.slice El2 ml2 tl2,.slice Em2 mm2 tm2,.slice Ed2 md2 td2,.slice Ev2 mv2 tv2,.slice Ep2 mp2 tp2,.slice Eo2 mo2 to2] 35 (0,0))∧FleetS w' (Bl w'.heap.size) (.slice El2 ml2 tl2) (.slice Em2 mm2 tm2) (.slice Ed2 md2 td2) (.slice Ev2 mv2 tv2) (.slice Ep2 mp2 tp2) (.slice Eo2 mo2 to2) H from fun w' hb=>⟨(hb.block gH g10l).trans h10k,HG2.out.below (hb10.trans (hb.mono hb10.size))⟩)
   clear hW10 hgH h10k hb10 g10l HG2 HB9
   obtain⟨c0,c1,c2,c3,c4,c5,c6,c7,c8⟩:=cells9 (HC.out W10 (HT5.out W10 (HGC.out W10 HB10.out).2.2).2.2.2)
   obtain⟨d0,d1,d2⟩:=cells3v (HT5.out W10 (HGC.out W10 HB10.out).2.2).1
   have hrs:=raise_any 3 (by omega) _ _ _ _ _ _ _ _ F pi2 x M2 Q2 W10 (HFS.out W10 (HT5.out W10 (HGC.out W10 HB10.out).2.2).2.2.2) HOK.out HX.out HM2.out.2.2.2.2 HM2.out.2.1 HM2.out.2.2.1 HM2.out.2.2.2.1 (HT5.out W10 (HGC.out W10 HB10.out).2.2).2.1 (HT5.out W10 (HGC.out W10 HB10.out).2.2).2.2.1
   rw[←HEX.out,←HNP.out] at hrs
   have HRS:=zh hrs
   clear hrs
   go_wp2_with fail
   refine HRS.out.mono ?_
   rintro e w11 ⟨hb11,hcase⟩
   have HB11:=zh (HB10.out.trans (hb11.mono HB10.out.size))
   have HBX11:=zh hb11
   clear HRS hb11 c0 c1 c2 c3 c4 c5 c6 c7 c8 d0 d1 d2
   rcases hcase with ⟨hbig,-⟩ | ⟨-,wl,wm,wd,wv,wp,wo,rfl,hg3⟩
   ·have:=HHH.out.2.2.2;omega
   ·rw[←HHH.out.1] at hg3
    obtain⟨El3,ml3,tl3,rfl⟩:=hg3.1.form3
    obtain⟨Em3,mm3,tm3,rfl⟩:=hg3.2.1.form3
    obtain⟨Ed3,md3,td3,rfl⟩:=hg3.2.2.1.form3
    obtain⟨Ev3,mv3,tv3,rfl⟩:=hg3.2.2.2.1.form3
    obtain⟨Ep3,mp3,tp3,rfl⟩:=hg3.2.2.2.2.1.form3
    obtain⟨Eo3,mo3,to3,rfl⟩:=hg3.2.2.2.2.2.form3
    have HG3:=zh hg3
    clear hg3
    go_upto_region 12 with fail
    obtain⟨W12,hW12⟩:=zx (w11.alloc (.cells #[.int .i64 EX,.slice El3 ml3 tl3,.slice Em3 mm3 tm3,.slice Ed3 md3 td3,.slice Ev3 mv3 tv3,.slice Ep3 mp3 tp3,.slice Eo3 mo3 to3] 35))
    obtain⟨gK,hgK⟩:=zx w11.heap.size
    rw[←hW12,←hgK]
    have h12k:W12.heap[gK]?=some (.cells #[.int .i64 EX,.slice El3 ml3 tl3,.slice Em3 mm3 tm3,.slice Ed3 md3 td3,.slice Ev3 mv3 tv3,.slice Ep3 mp3 tp3,.slice Eo3 mo3 to3] 35 (0,0)):=by rw[hgK];exact(new7 hW12).1
    have hb12:=(new7 hW12).2
    have g12l:gK<W12.heap.size:=(Array.getElem?_eq_some_iff.1 h12k).1
    have hb1012:Below W10.heap.size W10 W12:=HBX11.out.trans (hb12.mono HBX11.out.size)
    have HB12:=zh hb1012
    have HKC:=zh (show ∀w',Below W12.heap.size W12 w'→w'.heap[gK]?=some (.cells #[.int .i64 EX,.slice El3 ml3 tl3,.slice Em3 mm3 tm3,.slice Ed3 md3 td3,.slice Ev3 mv3 tv3,.slice Ep3 mp3 tp3,.slice Eo3 mo3 to3] 35 (0,0))∧FleetS w' (Bl w'.heap.size) (.slice El3 ml3 tl3) (.slice Em3 mm3 tm3) (.slice Ed3 md3 td3) (.slice Ev3 mv3 tv3) (.slice Ep3 mp3 tp3) (.slice Eo3 mo3 to3) H from fun w' hb=>⟨(hb.block gK g12l).trans h12k,HG3.out.below (hb12.trans (hb.mono hb12.size))⟩)
    clear hW12 hgK h12k hb12 g12l hb1012 HG3 HB11 HBX11
    go_wp2_with fail
    refine(awake_any W12).mono ?_
    rintro e w13 ⟨rfl,hb13⟩
    have HB13:=zh hb13
    have HBT:=zh (HB12.out.trans (hb13.mono HB12.out.size))
    clear hb13
    obtain⟨f0,f1,f2,f3,f4,f5,f6⟩:=cells7 (HHC.out w13 HBT.out).1
    obtain⟨g0,g1,g2,g3,g4,g5,g6⟩:=cells7 (HKC.out w13 HB13.out).1
    have heq:=equal_any 3 _ _ _ _ _ _ _ _ _ _ _ _ H w13 (HHC.out w13 HBT.out).2 (HKC.out w13 HB13.out).2 HHH.out.2.1
    rw[HHH.out.2.2.1] at heq
    have HEQ:=zh heq
    clear heq
    go_wp2_with fail
    refine HEQ.out.mono ?_
    rintro e w14 ⟨rfl,hb14⟩
    have HB14:=zh ((HB10.out.trans (HBT.out.mono HB10.out.size)).trans (hb14.mono (HB10.out.trans (HBT.out.mono HB10.out.size)).size))
    clear hb14 f0 f1 f2 f3 f4 f5 f6 g0 g1 g2 g3 g4 g5 g6
    go_wp2_with fail
    go_ret
    exact⟨rfl,HBW.out w14 (HT5.out w14 (HGC.out w14 HB14.out).2.2).2.2.2⟩
end Go.Proofs.YtgfaieppacabjaaGreat

namespace Go.Proofs.YtgfaieppacabjaaGreat
open Go.RowKit Go.ChangeShapes Go.WideShapes Go.ChangeAt Go.Deep Go.Joins
set_option linter.unusedVariables false
set_option linter.unusedSimpArgs false
theorem wf_i64{x:Int} (h:(Lit.int .i64 x).wf=true):I64 x:=by
 simpa[Lit.wf,IntKind.min,IntKind.max,IntKind.signed,IntKind.bits,I64] using h
section
variable {H : Type} {enc : TypeId × Value → H} {P : Program} {W : World}
theorem open_intS{t e:TypeId} {spare:Nat→Bool} {held:Bool} {base fuel:Nat} {v:Value} {x:DataW H×List MemPlace} (ht:P.underlying t=some (.slice e)) (he:P.underlying e=some (.int .i64)) (hc:P.cellsOf e=1)
  (h:DataW.trod enc P W base spare held fuel t [v]=some x):∃xs,IntS W (Bl W.heap.size) v xs:=by
 rcases open_ints ht he hc h with ⟨hcs,_⟩ | ⟨a,len,cap,zs,hcs,_,hl,hm,hz,_,hcell,hwz⟩
 ·simp at hcs;subst hcs
  exact⟨[],IntS.nil _ _ _⟩
 ·simp at hcs;subst hcs
  have hzl:len≤zs.length:=by rw[hz];split <;> omega
  have hxl:(zs.take len).length=len:=by rw[List.length_take];omega
  refine⟨zs.take len,⟨some a,cap,by rw[hxl],by rw[hxl];exact hl,by rw[hxl];omega,fun hn=>?_⟩,fun y hy=>wf_i64 (hwz y (List.mem_of_mem_take hy))⟩
  rw[hxl] at hn
  obtain⟨b,off,spot⟩:=a
  have g0:=hcell 0 (by omega)
  have hspot:spot=none:=by simpa[Addr.add] using World.cell?_spot g0
  subst hspot
  have hb:=block_lt_of_cell g0
  refine⟨b,off,rfl,by simpa[Addr.add,Bl] using hb,fun k y hk=>?_⟩
  have hkl:k<(zs.take len).length:=(List.getElem?_eq_some_iff.1 hk).1
  rw[hxl] at hkl
  have g:=hcell k (by omega)
  have e1:(⟨b,off,none⟩:Addr).add k=⟨b,off+k,none⟩:=by unfold Addr.add;split <;> simp_all
  rw[e1] at g
  rw[g]
  rw[List.getElem?_take_of_lt hkl] at hk
  rw[List.getD,hk];rfl
end
end Go.Proofs.YtgfaieppacabjaaGreat
