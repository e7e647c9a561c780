/- Parts. -/
import Derived.Test.YtgfaieppacabjaaGreatMq17
set_option linter.unusedSectionVars false
set_option maxRecDepth 100000
set_option maxHeartbeats 12800000
set_option linter.unusedVariables false
set_option linter.unusedSimpArgs false
namespace Go.Proofs.YtgfaieppacabjaaGreat
open Go.RowKit
theorem layout_any(N:Nat)(hN:N<=12)(gT:Nat)(vt:Value)(xs:List Int)(I:Nat)(vl vm vd vv vp vo:Value)(F:FltM)(w:World)(R RF:Nat->Prop)(hT:TapeB w gT vt I)(hx:IntS w R vt xs)(hR:∀b,R b->b<w.heap.size/\b≠gT)(hI:I<=100000)(hf:FleetS w RF vl vm vd vv vp vo F)(hRF:∀b,RF b->b<w.heap.size/\b≠gT)(hok:FleetOk N F) :
  Calls Tryz.prog 25 #[.pointer (some ⟨gT,0,none⟩),.agg #[.int .i64 F.ext,vl,vm,vd,vv,vp,vo]] w fun e w'=>∃v L I',e=.returned v/\SlS 1 RowIK w' (Fr w.heap.size w'.heap.size) v L/\LayOk F F.vols.length L/\TapeB w' gT vt I'/\I'<=I+1000/\w.grownBy w' (some gT):=by
 obtain⟨Al,nl,cl,hvl⟩:=hf.1.form3;obtain⟨Am,nm,cm,hvm⟩:=hf.2.1.form3;obtain⟨Ad,nd,cd,hvd⟩:=hf.2.2.1.form3;obtain⟨Av,cv,hvv,-,-⟩:=hf.2.2.2.1.form;obtain⟨Ap,np,cp,hvp⟩:=hf.2.2.2.2.1.form3;obtain⟨Ao,co,hvo,-,-⟩:=hf.2.2.2.2.2.form;obtain⟨ND,hND⟩:=zx F.dves.length;obtain⟨NV,hNV⟩:=zx F.vols.length;obtain⟨EX,hEX⟩:=zx F.ext;rw[<-hND] at hvv;rw[<-hNV] at hvo;rw[<-hEX,<-hNV];subst hvl hvm hvd hvv hvp hvo;have hTl:gT<w.heap.size:=hT.lt;obtain⟨W0,hW0⟩:=zx (w.alloc (.cells #[.int .i64 EX,.slice Al nl cl,.slice Am nm cm,.slice Ad nd cd,.slice Av ND cv,.slice Ap np cp,.slice Ao NV co] 35));obtain⟨gF,hgF⟩:=zx w.heap.size
 have hh0:HotBy [some gT] w W0:=by rw[hW0];exact HotBy.alloc _ _ _
 have hT0:TapeB W0 gT vt I:=by
  have:W0.heap[gT]?=w.heap[gT]?:=by rw[hW0];exact zH w _ gT hTl
  exact this.trans hT
 have hgk:W0.heap[gF]?=some (.cells #[.int .i64 EX,.slice Al nl cl,.slice Am nm cm,.slice Ad nd cd,.slice Av ND cv,.slice Ap np cp,.slice Ao NV co] 35 (0,0)):=by rw[hW0,hgF];exact zN _ _
 have hgl:gF<W0.heap.size:=(zA.1 hgk).1;have HC:=zh (fun(w':World) (hh:HotBy [some gT] W0 w')=>cells7 ((hh.block gF hgl (fun e=>by simp at e;omega)).trans hgk))
 have HFL:=zh (fun(w':World) (hh:HotBy [some gT] W0 w')=>(show FleetS w' (Bl w'.heap.size) (.slice Al nl cl) (.slice Am nm cm) (.slice Ad nd cd) (.slice Av ND cv) (.slice Ap np cp) (.slice Ao NV co) F from
  (hf.keep (fun b hb=>(hh0.trans hh).block b (hRF b hb).1 (fun e=>by simp at e;exact(hRF b hb).2 e))).mono (fun b hb=>zM (hRF b hb).1 (hh0.trans hh).size)))
 have HSZ:=zh (fun(w':World) (hh:HotBy [some gT] W0 w') (v:Nat) (hv:v<NV)=>msize_any N hN _ _ _ _ _ _ F v w' (HFL.out w' hh) hok (by rw[<-hNV];exact hv));rw[<-hEX] at HSZ;have HNX:=zh (fun wr I hh hT hI n h1 h2=>next_hot w R gT vt xs hx hR wr (hh0.trans hh) I hT hI n h1 h2);have hDr:=hok.dve1;have hDN:=hok.dveN;have HSR:=zh (fun(v:Nat) (hv:v<NV)=>szN_range hok (by rw[<-hNV];exact hv));rw[<-hND] at hDr hDN;have HDR:=zh (And.intro hDr hDN)
 have hV12:NV<=12:=by rw[hNV];have:=hok.volN;omega
 have HND:=zh hND;have HNV:=zh hNV;have HH0:=zh hh0;have HT0:=zh hT0;have HTL:=zh (show gT<w.heap.size/\gT<W0.heap.size from⟨hTl,hT0.lt⟩);have HW0:=zh hW0;have HGF:=zh hgF;have HII:=zh hI
 have d1:(1:Int)<=(ND:Int):=by omega
 have d2:(ND:Int)<=9:=by omega
 have v12:(NV:Int)<=12:=by omega
 clear hT hx hR hI hf hRF hok hND hNV hEX hTl hW0 hgF hh0 hT0 hgk hgl HFL hDr hDN hV12;go_enter Tryz.func25,Tryz.ntmps25;go_wp2_with fail;rw[<-HW0.out,<-HGF.out];go_loopg [5,6] NV (fun z v5 v6 wr=>∃j I' L,j<=NV/\z=NV-j/\v6=.int .i64 (j:Int)/\Hid (I'<=I+j*12)/\Hid (LayT gT vt W0 wr F I' j v5 L))
 case atStart=>exact⟨0,I,[],by omega,rfl,rfl,zh (by omega),HT0.out,HotBy.refl _ _,OwnK.nil _ _ _ _ _ _,LayOk.nil F⟩
 case round =>
  obtain⟨j,I1,L,hj,rfl,rfl,HI1,HL⟩:=hrel;obtain⟨W1,hW1⟩:=zx wr;rw[<-hW1] at HL ⊢;clear hW1;obtain⟨c0,c1,c2,c3,c4,c5,c6⟩:=HC.out W1 HL.out.hot;by_cases hlt:j<NV
  ·have i1:(j:Int)<(NV:Int):=by omega
   have HLT:=zh hlt;go_wp2_with fail;obtain⟨W2,hW2⟩:=zx (W1.alloc (.cells #[] 3))
   have hrow:W2.ownsRow W1.heap.size 3 1 (.slice (some ⟨W1.heap.size,0,none⟩) 0 0) 0 []:=by rw[hW2];exact World.ownsRow_made W1 #[] 0 (zR _) (by unfold maxLen;omega) rfl
   have hb2:Below W1.heap.size W1 W2:=by rw[hW2];exact(zB _ _).alloc (zR _) _
   have HR0:=zh (show RowT gT vt W1 W2 F I1 0 (.slice (some ⟨W1.heap.size,0,none⟩) 0 0) [] from⟨(hb2.block gT HL.out.tape.lt).trans HL.out.tape,HotBy.below hb2,hrow,rfl,fun x hx=>by cases hx⟩);rw[<-hW2];obtain⟨SZ,hSZ⟩:=zx (szN F j);have hsr:=HSR.out j HLT.out;have HSZ1:=zh (fun(w':World) (hh:HotBy [some gT] W0 w')=>HSZ.out w' hh j HLT.out);rw[<-hSZ] at hsr HSZ1;have HSE:=zh hSZ;have HI6:=zh (show j<NV/\NV<=12/\SZ<=6 from⟨hlt,by omega,hsr.2⟩);have HTL1:=zh (show gT<W1.heap.size from HL.out.tape.lt)
   have s1:(1:Int)<=(SZ:Int):=by omega
   have s6:(SZ:Int)<=6:=by omega
   clear hrow hb2 hW2 hSZ hsr c0 c1 c2 c3 c4 c5 c6;go_loopg [7,8] SZ (fun z v7 v8 wr=>∃i I2 xs,i<=SZ/\z=SZ-i/\v8=.int .i64 (i:Int)/\Hid (I2<=I1+i*2)/\Hid (RowT gT vt W1 wr F I2 i v7 xs))
   case atStart=>exact⟨0,I1,[],by omega,rfl,rfl,zh (by omega),HR0.out⟩
   case round =>
    obtain⟨i,I2,xs,hi,rfl,rfl,HI2,HR⟩:=hrel;obtain⟨W3,hW3⟩:=zx wr;rw[<-hW3] at HR ⊢;clear hW3;obtain⟨c0,c1,c2,c3,c4,c5,c6⟩:=HC.out W3 (HL.out.hot.trans HR.out.hot);by_cases hlt2:i<SZ
    ·have i2:(i:Int)<(SZ:Int):=by omega
     go_wp2_with fail;refine(HSZ1.out W3 (HL.out.hot.trans HR.out.hot)).mono ?_;rintro e w3 ⟨rfl,hb3⟩;have HR3:=zh (HR.out.below hb3);clear hb3 c0 c1 c2 c3 c4 c5 c6;obtain⟨c0,c1,c2,c3,c4,c5,c6⟩:=HC.out w3 (HL.out.hot.trans HR3.out.hot);go_wp2_with fail;refine(HNX.out w3 I2 (HL.out.hot.trans HR3.out.hot) HR3.out.tape (by have:=HI2.out;have:=HI1.out;have:=HII.out;have:=HI6.out;omega) ND (by omega) (by omega)).mono ?_;rintro e w4 ⟨r,rfl,hr,hT4,hg4⟩;have HR4:=zh (HR3.out.next HTL1.out hT4 hg4);have HD9:=zh (show F.dves.length<=1000 from by have:=HND.out;omega);have HRR:=zh hr;clear hT4 hg4 c0 c1 c2 c3 c4 c5 c6 HR HR3 hr;go_wp2_with fail;go_loopg [9,10] ND (fun z v9 v10 wr=>w4=wr/\∃k d:Nat,k<=ND/\z=ND-k/\v9=.int .i64 (d:Int)/\v10=.int .i64 (k:Int)/\Hid (d<ND))
     case atStart=>exact⟨rfl,0,r,by omega,rfl,rfl,rfl,HRR.out⟩
     case round =>
      obtain⟨rfl,k,d,hk,rfl,rfl,rfl,HDD⟩:=hrel;obtain⟨c0,c1,c2,c3,c4,c5,c6⟩:=HC.out w4 (HL.out.hot.trans HR4.out.hot);by_cases hlt3:k<ND
      ·have i3:(k:Int)<(ND:Int):=by omega
       have HHB:=zh (mhas_any u7 xs (d:Int) _ w4 (HR4.out.intS HD9.out));obtain⟨B0,hB0⟩:=zx (decide ((d:Int)∈xs));rw[<-hB0] at HHB;clear hB0
       cases B0 with
       | true =>
        have hrem:IntKind.i64.wrap (((d:Int)+1).tmod (ND:Int))=(((d+1) % ND:Nat):Int):=by
         have h1:((d:Int)+1)=((d+1:Nat):Int):=by omega
         rw[h1,<-Int.ofNat_tmod];have h2:(d+1) % ND<ND:=Nat.mod_lt _ (by omega);exact zI _ (by omega)
        have hadd:IntKind.i64.wrap ((d:Int)+1)=(d:Int)+1:=zI _ (by have:=HDD.out;omega)
        have hnz:((ND:Int)==0)=false:=by simp;omega
        have HDM:=zh (show(d+1) % ND<ND from Nat.mod_lt _ (by omega));go_wp2_with fail;refine HHB.out.mono ?_;rintro e w5 ⟨rfl,rfl⟩;go_wp2_with fail;go_roundg (ND-(k+1))
        case measure=>omega
        case rel=>exact⟨rfl,k+1,(d+1) % ND,by omega,rfl,by first | rfl | go_num,by go_num,HDM⟩
       | false =>
        go_wp2_with fail;refine HHB.out.mono ?_;rintro e w5 ⟨rfl,rfl⟩;clear c0 c1 c2 c3 c4 c5 c6;go_wp2_with fail;have HHA:=zh (mhas_any u7 xs (d:Int) _ w4 (HR4.out.intS HD9.out));obtain⟨B,hB⟩:=zx (decide ((d:Int)∈xs));rw[<-hB] at HHA;clear hB
        cases B with
        | true =>
         go_wp2_with fail;refine HHA.out.mono ?_;rintro e w5 ⟨rfl,rfl⟩;go_wp2_with (at_builtin;refine app_i (-1) (.tmp 57) (.tmp 59) rfl rfl W1.heap.size u7 i xs HR4.out.len (by rfl) HR4.out.own (by rfl) (by have:=HI6.out;omega) HR4.out.hot.size ?_;intro v7' w7 ho7 hg7 _;have HR7:=zh (HR4.out.push HTL1.out ho7 hg7 ⟨by omega,by omega⟩);clear ho7 hg7);go_roundg (SZ-(i+1))
         case measure=>omega
         case rel=>exact⟨i+1,I2+1,xs++[(-1)],by omega,rfl,by go_num,zh (by have:=HI2.out;omega),HR7.out⟩
        | false =>
         go_wp2_with fail;refine HHA.out.mono ?_;rintro e w5 ⟨rfl,rfl⟩;go_wp2_with fail;refine(HNX.out w4 (I2+1) (HL.out.hot.trans HR4.out.hot) HR4.out.tape (by have:=HI2.out;have:=HI1.out;have:=HII.out;have:=HI6.out;omega) 12 (by omega) (by omega)).mono ?_;rintro e w6 ⟨r2,rfl,hr2,hT6,hg6⟩;have HR6:=zh (HR4.out.next HTL1.out hT6 hg6);clear hT6 hg6;by_cases hr0:r2=0
         ·have q0:((r2:Int)==0)=true:=by simpa using hr0
          clear hr0;go_wp2_with (at_builtin;refine app_i (-1) (.tmp 57) (.tmp 59) rfl rfl W1.heap.size u7 i xs HR6.out.len (by rfl) HR6.out.own (by rfl) (by have:=HI6.out;omega) HR6.out.hot.size ?_;intro v7' w7 ho7 hg7 _;have HR7:=zh (HR6.out.push HTL1.out ho7 hg7 ⟨by omega,by omega⟩);clear ho7 hg7);go_roundg (SZ-(i+1))
          case measure=>omega
          case rel=>exact⟨i+1,I2+1+1,xs++[(-1)],by omega,rfl,by go_num,zh (by have:=HI2.out;omega),HR7.out⟩
         ·have q0:((r2:Int)==0)=false:=by simpa using hr0
          clear hr0;go_wp2_with (at_builtin;refine app_i (d:Int) (.tmp 57) (.tmp 59) rfl rfl W1.heap.size u7 i xs HR6.out.len (by rfl) HR6.out.own (by rfl) (by have:=HI6.out;omega) HR6.out.hot.size ?_;intro v7' w7 ho7 hg7 _;have HR7:=zh (HR6.out.push HTL1.out ho7 hg7 ⟨by omega,by have:=HDD.out;have:=HND.out;omega⟩);clear ho7 hg7);go_roundg (SZ-(i+1))
          case measure=>omega
          case rel=>exact⟨i+1,I2+1+1,xs++[(d:Int)],by omega,rfl,by go_num,zh (by have:=HI2.out;omega),HR7.out⟩
      ·clear c0 c1 c2 c3 c5 c6;go_wp2_with fail;have HHA:=zh (mhas_any u7 xs (d:Int) _ w4 (HR4.out.intS HD9.out));obtain⟨B,hB⟩:=zx (decide ((d:Int)∈xs));rw[<-hB] at HHA;clear hB
       cases B with
       | true =>
        go_wp2_with fail;refine HHA.out.mono ?_;rintro e w5 ⟨rfl,rfl⟩;go_wp2_with (at_builtin;refine app_i (-1) (.tmp 57) (.tmp 59) rfl rfl W1.heap.size u7 i xs HR4.out.len (by rfl) HR4.out.own (by rfl) (by have:=HI6.out;omega) HR4.out.hot.size ?_;intro v7' w7 ho7 hg7 _;have HR7:=zh (HR4.out.push HTL1.out ho7 hg7 ⟨by omega,by omega⟩);clear ho7 hg7);go_roundg (SZ-(i+1))
        case measure=>omega
        case rel=>exact⟨i+1,I2+1,xs++[(-1)],by omega,rfl,by go_num,zh (by have:=HI2.out;omega),HR7.out⟩
       | false =>
        go_wp2_with fail;refine HHA.out.mono ?_;rintro e w5 ⟨rfl,rfl⟩;go_wp2_with fail;refine(HNX.out w4 (I2+1) (HL.out.hot.trans HR4.out.hot) HR4.out.tape (by have:=HI2.out;have:=HI1.out;have:=HII.out;have:=HI6.out;omega) 12 (by omega) (by omega)).mono ?_;rintro e w6 ⟨r2,rfl,hr2,hT6,hg6⟩;have HR6:=zh (HR4.out.next HTL1.out hT6 hg6);clear hT6 hg6;by_cases hr0:r2=0
        ·have q0:((r2:Int)==0)=true:=by simpa using hr0
         clear hr0;go_wp2_with (at_builtin;refine app_i (-1) (.tmp 57) (.tmp 59) rfl rfl W1.heap.size u7 i xs HR6.out.len (by rfl) HR6.out.own (by rfl) (by have:=HI6.out;omega) HR6.out.hot.size ?_;intro v7' w7 ho7 hg7 _;have HR7:=zh (HR6.out.push HTL1.out ho7 hg7 ⟨by omega,by omega⟩);clear ho7 hg7);go_roundg (SZ-(i+1))
         case measure=>omega
         case rel=>exact⟨i+1,I2+1+1,xs++[(-1)],by omega,rfl,by go_num,zh (by have:=HI2.out;omega),HR7.out⟩
        ·have q0:((r2:Int)==0)=false:=by simpa using hr0
         clear hr0;go_wp2_with (at_builtin;refine app_i (d:Int) (.tmp 57) (.tmp 59) rfl rfl W1.heap.size u7 i xs HR6.out.len (by rfl) HR6.out.own (by rfl) (by have:=HI6.out;omega) HR6.out.hot.size ?_;intro v7' w7 ho7 hg7 _;have HR7:=zh (HR6.out.push HTL1.out ho7 hg7 ⟨by omega,by have:=HDD.out;have:=HND.out;omega⟩);clear ho7 hg7);go_roundg (SZ-(i+1))
         case measure=>omega
         case rel=>exact⟨i+1,I2+1+1,xs++[(d:Int)],by omega,rfl,by go_num,zh (by have:=HI2.out;omega),HR7.out⟩
    ·go_wp2_with fail;refine(HSZ1.out W3 (HL.out.hot.trans HR.out.hot)).mono ?_;rintro e w3 ⟨rfl,hb3⟩;have HR3:=zh (HR.out.below hb3);clear hb3 c0 c1 c2 c3 c4 c5 c6;have hst:=HL.out.own.stayF rowIK HR3.out.hot (fun b e=>.inl (by simp at e;have:=HTL.out.2;omega));obtain⟨cs,k1,k2⟩:=hst;have HK:=zh (And.intro k1 k2);clear k1 k2;obtain⟨A7,c7,h7⟩:=own_form HR3.out.own;subst h7;have HLL:=zh (show L.length=j from HL.out.ok.1);have HIE:=zh (show i=szN F j from by have:=HSE.out;omega);have HD9:=zh (show F.dves.length<=1000 from by have:=HND.out;omega);go_wp2_with (at_builtin;refine app_rows (.slice A7 i c7) rfl 37 Tryz.underlying37 (.tmp 61) (.tmp 63) rfl rfl W0.heap.size u5 L.length cs (by rfl) HK.out.1 (by rfl) (by have:=HLL.out;have:=HI6.out;omega) (Nat.le_trans HL.out.hot.size HR3.out.hot.size) ?_;intro v5' w7 ho7 hg7 ha7;have HLN:=zh (LayT.push HL.out HR3.out HTL.out.2 HIE.out HD9.out ho7 HK.out.2 HK.out.1.1 (fun b hb=>⟨(HL.out.own.lt b hb).2,(HL.out.own.lt b hb).1⟩) hg7 ha7);clear ho7 hg7 ha7);go_roundg (NV-(j+1))
     case measure=>omega
     case rel=>exact⟨j+1,I2,L++[xs],by omega,rfl,by go_num,zh (by have:=HI2.out;have:=HI1.out;have:=HI6.out;omega),HLN.out⟩
  ·have HJE:=zh (show j=NV by omega);go_wp2_with fail;go_ret;have hz:=HH0.out.trans HL.out.hot;have hws:w.heap.size<=W0.heap.size:=HH0.out.size;exact⟨_,L,I1,rfl,HL.out.own.slS rowIK (fun b hb=>⟨Nat.le_trans hws hb.1,hb.2.1⟩) (fun b hb=>⟨Nat.le_trans hws (HL.out.own.lt b hb).1,(HL.out.own.lt b hb).2⟩),by rw[<-HJE.out];exact HL.out.ok,HL.out.tape,by have:=HI1.out;omega,⟨hz.os,hz.tape,hz.output,hz.size,fun b hb hne=>hz.block b hb (fun e=>by simp at e;exact hne (by rw[e]))⟩⟩
theorem setCells_flat{g:Nat}:∀(vs:List Value) (o:Nat) (w:World),(w.setCells g o vs).os=w.os/\(w.setCells g o vs).tape=w.tape/\(w.setCells g o vs).output=w.output
 | [],_,_=>⟨rfl,rfl,rfl⟩
 | v :: r,o,w=>by
  obtain⟨h1,h2,h3⟩:=setCells_flat (g:=g) r (o+1) (w.setCell ⟨g,o,none⟩ v);exact⟨h1,h2,h3⟩
theorem size_frac7:(Tryz.prog.info? 26).map (·.size)=some 3:=by kernel_rfl
theorem info_frac7:(Tryz.prog.info? 26).map (fun i=>(i.zero,i.size,i.bytes))=some (some (.agg #[.bool false,.slice none 0 0,.slice none 0 0]),3,56):=by kernel_rfl
theorem mk_fracs(n:Nat)(hn:n<=1000):∃cs:Array Value,cs.size=n*3/\∀w:World,(Instr.makeSlice 53 (.int .i64 (n:Int)) (.int .i64 (n:Int))).run Tryz.prog w=.ok (.slice (some ⟨w.heap.size,0,none⟩) n n) (w.alloc (.cells cs 26)):=by
 obtain⟨i0,hi0,hz0,hz1,hz2⟩:=info_parts info_frac7;refine⟨madeCells (Value.agg #[.bool false,.slice none 0 0,.slice none 0 0]).cells (n*3),size_madeCells _ _,fun w=>?_⟩;have h:=run_make (P:=Tryz.prog) w 53 26 i0 _ Tryz.underlying53 hi0 hz0 .i64 .i64 (n:Int) (n:Int) (by omega) (by omega) (by rw[hz2];omega) (by omega);rw[hz1] at h
 simpa using h
theorem pfracs_any(v:Value)(l:List Frc)(w:World)(h:SlS 3 FrcK w (Bl w.heap.size) v l)(hn:l.length<=1000)(hsm:∀x∈l,(natL x.num).length<=100000/\(natL x.den).length<=100000) :
  Calls Tryz.prog 75 #[v] w fun e w'=>∃g,e=.returned (.slice (some ⟨g,0,none⟩) l.length l.length)/\w.heap.size<=g/\OwnK 3 FrcK w' w.heap.size 26 (.slice (some ⟨g,0,none⟩) l.length l.length) l (fun b=>w.heap.size<=b/\b<w'.heap.size/\b≠g)/\Below w.heap.size w w':=by
 obtain⟨A,c,rfl,-,hm⟩:=h.form;obtain⟨L,hL⟩:=zx l.length;obtain⟨cs0,hz0,hmk⟩:=mk_fracs L (by omega);obtain⟨W0,hW0⟩:=zx (w.alloc (.cells cs0 26));obtain⟨g,hg⟩:=zx w.heap.size;rw[<-hL] at hn hm ⊢
 have hb0:Below w.heap.size w W0:=by rw[hW0];exact(zB _ _).alloc (zR _) _
 have hgk:W0.heap[g]?=some (.cells cs0 26 (0,0)):=by rw[hW0,hg];exact zN _ _
 have HF0:=zh (show FillTo 3 FrcK W0 w.heap.size 26 g L 0 l from FillTo.start (by omega) hgk hz0);have HB0:=zh hb0;have HS:=zh h;have HSM:=zh hsm;have HL:=zh hL;have HW0:=zh hW0;have HG:=zh hg;clear h hsm hL hW0 hg hb0 hgk hz0;go_enter Tryz.func75,Tryz.ntmps75;go_wp2_with fail;clear hmk;rw[<-HW0.out,<-HG.out];go_loopg [11] L (fun z v11 wr=>∃j:Nat,j<=L/\z=L-j/\v11=.int .i64 (j:Int)/\Hid (Below w.heap.size w wr)/\Hid (FillTo 3 FrcK wr w.heap.size 26 g L j l))
 case atStart=>exact⟨0,by omega,rfl,rfl,HB0,HF0⟩
 case round =>
  obtain⟨j,hj,rfl,rfl,HB,HF⟩:=hrel;obtain⟨W1,hW1⟩:=zx wr;rw[<-hW1] at HB HF ⊢;clear hW1;by_cases hlt:j<L
  ·obtain⟨b,off,cs,e,hR,hcl,hc,hK⟩:=HS.out.at_ (k:=j) (by rw[<-HL.out];exact hlt);obtain⟨x,hx⟩:∃x,l[j]?=some x:=⟨_,zG (by rw[<-HL.out];exact hlt)⟩;have hxe:l[j]'(by rw[<-HL.out];exact hlt)=x:=(zL.1 hx).2;rw[hxe] at hK;obtain⟨vn,vd,rfl,hn1,hn2⟩:=hK;obtain⟨A1,N1,c1,rfl⟩:=hn1.frm;obtain⟨A2,N2,c2,rfl⟩:=hn2.frm
   have hcx:∀i u,[Value.bool x.neg,.slice A1 N1 c1,.slice A2 N2 c2][i]?=some u->W1.cell? ⟨b,off+j*3+i,none⟩=some u:=fun i u hu=>(HB.out.cell (p:=⟨b,off+j*3+i,none⟩) hR).trans (hc i u hu)
   have e0:W1.cell? ⟨b,off+j*3,none⟩=some (.bool x.neg):=hcx 0 _ rfl;have e1:W1.cell? ⟨b,off+j*3+1,none⟩=some (.slice A1 N1 c1):=hcx 1 _ rfl;have e2:W1.cell? ⟨b,off+j*3+2,none⟩=some (.slice A2 N2 c2):=hcx 2 _ rfl
   have i1:(j:Int)<(L:Int):=by omega
   have l1:(L:Int)<=1000:=by omega
   have HX:=zh hx;have HN1:=zh hn1;have HN2:=zh hn2;subst e;clear hx hxe hn1 hn2 hcx hc hcl hR;go_wp2_with fail;have hb4:Below W1.heap.size W1 (W1.alloc (.cells #[.bool x.neg,.slice A1 N1 c1,.slice A2 N2 c2] 26)):=(zB _ _).alloc (zR _) _;obtain⟨W4,hW4⟩:=zx (W1.alloc (.cells #[.bool x.neg,.slice A1 N1 c1,.slice A2 N2 c2] 26));rw[<-hW4] at hb4 ⊢;have HB4:=zh hb4;have hw4:Below w.heap.size w W4:=HB.out.trans (hb4.mono HB.out.size);have hs2:=HSM.out x (List.mem_of_getElem? HX.out);have hcl:=pfrac_any x.neg (.slice A1 N1 c1) (.slice A2 N2 c2) (natL x.num) (natL x.den) W4 (HN1.out.below hw4) (HN2.out.below hw4) hs2.1 hs2.2;refine hcl.mono ?_;clear hW4 hb4 hcl e0 e1 e2 hw4 hs2;rintro e w5 ⟨un,ud,rfl,hu,hd,hb5⟩;obtain⟨B1,M1,k1,rfl⟩:=hu.frm;obtain⟨B2,M2,k2,rfl⟩:=hd.frm;have HB5:=zh (HB4.out.trans (hb5.mono HB4.out.size));have HF5:=zh (HF.out.below frcK HB5.out);have hgl:=HF.out.lt;have HF6:=zh (HF5.out.store frcK hlt [.bool x.neg,.slice B1 M1 k1,.slice B2 M2 k2] rfl HX.out (R:=Fr W4.heap.size w5.heap.size) ⟨_,_,rfl,hu,hd⟩ (fun b hb=>⟨by have:=hb.1;have:=HB4.out.size;have:=HB.out.size;omega,hb.2,by have:=hb.1;have:=HB4.out.size;omega⟩));have HTH:=zh (HF5.out.there hlt);have hbg:w.heap.size<=g:=HF.out.1;have HB6:=zh (show Below w.heap.size w (w5.setCells g (j*3) [.bool x.neg,.slice B1 M1 k1,.slice B2 M2 k2]) from(HB.out.trans (HB5.out.mono HB.out.size)).trans ⟨(setCells_flat _ _ _).1,(setCells_flat _ _ _).2.1,(setCells_flat _ _ _).2.2,by rw[setCells_sizeK];exact zR _,fun b hb=>setCells_other _ _ _ _ (by omega)⟩);clear hu hd hb5 hgl hbg
   rename_i hK
   refine hK _ _ ?_;refine wpList_plain rfl (fun K hK=>?_);go_simp;refine hK _ _ ?_;clear hK;(try simp only[Act.put,z1,z2,z3]);refine wpList_store_mid rfl 26 (.tmp 20) (.tmp 19) rfl g (j*3) #[.bool x.neg,.slice B1 M1 k1,.slice B2 M2 k2] (by rfl) (by rfl) HTH.out size_frac7 (by simp[Value.oneCell']) ?_;(try simp only[Act.put,z1,z2,z3]);obtain⟨W6,hW6⟩:=zx (w5.setCells g (j*3) [.bool x.neg,.slice B1 M1 k1,.slice B2 M2 k2]);rw[<-hW6] at HF6 HB6 ⊢;clear hW6;go_wp2_with fail;go_roundg (L-(j+1))
   case measure=>omega
   case rel=>exact⟨j+1,by omega,rfl,by go_num,HB6,HF6⟩
  ·have HJE:=zh (show j=L by omega);go_wp2_with fail;go_ret;have hf:=HF.out;rw[HJE.out] at hf;have ho:=hf.own HL.out.symm (by unfold maxLen;omega);exact⟨g,rfl,hf.1,ho,HB.out⟩
theorem rtimes0_any(va vb:Value)(m:Nat)(w:World)(ha:LS w (Bl w.heap.size) va (natL 0))(hb:LS w (Bl w.heap.size) vb (natL m))(hm:0<m) :
  Calls Tryz.prog 175 #[va,vb] w fun e w'=>∃u,e=.returned u/\OwnL w' w.heap.size u (natL (0*m))/\Below w.heap.size w w':=by
 have hm32:=hb.lt32;have hn32:=ha.lt32
 have lm:(natL m).length=1:=by rw[natL_pos hm];rfl
 obtain⟨B,d,rfl,-,-⟩:=hb.form;obtain⟨-,-,-,-,hd0,-⟩:=hb.cap (by rw[lm];omega);rw[lm] at hb hd0 ⊢
 have hd1:(1:Int)<=(d:Int):=by omega
 obtain⟨b2,o2,rfl,hR2,hc2⟩:=hb.one hm;have HC2:=zh hc2;have HR2:=zh hR2;have hmk1:=mk_u32s1;have hmk2:=mk_u32s2;clear hb lm hc2 hR2 hd0;obtain⟨A,c,rfl,-,-⟩:=ha.form;rw[show(natL 0).length=0 from rfl] at ha ⊢;obtain⟨W3,hW3⟩:=zx (w.alloc (.cells #[.int .u32 0] 107));obtain⟨g,hg⟩:=zx w.heap.size
 have hg3:W3.heap[g]?=some (.cells #[.int .u32 0] 107 (0,0)):=by rw[hW3,hg];exact zN _ _
 have hgl:g<W3.heap.size:=(zA.1 hg3).1;have HB3:=zh (show Below w.heap.size w W3 from by rw[hW3];exact(zB _ _).alloc (zR _) _);have hls:LS W3 (Bl W3.heap.size) (.slice (some ⟨g,0,none⟩) 1 1) [0]:=LS.cell1 W3 g 0 (by omega) hg3 _ hgl;have HT:=zh (trim_any _ _ _ W3 hls (fun _ h=>h) (by simp));rw[show trimL [0]=[] from rfl] at HT;have HW3:=zh hW3;have HGW:=zh hg;clear hg3 hgl hls hW3 hg ha;go_enter Tryz.func175,Tryz.ntmps175;go_upto_region 2 with fail;rw[<-HGW.out,<-HW3.out];clear hmk1 hmk2;go_wp2_with fail;go_loopg [6] 0 (fun z v6 wr=>v6=.int .i64 0/\W3=wr)
 case atStart=>exact⟨rfl,rfl⟩
 case round =>
  obtain⟨rfl,rfl⟩:=hrel;go_wp2_with fail;refine HT.out.mono ?_;rintro e w4 ⟨u,rfl,hO,hb4⟩;have HO:=zh (hO.base (B':=w.heap.size) HB3.out.size);have HB4:=zh (HB3.out.trans (hb4.mono HB3.out.size));clear hO hb4;go_wp2_with fail;go_ret;exact⟨_,rfl,by rw[Nat.zero_mul];exact HO.out,HB4.out⟩
theorem rtimesZ_any(va vb:Value)(n m:Nat)(w:World)(ha:LS w (Bl w.heap.size) va (natL n))(hb:LS w (Bl w.heap.size) vb (natL m))(hm:0<m) :
  Calls Tryz.prog 175 #[va,vb] w fun e w'=>∃u,e=.returned u/\OwnL w' w.heap.size u (limbs (n*m))/\Below w.heap.size w w':=by
 rcases Nat.eq_zero_or_pos n with h | h
 ·subst h;refine(rtimes0_any va vb m w ha hb hm).mono ?_;rintro e w' ⟨u,h1,h2,h3⟩;rw[<-limbs_small (by omega)] at h2;exact⟨u,h1,h2,h3⟩
 ·have h32:=ha.lt32;rw[<-limbs_small h32] at ha;exact rtimesG_any va vb n m w ha hb (Nat.le_trans (limbs_len1.2 h32) (by omega)) h
theorem rtimes_any(va vb:Value)(n m:Nat)(w:World)(ha:LS w (Bl w.heap.size) va (natL n))(hb:LS w (Bl w.heap.size) vb (natL m))(hm:0<m)(hnm:n*m<4294967296) :
  Calls Tryz.prog 175 #[va,vb] w fun e w'=>∃u,e=.returned u/\OwnL w' w.heap.size u (natL (n*m))/\Below w.heap.size w w':=by
 have h:=rtimesZ_any va vb n m w ha hb hm
 rwa [limbs_small hnm] at h
theorem rmul_any(va vb:Value)(n m:Nat)(w:World)(ha:LS w (Bl w.heap.size) va (natL n))(hb:LS w (Bl w.heap.size) vb (natL m))(hm:0<m)(hnm:n*m<4294967296) :
  Calls Tryz.prog 163 #[va,vb] w fun e w'=>∃u,e=.returned (.tuple #[u,.int .i64 0])/\OwnL w' w.heap.size u (natL (n*m))/\Below w.heap.size w w':=by
 have HN:=zh ha.lt32;have HM:=zh hb.lt32;have HL1:=zh (rlarge_any va _ _ w ha (fun _ h=>h) (by have:=natL_length n;omega));have HA:=zh ha;have HB:=zh hb;have HM0:=zh hm;have HNM:=zh hnm;clear ha hb hm hnm;go_enter Tryz.func163,Tryz.ntmps163;go_wp2_with fail;refine HL1.out.mono ?_;rintro e w1 ⟨rfl,hb1⟩;have HB1:=zh hb1;have HL2:=zh (rlarge_any vb _ _ w1 (HB.out.below hb1) (fun _ h=>h) (by have:=natL_length m;omega));clear hb1;go_wp2_with fail;refine HL2.out.mono ?_;rintro e w2 ⟨rfl,hb2⟩;have HB2:=zh (HB1.out.trans (hb2.mono HB1.out.size));have HT1:=zh (trim_any va _ _ w2 (HA.out.below HB2.out) (fun _ h=>h) (by have:=natL_length n;omega));clear hb2;go_wp2_with fail;refine HT1.out.mono ?_;rintro e w3 ⟨u1,rfl,ho1,hb3⟩;rw[trim_natL] at ho1;have HO1:=zh ho1;have HB3:=zh (HB2.out.trans (hb3.mono HB2.out.size));have HT2:=zh (trim_any vb _ _ w3 (HB.out.below HB3.out) (fun _ h=>h) (by have:=natL_length m;omega));clear ho1 hb3;go_wp2_with fail;refine HT2.out.mono ?_;rintro e w4 ⟨u2,rfl,ho2,hb4⟩;rw[trim_natL] at ho2;have HB4:=zh (HB3.out.trans (hb4.mono HB3.out.size));have HT:=zh (rtimes_any u1 u2 n m w4 ((HO1.out.below hb4).lsBl (natL_mem HN.out)) (ho2.lsBl (natL_mem HM.out)) HM0.out HNM.out);clear ho2 hb4;go_wp2_with fail;refine HT.out.mono ?_;rintro e w5 ⟨u,rfl,ho,hb5⟩;have HB5:=zh (HB4.out.trans (hb5.mono HB4.out.size));have HO:=zh ho;have HL3:=zh (rlarge_any u _ _ w5 (ho.lsBl (natL_mem HNM.out)) (fun _ h=>h) (by have:=natL_length (n*m);omega));clear ho hb5;go_wp2_with fail;refine HL3.out.mono ?_;rintro e w6 ⟨rfl,hb6⟩;have HO6:=zh ((HO.out.below hb6).base (B':=w.heap.size) HB4.out.size);have HB6:=zh (HB5.out.trans (hb6.mono HB5.out.size));clear hb6;go_wp2_with fail;go_ret2;exact⟨_,rfl,HO6.out,HB6.out⟩
theorem rtm_any(va vb:Value)(n m:Nat)(w:World)(ha:LS w (Bl w.heap.size) va (natL n))(hb:LS w (Bl w.heap.size) vb (natL m))(hm:0<m)(hnm:n*m<4294967296) :
  Calls Tryz.prog 131 #[va,vb] w fun e w'=>∃u,e=.returned u/\OwnL w' w.heap.size u (natL (n*m))/\Below w.heap.size w w':=by
 have HM:=zh (rmul_any va vb n m w ha hb hm hnm);clear ha hb hm hnm;go_enter Tryz.func131,Tryz.ntmps131;go_wp2_with fail;refine HM.out.mono ?_;rintro e w1 ⟨u,rfl,ho,hb⟩;have HO:=zh ho;clear ho;go_wp2_with fail;go_ret;exact⟨_,rfl,HO.out,hb⟩
theorem lowF_one{n m:Nat}(h:Nat.gcd n m=1):lowF false n m=⟨false,n,m⟩:=by
 unfold lowF;split
 ·rename_i h0;subst h0;rw[Nat.gcd_zero_left] at h;rw[h]
 ·rw[h,Nat.div_one,Nat.div_one]
theorem rlow1_any(va vb:Value)(n m:Nat)(w:World)(ha:LS w (Bl w.heap.size) va (natL n))(hb:LS w (Bl w.heap.size) vb (natL m))(hm:0<m)(hg:Nat.gcd n m=1) :
  Calls Tryz.prog 67 #[.bool false,va,vb] w fun e w'=>∃un um,e=.returned (.agg #[.bool false,un,um])/\LS w' (Fr w.heap.size w'.heap.size) un (natL n)/\LS w' (Fr w.heap.size w'.heap.size) um (natL m)/\Below w.heap.size w w':=by
 refine(rlowest_any false va vb n m w ha hb hm).mono ?_;rintro e w' ⟨v,rfl,⟨un,um,rfl,h1,h2⟩,h3⟩;rw[lowF_one hg] at h1 h2 ⊢;exact⟨un,um,rfl,h1,h2,h3⟩
theorem rvalid_any(neg:Bool)(va vb:Value)(n m:Nat)(w:World)(ha:LS w (Bl w.heap.size) va (natL n))(hb:LS w (Bl w.heap.size) vb (natL m))(hm:0<m) :
  Calls Tryz.prog 85 #[.agg #[.bool neg,va,vb]] w fun e w'=>e=.returned (.bool true)/\Below w.heap.size w w':=by
 have h:=rvalidL_any neg va vb _ _ w ha hb (by have:=natL_length n;omega) (by have:=natL_length m;omega)
 rwa [nv_natL ha.lt32,nv_natL hb.lt32,okL_small hm ha.lt32 hb.lt32] at h
theorem rreduce_any(va vb:Value)(n m:Nat)(w:World)(ha:LS w (Bl w.heap.size) va (natL n))(hb:LS w (Bl w.heap.size) vb (natL m))(hm:0<m)(hg:Nat.gcd n m=1) :
  Calls Tryz.prog 83 #[.agg #[.bool false,va,vb]] w fun e w'=>∃un um,e=.returned (.tuple #[.agg #[.bool false,un,um],.int .i64 0])/\LS w' (Fr w.heap.size w'.heap.size) un (natL n)/\LS w' (Fr w.heap.size w'.heap.size) um (natL m)/\Below w.heap.size w w':=by
 have hk:okL n m=true:=okL_small hm ha.lt32 hb.lt32;have h:=rreduceL_any false va vb _ _ w ha hb (by have:=natL_length n;omega) (by have:=natL_length m;omega);rw[nv_natL ha.lt32,nv_natL hb.lt32,hg,Nat.div_one,Nat.div_one,limbs_small ha.lt32,limbs_small hb.lt32,hk] at h;refine h.mono ?_;rintro e w' ⟨h1,⟨h2,-⟩ | ⟨-,un,um,rfl,h3,h4⟩⟩
 ·simp at h2
 ·exact⟨un,um,rfl,h3,h4,h1⟩
theorem rfrac1_any(n:Nat)(w:World)(hn:n<4294967296) :
  Calls Tryz.prog 27 #[.int .i64 (n:Int),.int .i64 1] w fun e w'=>∃un um,e=.returned (.tuple #[.agg #[.bool false,un,um],.int .i64 0])/\LS w' (Fr w.heap.size w'.heap.size) un (natL n)/\LS w' (Fr w.heap.size w'.heap.size) um (natL 1)/\Below w.heap.size w w':=by
 refine(rfrac_any n 1 w hn (by omega) (by omega)).mono ?_;rintro e w' ⟨v,rfl,⟨un,um,rfl,h1,h2⟩,h3⟩;rw[lowF_one (Nat.gcd_one_right n)] at h1 h2 ⊢;exact⟨un,um,rfl,h1,h2,h3⟩
theorem rint_any(n:Nat)(w:World)(hn:n<4294967296) :
  Calls Tryz.prog 146 #[.int .i64 (n:Int)] w fun e w'=>∃un um,e=.returned (.agg #[.bool false,un,um])/\LS w' (Fr w.heap.size w'.heap.size) un (natL n)/\LS w' (Fr w.heap.size w'.heap.size) um (natL 1)/\Below w.heap.size w w':=by
 obtain⟨W0,hW0⟩:=zx (w.alloc (.cells #[.bool false,.slice none 0 0,.slice none 0 0] 26));obtain⟨g,hg⟩:=zx w.heap.size
 have hb0:Below w.heap.size w W0:=by rw[hW0];exact(zB _ _).alloc (zR _) _
 have hbk:W0.heap[g]?=some (.cells #[.bool false,.slice none 0 0,.slice none 0 0] 26 (0,0)):=by rw[hW0,hg];exact zN _ _
 have hgl:g<W0.heap.size:=(zA.1 hbk).1;have HW0:=zh hW0;have HG:=zh hg;have HB0:=zh hb0;have HBK:=zh hbk;have HGL:=zh hgl;have HF:=zh (rfrac1_any n W0 hn);clear hW0 hg hb0 hbk hgl hn;go_enter Tryz.func146,Tryz.ntmps146;go_wp2_with fail;rw[<-HW0.out,<-HG.out];refine HF.out.mono ?_;rintro e w1 ⟨un,um,rfl,h1,h2,hb1⟩;obtain⟨A1,N1,e1,rfl⟩:=h1.frm;obtain⟨A2,N2,e2,rfl⟩:=h2.frm;obtain⟨W2,hW2⟩:=zx (w1.alloc (.cells #[.bool false,.slice A1 N1 e1,.slice A2 N2 e2] 26));obtain⟨p,hp⟩:=zx w1.heap.size
 have hb2:Below w1.heap.size w1 W2:=by rw[hW2];exact(zB _ _).alloc (zR _) _
 have hpk:W2.heap[p]?=some (.cells #[.bool false,.slice A1 N1 e1,.slice A2 N2 e2] 26 (0,0)):=by rw[hW2,hp];exact zN _ _
 obtain⟨c0,c1,c2,-⟩:=cells3 hpk;have hb12:=hb1.trans (hb2.mono hb1.size);have hk:=(hb12.block g HGL.out).trans HBK.out;obtain⟨l0,l1,l2,f0,f1,f2⟩:=cells3 hk;have hbw:=HB0.out.trans (hb12.mono HB0.out.size)
 have hgw:w.heap.size<=g:=by rw[HG.out];omega
 have hs0:=HB0.out.size;have hgl:=HGL.out;have h1':=h1.keep (fun b hb=>hb2.block b hb.2);have h2':=h2.keep (fun b hb=>hb2.block b hb.2);have HX:=zh (box3 hk hbw hgw (.bool false) (.slice A1 N1 e1) (.slice A2 N2 e2) h1' (fun b hb=>⟨by have:=hb.1;omega,by have:=hb.1;omega,zM hb.2 hb2.size⟩) h2' (fun b hb=>⟨by have:=hb.1;omega,by have:=hb.1;omega,zM hb.2 hb2.size⟩));have HW2:=zh hW2;have HP:=zh hp;clear h1 h2 h1' h2' hb1 hb2 hb12 hk hbw hgw hs0 hgl hW2 hp hpk;go_upto_region 2 with fail;rw[<-HW2.out,<-HP.out];go_wp2_with fail;obtain⟨Wf,hWf⟩:=zx (((W2.setCell ⟨g,0,none⟩ (.bool false)).setCell ⟨g,1,none⟩ (.slice A1 N1 e1)).setCell ⟨g,2,none⟩ (.slice A2 N2 e2));obtain⟨x0,x1,x2,hl1,hl2,hbf⟩:=HX.out Wf hWf;rw[<-hWf];clear hWf l0 l1 l2 c0 c1 c2;exact bodyPost_ret (v:=.agg #[.bool false,.slice A1 N1 e1,.slice A2 N2 e2]) (by simp[results,Tryz.results146,go_sem,x0,x1,x2]) rfl ⟨_,_,rfl,hl1,hl2,hbf⟩
theorem rsmall_any(va vb:Value)(n m:Nat)(w:World)(ha:LS w (Bl w.heap.size) va (natL n))(hb:LS w (Bl w.heap.size) vb (natL m))(hm:0<m)(hg:Nat.gcd n m=1) :
  Calls Tryz.prog 102 #[.agg #[.bool false,va,vb]] w fun e w'=>e=.returned (.bool true)/\Below w.heap.size w w':=by
 obtain⟨An,Nn,cn,rfl⟩:=ha.frm;obtain⟨Ad,Nd,cd,rfl⟩:=hb.frm;obtain⟨W0,hW0⟩:=zx (w.alloc (.cells #[.bool false,.slice An Nn cn,.slice Ad Nd cd] 26));obtain⟨q,hq⟩:=zx w.heap.size
 have hb0:Below w.heap.size w W0:=by rw[hW0];exact(zB _ _).alloc (zR _) _
 have hqk:W0.heap[q]?=some (.cells #[.bool false,.slice An Nn cn,.slice Ad Nd cd] 26 (0,0)):=by rw[hW0,hq];exact zN _ _
 obtain⟨c0,c1,c2,-⟩:=cells3 hqk;have HR:=zh (rreduce_any _ _ n m W0 (ha.below hb0) (hb.below hb0) hm hg);have HN:=zh (natL_length n);have HM:=zh (natL_length m);have HW0:=zh hW0;have HQ:=zh hq;have HB0:=zh hb0;clear ha hb hW0 hq hb0 hqk;go_enter Tryz.func102,Tryz.ntmps102;go_wp2_with fail;rw[<-HW0.out,<-HQ.out];refine HR.out.mono ?_;rintro e w1 ⟨un,um,rfl,h1,h2,hb1⟩
 obtain⟨A1,N1,e1,hN1,rfl⟩:∃A L c,L<=1/\un=.slice A L c:=by obtain⟨A,c,e,-⟩:=h1.form;exact⟨A,_,c,HN.out,e⟩
 obtain⟨A2,N2,e2,hN2,rfl⟩:∃A L c,L<=1/\um=.slice A L c:=by obtain⟨A,c,e,-⟩:=h2.form;exact⟨A,_,c,HM.out,e⟩
 have HB1:=zh (HB0.out.trans (hb1.mono HB0.out.size));obtain⟨W2,hW2⟩:=zx (w1.alloc (.cells #[.bool false,.slice A1 N1 e1,.slice A2 N2 e2] 26));obtain⟨p,hp⟩:=zx w1.heap.size
 have hpk:W2.heap[p]?=some (.cells #[.bool false,.slice A1 N1 e1,.slice A2 N2 e2] 26 (0,0)):=by rw[hW2,hp];exact zN _ _
 have HB2:=zh (show Below w.heap.size w W2 by rw[hW2];exact HB1.out.alloc HB1.out.size _);have HW2:=zh hW2;have HP:=zh hp;have hL1:decide ((N1:Int)<=1)=true:=decide_eq_true (by omega);have hL2:decide ((N2:Int)<=1)=true:=decide_eq_true (by omega)
 have hL3:(N1:Int)<=1:=by omega
 have hL4:(N2:Int)<=1:=by omega
 clear h1 h2 hb1 c0 c1 c2 hW2 hp hN1 hN2;obtain⟨c0,c1,c2,-⟩:=cells3 hpk;clear hpk;go_upto_region 2 with fail;rw[<-HW2.out,<-HP.out];go_wp2_with fail;go_ret;exact⟨rfl,HB2.out⟩
theorem rmulG_any(va vb:Value)(n m:Nat)(w:World)(ha:LS w (Bl w.heap.size) va (natL n))(hb:LS w (Bl w.heap.size) vb (natL m))(hm:0<m) :
  Calls Tryz.prog 163 #[va,vb] w fun e w'=>∃u,e=.returned (.tuple #[u,.int .i64 0])/\OwnL w' w.heap.size u (limbs (n*m))/\Below w.heap.size w w':=by
 have HN:=zh ha.lt32;have HM:=zh hb.lt32;have HL1:=zh (rlarge_any va _ _ w ha (fun _ h=>h) (by have:=natL_length n;omega));have HA:=zh ha;have HB:=zh hb;have HM0:=zh hm;have HNM:=zh (len2 HN.out HM.out);clear ha hb hm;go_enter Tryz.func163,Tryz.ntmps163;go_wp2_with fail;refine HL1.out.mono ?_;rintro e w1 ⟨rfl,hb1⟩;have HB1:=zh hb1;have HL2:=zh (rlarge_any vb _ _ w1 (HB.out.below hb1) (fun _ h=>h) (by have:=natL_length m;omega));clear hb1;go_wp2_with fail;refine HL2.out.mono ?_;rintro e w2 ⟨rfl,hb2⟩;have HB2:=zh (HB1.out.trans (hb2.mono HB1.out.size));have HT1:=zh (trim_any va _ _ w2 (HA.out.below HB2.out) (fun _ h=>h) (by have:=natL_length n;omega));clear hb2;go_wp2_with fail;refine HT1.out.mono ?_;rintro e w3 ⟨u1,rfl,ho1,hb3⟩;rw[trim_natL] at ho1;have HO1:=zh ho1;have HB3:=zh (HB2.out.trans (hb3.mono HB2.out.size));have HT2:=zh (trim_any vb _ _ w3 (HB.out.below HB3.out) (fun _ h=>h) (by have:=natL_length m;omega));clear ho1 hb3;go_wp2_with fail;refine HT2.out.mono ?_;rintro e w4 ⟨u2,rfl,ho2,hb4⟩;rw[trim_natL] at ho2;have HB4:=zh (HB3.out.trans (hb4.mono HB3.out.size));have HT:=zh (rtimesZ_any u1 u2 n m w4 ((HO1.out.below hb4).lsBl (natL_mem HN.out)) (ho2.lsBl (natL_mem HM.out)) HM0.out);clear ho2 hb4;go_wp2_with fail;refine HT.out.mono ?_;rintro e w5 ⟨u,rfl,ho,hb5⟩;have HB5:=zh (HB4.out.trans (hb5.mono HB4.out.size));have HO:=zh ho;have HL3:=zh (rlarge_any u _ _ w5 (ho.lsBl (lim_limbs _)) (fun _ h=>h) (Nat.le_trans HNM.out (by omega)));clear ho hb5;go_wp2_with fail;refine HL3.out.mono ?_;rintro e w6 ⟨rfl,hb6⟩;have HO6:=zh ((HO.out.below hb6).base (B':=w.heap.size) HB4.out.size);have HB6:=zh (HB5.out.trans (hb6.mono HB5.out.size));clear hb6;go_wp2_with fail;go_ret2;exact⟨_,rfl,HO6.out,HB6.out⟩
theorem rtmG_any(va vb:Value)(n m:Nat)(w:World)(ha:LS w (Bl w.heap.size) va (natL n))(hb:LS w (Bl w.heap.size) vb (natL m))(hm:0<m) :
  Calls Tryz.prog 131 #[va,vb] w fun e w'=>∃u,e=.returned u/\OwnL w' w.heap.size u (limbs (n*m))/\Below w.heap.size w w':=by
 have HM:=zh (rmulG_any va vb n m w ha hb hm);clear ha hb hm;go_enter Tryz.func131,Tryz.ntmps131;go_wp2_with fail;refine HM.out.mono ?_;rintro e w1 ⟨u,rfl,ho,hb⟩;have HO:=zh ho;clear ho;go_wp2_with fail;go_ret;exact⟨_,rfl,HO.out,hb⟩
theorem rorderG_any(xn xd yn yd:Value)(a b c d:Nat)(w:World)(hxn:LS w (Bl w.heap.size) xn (natL a))(hxd:LS w (Bl w.heap.size) xd (natL b))(hyn:LS w (Bl w.heap.size) yn (natL c))(hyd:LS w (Bl w.heap.size) yd (natL d))(h0b:0<b)(h0d:0<d) :
  Calls Tryz.prog 86 #[.agg #[.bool false,xn,xd],.agg #[.bool false,yn,yd]] w fun e w'=>e=.returned (.int .i64 (cmpI (a*d) (c*b)))/\Below w.heap.size w w':=by
 obtain⟨An,Nn,cn,rfl⟩:=hxn.frm;obtain⟨Ad,Nd,cd,rfl⟩:=hxd.frm;obtain⟨Bn,Mn,dn,rfl⟩:=hyn.frm;obtain⟨Bd,Md,dd,rfl⟩:=hyd.frm;obtain⟨W0,hW0⟩:=zx ((w.alloc (.cells #[.bool false,.slice An Nn cn,.slice Ad Nd cd] 26)).alloc (.cells #[.bool false,.slice Bn Mn dn,.slice Bd Md dd] 26));obtain⟨q,hq⟩:=zx w.heap.size;obtain⟨p,hp⟩:=zx (w.heap.size+1)
 have hb0:Below w.heap.size w W0:=by rw[hW0];exact((zB _ _).alloc (zR _) _).alloc (by simp) _
 have hpk:W0.heap[p]?=some (.cells #[.bool false,.slice Bn Mn dn,.slice Bd Md dd] 26 (0,0)):=by
  rw[hW0];exact heap_alloc_at _ _ _ (by rw[hp];simp)
 have hqk:W0.heap[q]?=some (.cells #[.bool false,.slice An Nn cn,.slice Ad Nd cd] 26 (0,0)):=by
  rw[hW0,hq];exact(zH _ _ _ (by simp)).trans (zN w _)
 have hpl:p<W0.heap.size:=(zA.1 hpk).1;have hql:q<W0.heap.size:=(zA.1 hqk).1;obtain⟨c0,c1,c2,-⟩:=cells3 hqk;obtain⟨d0,d1,d2,-⟩:=cells3 hpk;obtain⟨x1,hx1⟩:=zx (Value.slice An Nn cn);obtain⟨x2,hx2⟩:=zx (Value.slice Ad Nd cd);obtain⟨y1,hy1⟩:=zx (Value.slice Bn Mn dn);obtain⟨y2,hy2⟩:=zx (Value.slice Bd Md dd);have H1:=zh (hxn.below hb0);have H2:=zh (hxd.below hb0);have H3:=zh (hyn.below hb0);have H4:=zh (hyd.below hb0);have H5:=zh (And.intro (len2 hxn.lt32 hyd.lt32) (len2 hyn.lt32 hxd.lt32));have HW0:=zh hW0;have HQ:=zh (show q=w.heap.size/\p=w.heap.size+1 from⟨hq,hp⟩);have HQP:=zh (show q<W0.heap.size/\p<W0.heap.size from⟨hql,hpl⟩);have HB0:=zh hb0;clear hW0 hq hp hb0 hpk hqk hpl hql hxn hxd hyn hyd;go_enter Tryz.func86,Tryz.ntmps86;go_upto_region 1 with fail;rw[<-HW0.out,<-HQ.out.2,<-HQ.out.1];clear HW0 HQ;rw[<-hx1] at H1 c1 ⊢;rw[<-hx2] at H2 c2 ⊢;rw[<-hy1] at H3 d1 ⊢;rw[<-hy2] at H4 d2 ⊢;have HT1:=zh (fun W (h:HeldF W0 q p (.bool false) x1 x2 (.bool false) y1 y2 W)=>rtmG_any x1 y2 a d W (h.ls H1.out) (h.ls H4.out) h0d);have HT2:=zh (fun W (h:HeldF W0 q p (.bool false) x1 x2 (.bool false) y1 y2 W)=>rtmG_any y1 x2 c b W (h.ls H3.out) (h.ls H2.out) h0b);have HS0:=zh (show HeldF W0 q p (.bool false) x1 x2 (.bool false) y1 y2 W0.drew from⟨c0,c1,c2,d0,d1,d2,(zB _ _).drew⟩);clear hx1 hx2 hy1 hy2 c0 c1 c2 d0 d1 d2;refine region_tail (S:=(fun w'=>w'.cell? ⟨q,0,none⟩=some (.bool false)/\w'.cell? ⟨q,1,none⟩=some x1/\w'.cell? ⟨q,2,none⟩=some x2/\w'.cell? ⟨p,0,none⟩=some (.bool false)/\w'.cell? ⟨p,1,none⟩=some y1/\w'.cell? ⟨p,2,none⟩=some y2/\Below W0.heap.size W0 w')) [] (by kernel_rfl) HS0.out (fun hHeld=>?_);refine tk 0 9 ?_;refine tk 1 10 ?_;refine tk 2 11 ?_;refine tk 3 12 ?_;refine tk 5 14 ?_;refine tk 6 15 ?_;refine tk 7 16 ?_;refine tk 8 17 ?_;refine rd1 4 (fun K hK=>?_);go_simp;(go_at_call 131;refine(HT1.out _ (by assumption)).mono ?_;rintro e w5 ⟨u5,rfl,hu5,hb5⟩);go_wp2_with fail;refine hK.out _ _ ?_ (fun hHeld=>?_)
 ·(first|exact HeldF.below (by assumption) hb6 HQP.out.1 HQP.out.2|exact HeldF.below (by assumption) hb5 HQP.out.1 HQP.out.2)
 clear hK K;(try simp only[Act.put,z1,z2,z3]);refine rd1 9 (fun K hK=>?_);go_simp;(go_at_call 131;refine(HT2.out _ (by assumption)).mono ?_;rintro e w6 ⟨u6,rfl,hu6,hb6⟩);go_wp2_with fail;refine hK.out _ _ ?_ (fun hHeld=>?_)
 ·(first|exact HeldF.below (by assumption) hb6 HQP.out.1 HQP.out.2|exact HeldF.below (by assumption) hb5 HQP.out.1 HQP.out.2)
 clear hK K;(try simp only[Act.put,z1,z2,z3]);refine tk 10 5 ?_;refine tk 11 6 ?_;refine doneT (by kernel_rfl) ?_ _;have HBZ:=zh (HeldF.bl (q:=q) (p:=p) (by assumption));obtain⟨d0,d1,d2,e0,e1,e2,-⟩:=hHeld;have HCM:=zh (rcmpL_any u5 u6 (limbs (a*d)) (limbs (c*b)) w6 ((hu5.below hb6).lsBl (lim_limbs _)) (hu6.lsBl (lim_limbs _)) (Nat.le_trans H5.out.1 (by omega)) (Nat.le_trans H5.out.2 (by omega)));rw[nv_limbs,nv_limbs] at HCM;clear hu5 hu6 hb5 hb6;go_wp2_with fail;refine HCM.out.mono ?_;rintro e w7 ⟨rfl,hb7⟩;have HB7:=zh (HBZ.out.trans (hb7.mono HBZ.out.size));clear hb7 d0 d1 d2 e0 e1 e2;go_wp2_with fail;go_ret;exact⟨rfl,HB0.out.trans (HB7.out.mono HB0.out.size)⟩
theorem rorder_any(xn xd yn yd:Value)(a b c d:Nat)(w:World)(hxn:LS w (Bl w.heap.size) xn (natL a))(hxd:LS w (Bl w.heap.size) xd (natL b))(hyn:LS w (Bl w.heap.size) yn (natL c))(hyd:LS w (Bl w.heap.size) yd (natL d))(h0b:0<b)(h0d:0<d)(h1:a*d<4294967296)(h2:c*b<4294967296) :
  Calls Tryz.prog 86 #[.agg #[.bool false,xn,xd],.agg #[.bool false,yn,yd]] w fun e w'=>e=.returned (.int .i64 (cmpI (a*d) (c*b)))/\Below w.heap.size w w':=by
 exact rorderG_any xn xd yn yd a b c d w hxn hxd hyn hyd h0b h0d
theorem rless_any(xn xd yn yd:Value)(a b c d:Nat)(w:World)(hxn:LS w (Bl w.heap.size) xn (natL a))(hxd:LS w (Bl w.heap.size) xd (natL b))(hyn:LS w (Bl w.heap.size) yn (natL c))(hyd:LS w (Bl w.heap.size) yd (natL d))(h0b:0<b)(h0d:0<d)(h1:a*d<4294967296)(h2:c*b<4294967296) :
  Calls Tryz.prog 149 #[.agg #[.bool false,xn,xd],.agg #[.bool false,yn,yd]] w fun e w'=>e=.returned (.bool (decide (cmpI (a*d) (c*b)<0)))/\Below w.heap.size w w':=by
 obtain⟨An,Nn,cn,rfl⟩:=hxn.frm;obtain⟨Ad,Nd,cd,rfl⟩:=hxd.frm;obtain⟨Bn,Mn,dn,rfl⟩:=hyn.frm;obtain⟨Bd,Md,dd,rfl⟩:=hyd.frm;obtain⟨W0,hW0⟩:=zx ((w.alloc (.cells #[.bool false,.slice An Nn cn,.slice Ad Nd cd] 26)).alloc (.cells #[.bool false,.slice Bn Mn dn,.slice Bd Md dd] 26));obtain⟨q,hq⟩:=zx w.heap.size;obtain⟨p,hp⟩:=zx (w.heap.size+1)
 have hb0:Below w.heap.size w W0:=by rw[hW0];exact((zB _ _).alloc (zR _) _).alloc (by simp) _
 have hpk:W0.heap[p]?=some (.cells #[.bool false,.slice Bn Mn dn,.slice Bd Md dd] 26 (0,0)):=by
  rw[hW0];exact heap_alloc_at _ _ _ (by rw[hp];simp)
 have hqk:W0.heap[q]?=some (.cells #[.bool false,.slice An Nn cn,.slice Ad Nd cd] 26 (0,0)):=by
  rw[hW0,hq];exact(zH _ _ _ (by simp)).trans (zN w _)
 have hpl:p<W0.heap.size:=(zA.1 hpk).1;have hql:q<W0.heap.size:=(zA.1 hqk).1;obtain⟨c0,c1,c2,-⟩:=cells3 hqk;obtain⟨d0,d1,d2,-⟩:=cells3 hpk;obtain⟨x1,hx1⟩:=zx (Value.slice An Nn cn);obtain⟨x2,hx2⟩:=zx (Value.slice Ad Nd cd);obtain⟨y1,hy1⟩:=zx (Value.slice Bn Mn dn);obtain⟨y2,hy2⟩:=zx (Value.slice Bd Md dd);have H1:=zh (hxn.below hb0);have H2:=zh (hxd.below hb0);have H3:=zh (hyn.below hb0);have H4:=zh (hyd.below hb0);have H5:=zh (show a*d<4294967296/\c*b<4294967296 from⟨h1,h2⟩);have HW0:=zh hW0;have HQ:=zh (show q=w.heap.size/\p=w.heap.size+1 from⟨hq,hp⟩);have HQP:=zh (show q<W0.heap.size/\p<W0.heap.size from⟨hql,hpl⟩);have HB0:=zh hb0;clear hW0 hq hp hb0 hpk hqk hpl hql hxn hxd hyn hyd;have HO:=zh (rorder_any _ _ _ _ a b c d W0 H1.out H2.out H3.out H4.out h0b h0d h1 h2);obtain⟨C,hC⟩:=zx (cmpI (a*d) (c*b));rw[<-hC] at HO ⊢;clear hx1 hx2 hy1 hy2 h1 h2 hC;go_enter Tryz.func149,Tryz.ntmps149;go_wp2_with fail;rw[<-HW0.out,<-HQ.out.2,<-HQ.out.1];clear HW0 HQ;refine HO.out.mono ?_;rintro e w2 ⟨rfl,hb2⟩;have HB2:=zh (HB0.out.trans (hb2.mono HB0.out.size));clear hb2 c0 c1 c2 d0 d1 d2;go_wp2_with fail;go_ret;exact⟨rfl,HB2.out⟩
theorem rsameG_any(xn xd yn yd:Value)(a b c d:Nat)(w:World)(hxn:LS w (Bl w.heap.size) xn (natL a))(hxd:LS w (Bl w.heap.size) xd (natL b))(hyn:LS w (Bl w.heap.size) yn (natL c))(hyd:LS w (Bl w.heap.size) yd (natL d))(h0b:0<b)(h0d:0<d) :
  Calls Tryz.prog 87 #[.agg #[.bool false,xn,xd],.agg #[.bool false,yn,yd]] w fun e w'=>e=.returned (.bool (decide (cmpI (a*d) (c*b)=0)))/\Below w.heap.size w w':=by
 obtain⟨An,Nn,cn,rfl⟩:=hxn.frm;obtain⟨Ad,Nd,cd,rfl⟩:=hxd.frm;obtain⟨Bn,Mn,dn,rfl⟩:=hyn.frm;obtain⟨Bd,Md,dd,rfl⟩:=hyd.frm;obtain⟨W0,hW0⟩:=zx ((w.alloc (.cells #[.bool false,.slice An Nn cn,.slice Ad Nd cd] 26)).alloc (.cells #[.bool false,.slice Bn Mn dn,.slice Bd Md dd] 26));obtain⟨q,hq⟩:=zx w.heap.size;obtain⟨p,hp⟩:=zx (w.heap.size+1)
 have hb0:Below w.heap.size w W0:=by rw[hW0];exact((zB _ _).alloc (zR _) _).alloc (by simp) _
 have hpk:W0.heap[p]?=some (.cells #[.bool false,.slice Bn Mn dn,.slice Bd Md dd] 26 (0,0)):=by
  rw[hW0];exact heap_alloc_at _ _ _ (by rw[hp];simp)
 have hqk:W0.heap[q]?=some (.cells #[.bool false,.slice An Nn cn,.slice Ad Nd cd] 26 (0,0)):=by
  rw[hW0,hq];exact(zH _ _ _ (by simp)).trans (zN w _)
 have hpl:p<W0.heap.size:=(zA.1 hpk).1;have hql:q<W0.heap.size:=(zA.1 hqk).1;obtain⟨c0,c1,c2,-⟩:=cells3 hqk;obtain⟨d0,d1,d2,-⟩:=cells3 hpk;obtain⟨x1,hx1⟩:=zx (Value.slice An Nn cn);obtain⟨x2,hx2⟩:=zx (Value.slice Ad Nd cd);obtain⟨y1,hy1⟩:=zx (Value.slice Bn Mn dn);obtain⟨y2,hy2⟩:=zx (Value.slice Bd Md dd);have H1:=zh (hxn.below hb0);have H2:=zh (hxd.below hb0);have H3:=zh (hyn.below hb0);have H4:=zh (hyd.below hb0);have HW0:=zh hW0;have HQ:=zh (show q=w.heap.size/\p=w.heap.size+1 from⟨hq,hp⟩);have HQP:=zh (show q<W0.heap.size/\p<W0.heap.size from⟨hql,hpl⟩);have HB0:=zh hb0;clear hW0 hq hp hb0 hpk hqk hpl hql hxn hxd hyn hyd;have HO:=zh (rorderG_any _ _ _ _ a b c d W0 H1.out H2.out H3.out H4.out h0b h0d);obtain⟨C,hC⟩:=zx (cmpI (a*d) (c*b));rw[<-hC] at HO ⊢;clear hx1 hx2 hy1 hy2 hC;go_enter Tryz.func87,Tryz.ntmps87;go_wp2_with fail;rw[<-HW0.out,<-HQ.out.2,<-HQ.out.1];clear HW0 HQ;refine HO.out.mono ?_;rintro e w2 ⟨rfl,hb2⟩;have HB2:=zh (HB0.out.trans (hb2.mono HB0.out.size));clear hb2 c0 c1 c2 d0 d1 d2;go_wp2_with fail;go_ret;exact⟨ret_bool (by by_cases h:C=0 <;> simp[h]),HB2.out⟩
theorem rsame_any(xn xd yn yd:Value)(a b c d:Nat)(w:World)(hxn:LS w (Bl w.heap.size) xn (natL a))(hxd:LS w (Bl w.heap.size) xd (natL b))(hyn:LS w (Bl w.heap.size) yn (natL c))(hyd:LS w (Bl w.heap.size) yd (natL d))(h0b:0<b)(h0d:0<d)(h1:a*d<4294967296)(h2:c*b<4294967296) :
  Calls Tryz.prog 87 #[.agg #[.bool false,xn,xd],.agg #[.bool false,yn,yd]] w fun e w'=>e=.returned (.bool (decide (cmpI (a*d) (c*b)=0)))/\Below w.heap.size w w':=by
 exact rsameG_any xn xd yn yd a b c d w hxn hxd hyn hyd h0b h0d
theorem app_l{ops:Array Oper}{rest:List Oper}{o:Oper}{a:Act}{Q:Exit->Act->World->Prop}{w:World}(x0:Nat)(s x:Operand)(hgd:o.guard=none)(ho:o.op=.call { callee:=.builtin .append,args:=#[s,x],argTypes:=#[24,24] })
  (base:Nat) (v:Value) (n:Nat) (xs:List Nat) (hl:xs.length=n) (hs:a.eval s=v) (hown:w.ownsRow base 107 1 v n (xs.map u32V))
  (hx:a.eval x=.slice (some ⟨w.heap.size,0,none⟩) 1 1) (hn:n+1<=16777216) (hbase:base<=w.heap.size)
  (h:∀v' w',OwnL w' base v' (xs++[x0])->w.grownBy w' v.ownBlock->wpList Tryz.prog ops Q rest (a.put o.dst v') w') :
  wpList Tryz.prog ops Q (o :: rest) a (w.alloc (.cells #[.int .u32 (x0:Int)] 107)):=by
 obtain⟨i0,hi0,hz0,hz1,hz2⟩:=info_parts info_u32;refine wpList_append1 hgd s x _ ho base i0 _ 1 4 Tryz.underlying24 hi0 hz0 hz1 hz2 rfl (by omega) (by omega) v n _ hs hown hx rfl (by simp;rfl) hn hbase (fun v' w' h1 h2 _=>h v' w' ?_ h2);unfold OwnL;rw[zP,hl,List.map_append];exact h1
theorem LS.zero_form{w:World}{R:Nat->Prop}{v:Value}(h:LS w R v (natL 0)):∃A c,v=.slice A 0 c:=by
 obtain⟨A,c,e,-⟩:=h.form;exact⟨A,c,e⟩
theorem rplus0_any(va vb:Value)(m:Nat)(w:World)(ha:LS w (Bl w.heap.size) va (natL 0))(hb:LS w (Bl w.heap.size) vb (natL m))(hm:0<m) :
  Calls Tryz.prog 188 #[va,vb] w fun e w'=>∃u,e=.returned u/\OwnL w' w.heap.size u (natL m)/\Below w.heap.size w w':=by
 have hm32:=hb.lt32
 have lm:(natL m).length=1:=by rw[natL_pos hm];rfl
 obtain⟨A,c,rfl⟩:=ha.zero_form;obtain⟨B,d,rfl,-,-⟩:=hb.form;rw[lm] at hb ⊢;obtain⟨b2,o2,rfl,hR2,hc2⟩:=hb.one hm
 have m0:(0:Int)<=(m:Int):=by omega
 have m1:(m:Int)<4294967296:=by omega
 have hdiv:(m:Int) / 4294967296=0:=by omega
 have HM:=zh (show 0<m/\m<4294967296 from⟨hm,hm32⟩);clear hb lm ha hm hR2;go_enter Tryz.func188,Tryz.ntmps188;go_wp2_with fail;go_loopg [5,6,7,8] 1 (fun z v5 v6 v7 v8 wr=>(z=1/\v5=.slice none 0 0/\v6=.int .u64 0/\v7=.int .i64 0/\w=wr)\/(z=0/\v6=.int .u64 0/\v7=.int .i64 1/\Hid (OwnL wr w.heap.size v5 [m])/\Hid (Below w.heap.size w wr)))
 case atStart=>exact .inl ⟨rfl,rfl,rfl,rfl,rfl⟩
 case round =>
  rcases hrel with ⟨rfl,rfl,rfl,rfl,rfl⟩ | ⟨rfl,rfl,rfl,hO,hB⟩
  ·go_wp2_with (at_builtin;refine app_l m (.tmp 48) (.tmp 51) rfl rfl w.heap.size (.slice none 0 0) 0 [] rfl (by rfl) (World.ownsRow_nil _ _ _ _) (by rfl) (by omega) (zR _) ?_;intro v5 w5 hown5 hg5;have HO5:=zh hown5;have HB5:=zh (below_none hg5);clear hown5 hg5 hc2);go_wp2_with fail;go_roundg 0
   case measure=>omega
   case rel=>exact .inr ⟨rfl,rfl,rfl,HO5.out,HB5.out⟩
  ·have HT:=zh (trim_any _ [m] _ wr (hO.out.lsBl (fun x hx=>by simp at hx;subst hx;exact HM.out.2)) (fun _ h=>h) (by simp));rw[show trimL [m]=natL m from by rw[<-natL_pos HM.out.1];exact trim_natL m] at HT;go_wp2_with fail;refine HT.out.mono ?_;rintro e w6 ⟨u,rfl,ho,hb6⟩;have HO:=zh (ho.base (B':=w.heap.size) hB.out.size);have HB6:=zh (hB.out.trans (hb6.mono hB.out.size));clear ho hb6;go_wp2_with fail;go_ret;exact⟨_,rfl,HO.out,HB6.out⟩
theorem radd0_any(va vb:Value)(m:Nat)(w:World)(ha:LS w (Bl w.heap.size) va (natL 0))(hb:LS w (Bl w.heap.size) vb (natL m))(hm:0<m) :
  Calls Tryz.prog 184 #[va,vb] w fun e w'=>∃u,e=.returned (.tuple #[u,.int .i64 0])/\OwnL w' w.heap.size u (natL m)/\Below w.heap.size w w':=by
 have HM:=zh hb.lt32;have HL1:=zh (rlarge_any va _ _ w ha (fun _ h=>h) (by have:=natL_length 0;omega));have HA:=zh ha;have HB:=zh hb;have HM0:=zh hm;clear ha hb hm;go_enter Tryz.func184,Tryz.ntmps184;go_wp2_with fail;refine HL1.out.mono ?_;rintro e w1 ⟨rfl,hb1⟩;have HB1:=zh hb1;have HL2:=zh (rlarge_any vb _ _ w1 (HB.out.below hb1) (fun _ h=>h) (by have:=natL_length m;omega));clear hb1;go_wp2_with fail;refine HL2.out.mono ?_;rintro e w2 ⟨rfl,hb2⟩;have HB2:=zh (HB1.out.trans (hb2.mono HB1.out.size));have HT1:=zh (trim_any va _ _ w2 (HA.out.below HB2.out) (fun _ h=>h) (by have:=natL_length 0;omega));clear hb2;go_wp2_with fail;refine HT1.out.mono ?_;rintro e w3 ⟨u1,rfl,ho1,hb3⟩;rw[trim_natL] at ho1;have HO1:=zh ho1;have HB3:=zh (HB2.out.trans (hb3.mono HB2.out.size));have HT2:=zh (trim_any vb _ _ w3 (HB.out.below HB3.out) (fun _ h=>h) (by have:=natL_length m;omega));clear ho1 hb3;go_wp2_with fail;refine HT2.out.mono ?_;rintro e w4 ⟨u2,rfl,ho2,hb4⟩;rw[trim_natL] at ho2;have HB4:=zh (HB3.out.trans (hb4.mono HB3.out.size));have HT:=zh (rplus0_any u1 u2 m w4 ((HO1.out.below hb4).lsBl (natL_mem (by omega))) (ho2.lsBl (natL_mem HM.out)) HM0.out);clear ho2 hb4;go_wp2_with fail;refine HT.out.mono ?_;rintro e w5 ⟨u,rfl,ho,hb5⟩;have HB5:=zh (HB4.out.trans (hb5.mono HB4.out.size));have HO:=zh ho;have HL3:=zh (rlarge_any u _ _ w5 (ho.lsBl (natL_mem HM.out)) (fun _ h=>h) (by have:=natL_length m;omega));clear ho hb5;go_wp2_with fail;refine HL3.out.mono ?_;rintro e w6 ⟨rfl,hb6⟩;have HO6:=zh ((HO.out.below hb6).base (B':=w.heap.size) HB4.out.size);have HB6:=zh (HB5.out.trans (hb6.mono HB5.out.size));clear hb6;go_wp2_with fail;go_ret2;exact⟨_,rfl,HO6.out,HB6.out⟩
theorem rlargef_any(va vb:Value)(n m:Nat)(R:Nat->Prop)(w:World)(ha:LS w R va (natL n))(hb:LS w R vb (natL m)) :
  Calls Tryz.prog 189 #[.agg #[.bool false,va,vb]] w fun e w'=>e=.returned (.bool false)/\Below w.heap.size w w':=by
 obtain⟨An,Nn,cn,hN,rfl⟩:∃A L c,L<=1/\va=.slice A L c:=by obtain⟨A,c,e,-⟩:=ha.form;exact⟨A,_,c,natL_length n,e⟩
 obtain⟨Ad,Nd,cd,hM,rfl⟩:∃A L c,L<=1/\vb=.slice A L c:=by obtain⟨A,c,e,-⟩:=hb.form;exact⟨A,_,c,natL_length m,e⟩
 obtain⟨W0,hW0⟩:=zx (w.alloc (.cells #[.bool false,.slice An Nn cn,.slice Ad Nd cd] 26));obtain⟨q,hq⟩:=zx w.heap.size
 have hb0:Below w.heap.size w W0:=by rw[hW0];exact(zB _ _).alloc (zR _) _
 have hqk:W0.heap[q]?=some (.cells #[.bool false,.slice An Nn cn,.slice Ad Nd cd] 26 (0,0)):=by rw[hW0,hq];exact zN _ _
 obtain⟨c0,c1,c2,-⟩:=cells3 hqk;have HW0:=zh hW0;have HQ:=zh hq;have HB0:=zh hb0;have q1:decide ((128:Int)<(Nn:Int))=false:=decide_eq_false (by omega);have q2:decide ((128:Int)<(Nd:Int))=false:=decide_eq_false (by omega);clear ha hb hW0 hq hb0 hqk hN hM;go_enter Tryz.func189,Tryz.ntmps189;go_upto_region 1 with fail;rw[<-HW0.out,<-HQ.out];go_wp2_with fail;go_ret;exact⟨rfl,HB0.out⟩
theorem rfits_any(va vb:Value)(n m:Nat)(B:Nat)(w:World)(hB:B<=w.heap.size)(ha:LS w (Fr B w.heap.size) va (natL n))(hb:LS w (Fr B w.heap.size) vb (natL m)) :
  Calls Tryz.prog 185 #[.agg #[.bool false,va,vb]] w fun e w'=>e=.returned (.tuple #[.agg #[.bool false,va,vb],.int .i64 0])/\Below w.heap.size w w':=by
 obtain⟨An,Nn,cn,rfl⟩:=ha.frm;obtain⟨Ad,Nd,cd,rfl⟩:=hb.frm;obtain⟨W0,hW0⟩:=zx ((w.alloc (.cells #[.bool false,.slice An Nn cn,.slice Ad Nd cd] 26)).alloc (.cells #[.bool false,.slice none 0 0,.slice none 0 0] 26));obtain⟨q,hq⟩:=zx w.heap.size;obtain⟨g,hgq⟩:=zx (w.heap.size+1)
 have hb0:Below w.heap.size w W0:=by rw[hW0];exact((zB _ _).alloc (zR _) _).alloc (by simp) _
 have hbk:W0.heap[g]?=some (.cells #[.bool false,.slice none 0 0,.slice none 0 0] 26 (0,0)):=by
  rw[hW0];exact heap_alloc_at _ _ _ (by rw[hgq];simp)
 have hqk:W0.heap[q]?=some (.cells #[.bool false,.slice An Nn cn,.slice Ad Nd cd] 26 (0,0)):=by
  rw[hW0,hq];exact(zH _ _ _ (by simp)).trans (zN w _)
 have hgl:g<W0.heap.size:=(zA.1 hbk).1;have hql:q<W0.heap.size:=(zA.1 hqk).1;obtain⟨c0,c1,c2,-⟩:=cells3 hqk;have HV:=zh (rlargef_any _ _ n m _ W0 (ha.keep (fun b h=>hb0.block b h.2)) (hb.keep (fun b h=>hb0.block b h.2)));have HC:=zh (fun(w':World) (hb:Below W0.heap.size W0 w')=>(cells3 ((hb.block q hql).trans hqk):_));have HD:=zh (fun(w':World) (hb:Below W0.heap.size W0 w')=>((hb.block g hgl).trans hbk:_));have HW0:=zh hW0;have HGQ:=zh (show q=w.heap.size/\g=w.heap.size+1 from⟨hq,hgq⟩);have HB0:=zh hb0;clear ha hb hW0 hb0 hbk hgl hql hqk hgq hq;go_enter Tryz.func185,Tryz.ntmps185;go_wp2_with fail;rw[<-HW0.out,<-HGQ.out.2,<-HGQ.out.1];refine HV.out.mono ?_;rintro e w1 ⟨rfl,hb1⟩;clear c0 c1 c2;obtain⟨c0,c1,c2,-⟩:=HC.out w1 hb1;have hk:=HD.out w1 hb1;obtain⟨l0,l1,l2,f0,f1,f2⟩:=cells3 hk;have hs:=HB0.out.size;have hX:=box3' hk (HB0.out.trans (hb1.mono HB0.out.size)) (show w.heap.size<=g by rw[HGQ.out.2];omega) (.bool false) (.slice An Nn cn) (.slice Ad Nd cd);have HX:=zh hX;clear hb1 hk hs hX;go_wp2_with fail;obtain⟨Wf,hWf⟩:=zx (((w1.setCell ⟨g,0,none⟩ (.bool false)).setCell ⟨g,1,none⟩ (.slice An Nn cn)).setCell ⟨g,2,none⟩ (.slice Ad Nd cd));have hx:=HX.out;rw[<-hWf] at hx ⊢;obtain⟨hx1,hx2,-⟩:=hx;obtain⟨x0,x1,x2,-⟩:=cells3 hx1;clear hWf l0 l1 l2 c0 c1 c2;exact bodyPost_ret (v:=.tuple #[.agg #[.bool false,.slice An Nn cn,.slice Ad Nd cd],.int .i64 0]) (by simp[results,Tryz.results185,go_sem,x0,x1,x2]) rfl ⟨rfl,hx2⟩
end Go.Proofs.YtgfaieppacabjaaGreat
