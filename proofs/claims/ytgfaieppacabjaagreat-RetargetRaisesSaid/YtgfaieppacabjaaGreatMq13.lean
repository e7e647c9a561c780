/- Parts. -/
import Derived.Test.YtgfaieppacabjaaGreatMq12
set_option linter.unusedSectionVars false
set_option maxRecDepth 100000
set_option maxHeartbeats 12800000
set_option linter.unusedVariables false
set_option linter.unusedSimpArgs false
namespace Go.Proofs.YtgfaieppacabjaaGreat
open Go.RowKit
theorem fleet_any(gT:Nat)(vt:Value)(xs:List Int)(I volumes:Nat)(w:World)(R:Nat->Prop)(hT:TapeB w gT vt I)(hx:IntS w R vt xs)(hR:∀b,R b->b<w.heap.size/\b≠gT)(hI:I<=1000)(hv1:1<=volumes)(hv2:volumes<=100) :
  Calls Tryz.prog 24 #[.pointer (some ⟨gT,0,none⟩),.int .i64 (volumes:Int)] w fun e w'=>∃vl vm vd vv vp vo F I',e=.returned (.agg #[.int .i64 F.ext,vl,vm,vd,vv,vp,vo])/\FleetS w' (Fr w.heap.size w'.heap.size) vl vm vd vv vp vo F/\TapeB w' gT vt I'/\I'<=I+1000/\w.grownBy w' (some gT)/\FleetOk volumes F:=by
 have hTl:gT<w.heap.size:=(zA.1 hT).1;obtain⟨W0,hW0⟩:=zx (w.alloc (.cells #[.int .i64 0,.slice none 0 0,.slice none 0 0,.slice none 0 0,.slice none 0 0,.slice none 0 0,.slice none 0 0] 35));obtain⟨g4,hg4⟩:=zx w.heap.size
 have hF4:FltB W0 g4 0 (.slice none 0 0) (.slice none 0 0) (.slice none 0 0) (.slice none 0 0) (.slice none 0 0) (.slice none 0 0):=by rw[hW0,hg4];exact zN _ _
 have hh0:HotBy [some gT] w W0:=by rw[hW0];exact HotBy.alloc _ _ _
 have hT0:TapeB W0 gT vt I:=by
  have:W0.heap[gT]?=w.heap[gT]?:=by rw[hW0];exact zH w _ gT hTl
  exact this.trans hT
 have HNX:=zh (fun wr I hh hT hI n h1 h2=>next_hot w R gT vt xs hx hR wr hh I hT hI n h1 h2);have HH0:=zh hh0;have HT0:=zh hT0;have HF4:=zh hF4;have HW0:=zh hW0;have HG4:=zh hg4;have HI:=zh hI;have HHX:=zh hx;have HHR:=zh hR;have HV:=zh (show 1<=volumes/\volumes<=100 from⟨hv1,hv2⟩);clear hT hx hR hW0 hg4 hF4 hh0 hT0 hI hv1 hv2;go_enter Tryz.func24,Tryz.ntmps24;go_wp2_with fail;rw[<-HW0.out,<-HG4.out]
 -- region 1: the extent
 refine(HNX.out W0 I HH0.out HT0.out (by have:=HI.out;omega) 2 (by omega) (by omega)).mono ?_;rintro e w1 ⟨r0,rfl,hr0,hT1,hg1⟩;have HH1:=zh (HH0.out.trans (HotBy.grown hg1 (.inl (by simp))));have HT1:=zh hT1;have hF41:FltB w1 g4 0 (.slice none 0 0) (.slice none 0 0) (.slice none 0 0) (.slice none 0 0) (.slice none 0 0) (.slice none 0 0):=(hg1.block g4 HF4.out.lt (fun e=>by have e2:g4=gT:=Option.some.inj e;rw[HG4.out] at e2;omega)).trans HF4.out;have HF41:=zh hF41;have hw01:w.heap.size<=w1.heap.size:=HH1.out.size;have hext:IntKind.i64.wrap (1+(r0:Int))=1+(r0:Int):=zI _ (by omega);clear hT1 hg1 hF41;go_upto_region 2 with fail
 -- region 2: the law
 obtain⟨W2,hW2⟩:=zx (w1.alloc (.cells #[.int .i64 (1+(r0:Int)),.slice none 0 0,.slice none 0 0,.slice none 0 0,.slice none 0 0,.slice none 0 0,.slice none 0 0] 35));obtain⟨gF,hgF⟩:=zx w1.heap.size
 have hFl:FltB W2 gF (1+(r0:Int)) (.slice none 0 0) (.slice none 0 0) (.slice none 0 0) (.slice none 0 0) (.slice none 0 0) (.slice none 0 0):=by rw[hW2,hgF];exact zN _ _
 have hh2:HotBy [some gT] w W2:=HH1.out.trans (by rw[hW2];exact HotBy.alloc _ _ _)
 have hgF1:w.heap.size<=gF:=by rw[hgF];exact hw01
 have hgF2:gF<W2.heap.size:=hFl.lt
 have hF42:FltB W2 g4 0 (.slice none 0 0) (.slice none 0 0) (.slice none 0 0) (.slice none 0 0) (.slice none 0 0) (.slice none 0 0):=by rw[hW2];exact(zH w1 _ g4 HF41.out.lt).trans HF41.out
 have hT2:TapeB W2 gT vt (I+1):=by rw[hW2];exact(zH w1 _ gT (zM hTl hw01)).trans HT1.out
 rw[<-hW2,<-hgF]
 have hst:StF gT vt W2 gF g4 W2 (I+1) (1+(r0:Int)) (.slice none 0 0) (.slice none 0 0) (.slice none 0 0) (.slice none 0 0) (.slice none 0 0) (.slice none 0 0) :=
  ⟨hT2,hFl,hF42,HotBy.refl _ _,by omega,by have:=HG4.out;omega,by have:=HG4.out;have:=HF41.out.lt;omega,zM hTl hh2.size,hgF2⟩
 have HST:=zh hst;have HH2:=zh hh2;have HR0:=zh hr0;have HGF:=zh hgF1;clear hW2 hgF hFl hh2 hF42 hT2 hext hw01 hr0 hst hgF1 hgF2;go_wp2_with fail;refine(fracV 1 1 _ (by omega) (by omega) (by omega) ⟨false,1,1⟩ (low1 1) 1 1 rfl rfl).mono ?_;rintro e w3 ⟨v,rfl,⟨A3,L3,c3,D3,M3,d3,rfl,hn3,hd3⟩,hb3⟩;obtain⟨W4,hW4⟩:=zx (w3.alloc (.cells #[.bool false,.slice A3 L3 c3,.slice D3 M3 d3] 26));obtain⟨b3,hb3'⟩:=zx w3.heap.size;have hst3:=HST.out.below hb3;have hst4:=hst3.alloc (.cells #[.bool false,.slice A3 L3 c3,.slice D3 M3 d3] 26);rw[<-hW4] at hst4;have HST4:=zh hst4
 have HS4:=zh (show SlS 3 FrcK W4 (Fr W2.heap.size W4.heap.size) (.slice (some ⟨b3,0,none⟩) 1 1) [⟨false,1,1⟩] by
  rw[hW4,hb3'];exact slS_lit1 frcK w3 [.bool false,.slice A3 L3 c3,.slice D3 M3 d3] _ _ _ rfl ⟨_,_,rfl,hn3,hd3⟩ hst3.hot.size)
 have HW4:=zh hW4;have HB3:=zh hb3';clear hn3 hd3 hb3 hst3 hst4 hW4 hb3';go_wp2_with fail;rw[<-HW4.out,<-HB3.out];refine(fracV 0 1 _ (by omega) (by omega) (by omega) ⟨false,0,1⟩ rfl 0 1 rfl rfl).mono ?_;rintro e w5 ⟨v,rfl,⟨A5,L5,c5,D5,M5,d5,rfl,hn5,hd5⟩,hb5⟩;obtain⟨W6,hW6⟩:=zx (w5.alloc (.cells #[.bool false,.slice A5 L5 c5,.slice D5 M5 d5] 26));obtain⟨b5,hb5'⟩:=zx w5.heap.size;obtain⟨W7,hW7⟩:=zx (W6.alloc (.cells #[.slice (some ⟨b5,0,none⟩) 1 1] 53));have hst5:=HST4.out.below hb5;have h26:=hst5.hot.size
 have hs6:SlS 3 FrcK W6 (Fr W2.heap.size W6.heap.size) (.slice (some ⟨b5,0,none⟩) 1 1) [⟨false,0,1⟩]:=by
  rw[hW6,hb5'];exact slS_lit1 frcK w5 [.bool false,.slice A5 L5 c5,.slice D5 M5 d5] _ _ _ rfl ⟨_,_,rfl,hn5.fr HST4.out.hot.size,hd5.fr HST4.out.hot.size⟩ h26
 have hb6:b5+1=W6.heap.size:=by rw[hW6,hb5'];simp
 have HS7:=zh (show SlS 1 RowFK W7 (Fr W2.heap.size W7.heap.size) (.slice (some ⟨b5+1,0,none⟩) 1 1) [[⟨false,0,1⟩]] by
  rw[hW7,hb6];exact slS_lit1 rowFK W6 [.slice (some ⟨b5,0,none⟩) 1 1] _ _ _ rfl ⟨_,rfl,hs6⟩ (by have:=hst5.hot.size;omega))
 have hh57:HotBy [some gT,some gF] w5 W7:=by rw[hW7,hW6];exact(HotBy.alloc _ _ _).trans (HotBy.alloc _ _ _)
 have HS47:=zh (HST4.out.sl frcK ((HotBy.below hb5).trans hh57) (fun b x=>x) HS4.out);have hst7:=(hst5.alloc (.cells #[.bool false,.slice A5 L5 c5,.slice D5 M5 d5] 26)).alloc (.cells #[.slice (some ⟨b5,0,none⟩) 1 1] 53);rw[<-hW6,<-hW7] at hst7;have HST7:=zh hst7;have HW6:=zh hW6;have HW7:=zh hW7;have HB5:=zh hb5';clear hn5 hd5 hb5 hst5 hs6 hh57 hst7 hW6 hW7 hb5' h26 hb6;go_wp2_with fail;rw[<-HW6.out,<-HB5.out,<-HW7.out];refine(HST7.out.next_any HH2.out HGF.out HHX.out HHR.out (by have:=HI.out;omega) 100 (by omega) (by omega) 100 rfl).mono ?_;rintro e w8 ⟨r1,rfl,hr1,hst8,hh8⟩;have HS48:=zh (hst8.sl frcK (HotBy.refl [] _) (fun b x=>by cases x) (HST7.out.sl frcK hh8 (fun b x=>by simp at x ⊢;exact .inl x) HS47.out));have HS78:=zh (HST7.out.sl rowFK hh8 (fun b x=>by simp at x ⊢;exact .inl x) HS7.out);have HST8:=zh hst8;have hw1:IntKind.i64.wrap (100+(r1:Int))=100+(r1:Int):=zI _ (by omega);clear hst8 hh8;go_wp2_with fail;clear hw1;refine(fracV 1 (100+r1) _ (by omega) (by omega) (by omega) ⟨false,1,100+r1⟩ (low1 _) 1 (100+(r1:Int)) rfl (by omega)).mono ?_;rintro e w9 ⟨v,rfl,⟨A9,L9,c9,D9,M9,d9,rfl,hn9,hd9⟩,hb9⟩;have hst9:=HST8.out.below hb9
 have hgn9:gF≠w9.heap.size:=by have:=hst9.flt.lt;omega
 have hgl9:gF<w9.heap.size:=hst9.flt.lt;obtain⟨k0,k1,k2,k3,k4,k5,k6,kf⟩:=hst9.flt.cells;have kf1:=kf 1;have HST9:=zh hst9;have HN9:=zh hn9;have HD9:=zh hd9;have HB9:=zh hb9;clear hst9 kf hn9 hd9 hb9 k0 k2 k3 k4 k5 k6;go_upto_region 3 with fail;obtain⟨b9,hb9⟩:=zx w9.heap.size;obtain⟨W10,hW10⟩:=zx (w9.setCell ⟨gF,1,none⟩ (.slice (some ⟨b9+1,0,none⟩) 1 1));obtain⟨W11,hW11⟩:=zx (W10.alloc (.cells #[.bool false,.slice A9 L9 c9,.slice D9 M9 d9] 26));obtain⟨W12,hW12⟩:=zx (W11.alloc (.cells #[.string { data:=#[100,105,115,107] },.slice (some ⟨b3,0,none⟩) 1 1,.slice (some ⟨b5+1,0,none⟩) 1 1,.slice (some ⟨b9,0,none⟩) 1 1] 96));rw[<-hb9,<-hW10,<-hW11,<-hW12]
 have hz10:W10.heap.size=b9:=by rw[hW10,hb9];simp
 have hz11:W11.heap.size=b9+1:=by rw[hW11];simp[hz10]
 have hh910:HotBy [some gT,some gF] w9 W10:=by rw[hW10];exact HotBy.setCell _ _ _ _ (by simp)
 have hh1011:HotBy [some gT,some gF] W10 W11:=by rw[hW11];exact HotBy.alloc _ _ _
 have hcold:=HST9.out.cold;have hsz9:=HST9.out.hot.size;have h8:=HST8.out.hot.size
 have hs11:SlS 3 FrcK W11 (Fr W2.heap.size W11.heap.size) (.slice (some ⟨b9,0,none⟩) 1 1) [⟨false,1,100+r1⟩]:=by
  rw[hW11,<-hz10];exact slS_lit1 frcK W10 [.bool false,.slice A9 L9 c9,.slice D9 M9 d9] _ _ _ rfl ⟨_,_,rfl,((HN9.out.fr h8).hot hh910 hcold),((HD9.out.fr h8).hot hh910 hcold)⟩ (by rw[hz10,hb9];exact hsz9)
 have hh811:=(HotBy.below (hot:=[some gT,some gF]) HB9.out).trans (hh910.trans hh1011);have hs411:=HST8.out.sl frcK hh811 (fun b x=>x) HS48.out;have hs711:=HST8.out.sl rowFK hh811 (fun b x=>x) HS78.out
 have hlaw:SlS 4 LawK W12 (Fr W2.heap.size W12.heap.size) (.slice (some ⟨b9+1,0,none⟩) 1 1) [⟨{ data:=#[100,105,115,107] },[⟨false,1,1⟩],[[⟨false,0,1⟩]],[⟨false,1,100+r1⟩]⟩]:=by
  rw[hW12,<-hz11];exact slS_lit1 lawK W11 [.string { data:=#[100,105,115,107] },.slice (some ⟨b3,0,none⟩) 1 1,.slice (some ⟨b5+1,0,none⟩) 1 1,.slice (some ⟨b9,0,none⟩) 1 1] _ _ _ rfl ⟨_,_,_,rfl,hs411,hs711,hs11⟩ (by rw[hz11,hb9];omega)
 have hst12:=((HST9.out.set1 (.slice (some ⟨b9+1,0,none⟩) 1 1)).alloc (.cells #[.bool false,.slice A9 L9 c9,.slice D9 M9 d9] 26)).alloc (.cells #[.string { data:=#[100,105,115,107] },.slice (some ⟨b3,0,none⟩) 1 1,.slice (some ⟨b5+1,0,none⟩) 1 1,.slice (some ⟨b9,0,none⟩) 1 1] 96);rw[<-hW10,<-hW11,<-hW12] at hst12;obtain⟨vL,hvL⟩:=zx (Value.slice (some ⟨b9+1,0,none⟩) 1 1);rw[<-hvL] at hlaw hst12;have HLAW:=zh hlaw;have HST:=zh hst12;have HR1:=zh hr1;clear hb9 hW10 hW11 hW12 hz10 hz11 hh910 hh1011 hcold hsz9 h8 hs11 hh811 hs411 hs711 hlaw hst12 hvL HST9 HST8 HST7 HST4 HS4 HS7 HS47 HS48 HS78 HN9 HD9 HB9 HW4 HB3 HW6 HB5 HW7 k1 kf1 hgn9 hgl9 hr1
 -- region 3: the models
 go_wp2_with fail;refine(HST.out.next_any HH2.out HGF.out HHX.out HHR.out (by have:=HI.out;omega) 2 (by omega) (by omega) 2 rfl).mono ?_;rintro e w13 ⟨r2,rfl,hr2,hst,hh⟩;have HLAW:=zh (HST.out.sl lawK hh (fun b x=>by simp at x ⊢;exact .inl x) HLAW.out);have HST:=zh hst;have hw0:IntKind.i64.wrap (3+(r2:Int))=3+(r2:Int):=zI _ (by omega);have HR2:=zh hr2;clear hst hh hr2;go_wp2_with fail;clear hw0;refine(HST.out.next_any HH2.out HGF.out HHX.out HHR.out (by have:=HI.out;omega) 9 (by omega) (by omega) 9 rfl).mono ?_;rintro e w14 ⟨r3,rfl,hr3,hst,hh⟩;have HLAW:=zh (HST.out.sl lawK hh (fun b x=>by simp at x ⊢;exact .inl x) HLAW.out);have HST:=zh hst;have hw1:IntKind.i64.wrap (8+(r3:Int))=8+(r3:Int):=zI _ (by omega);have HR3:=zh hr3;clear hst hh hr3;go_wp2_with fail;clear hw1;refine(HST.out.next_any HH2.out HGF.out HHX.out HHR.out (by have:=HI.out;omega) 3 (by omega) (by omega) 3 rfl).mono ?_;rintro e w15 ⟨r4,rfl,hr4,hst,hh⟩;have HLAW:=zh (HST.out.sl lawK hh (fun b x=>by simp at x ⊢;exact .inl x) HLAW.out);have HST:=zh hst;have hw2:IntKind.i64.wrap (1+(r4:Int))=1+(r4:Int):=zI _ (by omega);have HR4:=zh hr4;clear hst hh hr4;go_wp2_with fail;clear hw2;refine(HST.out.next_any HH2.out HGF.out HHX.out HHR.out (by have:=HI.out;omega) 9 (by omega) (by omega) 9 rfl).mono ?_;rintro e w16 ⟨r5,rfl,hr5,hst,hh⟩;have HLAW:=zh (HST.out.sl lawK hh (fun b x=>by simp at x ⊢;exact .inl x) HLAW.out);have HST:=zh hst;have hw3:IntKind.i64.wrap (4+(r5:Int))=4+(r5:Int):=zI _ (by omega);have HR5:=zh hr5;clear hst hh hr5
 have hgn:gF≠w16.heap.size:=by have:=HST.out.flt.lt;omega
 have hgl:gF<w16.heap.size:=HST.out.flt.lt;obtain⟨k0,k1,k2,k3,k4,k5,k6,kf⟩:=HST.out.flt.cells;have kf2:=kf 2;clear kf k0 k1 k3 k4 k5 k6;go_upto_region 4 with fail;obtain⟨b16,hb16⟩:=zx w16.heap.size;obtain⟨W17,hW17⟩:=zx (w16.setCell ⟨gF,2,none⟩ (.slice (some ⟨b16,0,none⟩) 2 2));obtain⟨W18,hW18⟩:=zx (W17.alloc (.cells #[.string { data:=#[98,105,103] },.int .i64 (3+(r2:Int)),.int .i64 (8+(r3:Int)),.int .i64 0,.string { data:=#[111,108,100] },.int .i64 (1+(r4:Int)),.int .i64 (4+(r5:Int)),.int .i64 0] 98));rw[<-hb16,<-hW17,<-hW18]
 have hz17:W17.heap.size=b16:=by rw[hW17,hb16];simp
 have hh1617:HotBy [some gT,some gF] w16 W17:=by rw[hW17];exact HotBy.setCell _ _ _ _ (by simp)
 have hh1718:HotBy [some gT,some gF] W17 W18:=by rw[hW18];exact HotBy.alloc _ _ _
 have hmod:SlS 4 ModK W18 (Fr W2.heap.size W18.heap.size) (.slice (some ⟨b16,0,none⟩) 2 2) [⟨{ data:=#[98,105,103] },3+(r2:Int),8+(r3:Int),0⟩,⟨{ data:=#[111,108,100] },1+(r4:Int),4+(r5:Int),0⟩]:=by
  rw[hW18,<-hz17];refine slS_lit modK W17 [.string { data:=#[98,105,103] },.int .i64 (3+(r2:Int)),.int .i64 (8+(r3:Int)),.int .i64 0,.string { data:=#[111,108,100] },.int .i64 (1+(r4:Int)),.int .i64 (4+(r5:Int)),.int .i64 0] [⟨{ data:=#[98,105,103] },3+(r2:Int),8+(r3:Int),0⟩,⟨{ data:=#[111,108,100] },1+(r4:Int),4+(r5:Int),0⟩] _ _ (fun k a ha=>?_) ?_ (by rw[hz17,hb16];exact HST.out.hot.size);rotate_left
  ·show 2<=maxLen;unfold maxLen;decide
  match k,ha with
  | 0,ha=>simp at ha;subst ha;exact⟨_,rfl,fun i u hu=>pick_l [.string { data:=#[98,105,103] },.int .i64 (3+(r2:Int)),.int .i64 (8+(r3:Int)),.int .i64 0] [.string { data:=#[111,108,100] },.int .i64 (1+(r4:Int)),.int .i64 (4+(r5:Int)),.int .i64 0] i u hu,rfl⟩
  | 1,ha=>simp at ha;subst ha;exact⟨_,rfl,fun i u hu=>pick_r [.string { data:=#[98,105,103] },.int .i64 (3+(r2:Int)),.int .i64 (8+(r3:Int)),.int .i64 0] [.string { data:=#[111,108,100] },.int .i64 (1+(r4:Int)),.int .i64 (4+(r5:Int)),.int .i64 0] i u hu,rfl⟩
 have hst18:=(HST.out.set2 (.slice (some ⟨b16,0,none⟩) 2 2)).alloc (.cells #[.string { data:=#[98,105,103] },.int .i64 (3+(r2:Int)),.int .i64 (8+(r3:Int)),.int .i64 0,.string { data:=#[111,108,100] },.int .i64 (1+(r4:Int)),.int .i64 (4+(r5:Int)),.int .i64 0] 98);rw[<-hW17,<-hW18] at hst18;have hlaw18:=HST.out.sl lawK (hh1617.trans hh1718) (fun b x=>x) HLAW.out;obtain⟨vM,hvM⟩:=zx (Value.slice (some ⟨b16,0,none⟩) 2 2);rw[<-hvM] at hmod hst18;have HLAW:=zh hlaw18;have HMOD:=zh hmod;have HST:=zh hst18;clear hb16 hW17 hW18 hz17 hh1617 hh1718 hmod hst18 hlaw18 hvM k2 kf2 hgn hgl hw3
 -- region 4: the root
 go_wp2_with fail;refine(fracV 0 1 _ (by omega) (by omega) (by omega) ⟨false,0,1⟩ rfl 0 1 rfl rfl).mono ?_;rintro e w19 ⟨v,rfl,⟨An,Ln,cn,Ad,Ld,cd,rfl,hn19,hd19⟩,hb19⟩;have hst19:=HST.out.below hb19
 have hgn:gF≠w19.heap.size:=by have:=hst19.flt.lt;omega
 have hgl:gF<w19.heap.size:=hst19.flt.lt;obtain⟨k0,k1,k2,k3,k4,k5,k6,kf⟩:=hst19.flt.cells;have kf3:=kf 3;have HN19:=zh hn19;have HD19:=zh hd19;have HB19:=zh hb19;have HST19:=zh hst19;clear kf k0 k1 k2 k4 k5 k6 hn19 hd19 hb19 hst19;go_upto_region 5 with fail;obtain⟨b19,hb19⟩:=zx w19.heap.size;obtain⟨W20,hW20⟩:=zx (w19.setCell ⟨gF,3,none⟩ (.slice (some ⟨b19,0,none⟩) 1 1));obtain⟨W21,hW21⟩:=zx (W20.alloc (.cells #[.string { data:=#[] },.int .i64 0,.int .i64 (-1),.int .i64 0,.bool false,.slice An Ln cn,.slice Ad Ld cd] 100));rw[<-hb19,<-hW20,<-hW21]
 have hz20:W20.heap.size=b19:=by rw[hW20,hb19];simp
 have hz21:W21.heap.size=b19+1:=by rw[hW21];simp[hz20]
 have hst21:=(HST19.out.set3 (.slice (some ⟨b19,0,none⟩) 1 1)).alloc (.cells #[.string { data:=#[] },.int .i64 0,.int .i64 (-1),.int .i64 0,.bool false,.slice An Ln cn,.slice Ad Ld cd] 100);rw[<-hW20,<-hW21] at hst21
 have hh1821:HotBy [some gT,some gF] W18 W21:=by
  rw[hW21,hW20];exact((HotBy.below HB19.out).trans (HotBy.setCell _ _ _ _ (by simp))).trans (HotBy.alloc _ _ _)
 have h1819:W18.heap.size<=b19:=by rw[hb19];exact HB19.out.size
 have hF18:gF<W18.heap.size:=HST.out.flt.lt;have S:StatA w R gT vt xs W18 gF:=⟨HHX.out,HHR.out,HST.out.w0 HH2.out HGF.out,hTl,HGF.out,hF18⟩
 have hkn:Kept (Fr W18.heap.size b19) w19 W21:=fun b hb=>by
  rw[hW21,hW20];have h1:=hb.1;have h2:=hb.2;rw[zH _ _ b (by simp;omega)];exact Below.heap_setCell w19 ⟨gF,3,none⟩ _ b (fun e=>by have e2:b=gF:=e;omega)
 have hown:W21.ownsRow W18.heap.size 100 7 (.slice (some ⟨b19,0,none⟩) 1 1) 1 [.string { data:=#[] },.int .i64 0,.int .i64 (-1),.int .i64 0,.bool false,.slice An Ln cn,.slice Ad Ld cd]:=by
  rw[hW21,<-hz20];exact World.ownsRow_lit W20 #[.string { data:=#[] },.int .i64 0,.int .i64 (-1),.int .i64 0,.bool false,.slice An Ln cn,.slice Ad Ld cd] 1 (by rw[hz20];exact h1819) (by unfold maxLen;simp) rfl
 have hinv:InvA gT vt W18 gF (1+(r0:Int)) vL vM W21 (I+1+1+1+1+1+1) (.slice (some ⟨b19,0,none⟩) 1 1) (.slice none 0 0) [⟨{ data:=#[] },0,-1,0,⟨false,0,1⟩⟩] []:=by
  refine⟨hst21.tape,hh1821,hst21.flt,⟨_,hown,fun k a ha=>?_⟩,World.ownsRow_nil _ _ _ _,.inr (by intro e;cases e)⟩
  match k,ha with
  | 0,ha =>
   simp at ha;subst ha;refine⟨_,rfl,fun i u hu=>by rw[Nat.zero_mul,Nat.zero_add];exact hu,⟨_,_,rfl,?_,?_⟩⟩
   ·exact((HN19.out.mono (R':=Fr W18.heap.size b19) (fun b hb=>⟨hb.1,by rw[hb19];exact hb.2⟩)).keep hkn).mono (fun b hb=>⟨hb.1,by rw[hz21];have:=hb.2;omega,fun e=>by simp[Value.ownBlock] at e;have:=hb.2;omega⟩)
   ·exact((HD19.out.mono (R':=Fr W18.heap.size b19) (fun b hb=>⟨hb.1,by rw[hb19];exact hb.2⟩)).keep hkn).mono (fun b hb=>⟨hb.1,by rw[hz21];have:=hb.2;omega,fun e=>by simp[Value.ownBlock] at e;have:=hb.2;omega⟩)
 have HINV:=zh hinv;have HSA:=zh S;have HST18:=zh HST.out;obtain⟨vD,hvD⟩:=zx (Value.slice (some ⟨b19,0,none⟩) 1 1);rw[<-hvD] at HINV;clear hb19 hW20 hW21 hz20 hz21 hst21 hh1821 h1819 hF18 S hkn hown hinv hvD HST19 HST HN19 HD19 HB19 k3 kf3 hgn hgl
 -- region 5
 go_wp2_with fail;refine(InvA.next_any HSA.out HINV.out (by have:=HI.out;omega) 3 (by omega) (by omega)).mono ?_;rintro e w22 ⟨r6,rfl,hr6,hinv⟩;have HINV:=zh hinv;have hw6:IntKind.i64.wrap (3+(r6:Int))=3+(r6:Int):=zI _ (by omega);clear hinv;go_wp2_with fail;clear hw6;obtain⟨M,hM⟩:∃M:Nat,M=3+r6:=⟨_,rfl⟩
 have hM2:(3+(r6:Int))=(M:Int):=by omega
 rw[hM2]
 have hM5:M<=5:=by omega
 have HM:=zh hM;clear hM hM2 hr6;go_loopg [7,8,9,10] M (fun z v7 v8 v9 v10 wr=>∃(i s ro ra J:Nat) (vd vv:Value) (ds:List DomM) (vs:List DveM),i<=M/\z=M-i/\v10=.int .i64 (i:Int)/\v7=.int .i64 (s:Int)/\v8=.int .i64 (ro:Int)/\v9=.int .i64 (ra:Int)/\Hid (InvA gT vt W18 gF (1+(r0:Int)) vL vM wr J vd vv ds vs)/\J<=I+10+20*i/\Hid (DomOk ds)/\Hid (DveOk vs ds)/\ds.length<=1+4*i/\vs.length<=9/\Hid (1<=i->LevAt ds s 1/\LevAt ds ro 2/\LevAt ds ra 3)/\(1<=i->1<=vs.length))
 case atStart=>exact⟨0,0,0,0,_,_,_,_,_,by omega,rfl,rfl,rfl,rfl,rfl,HINV.out,by omega,DomOk.start,DveOk.nil _,by simp,by simp,fun h=>by omega,fun h=>by omega⟩
 case round =>
  obtain⟨i,s,ro,ra,J,vd,vv,ds,vs,hi,rfl,rfl,rfl,rfl,rfl,HINV,hJ,HDO,HVO,hdl,hvl,HLV,hv1⟩:=hrel;by_cases hlt:i<M
  ·-- A1{
   have hb4:∀b,some b∈[some gT]->some b∈[some gT,some gF]:=fun b x=>by simp at x ⊢;exact .inl x
   go_upto_region 10 with fail;go_cut [71] from 65 to 71 (fun v71 wc=>∃(b:Bool) (J2:Nat),v71=.bool b/\(b=false->1<=i)/\J2<=J+1/\Hid (InvA gT vt W18 gF (1+(r0:Int)) vL vM wc J2 vd vv ds vs))
   case first =>
    by_cases h0:i=0
    ·have q0:((i:Int)==0)=true:=by simpa using h0
     go_wp2_with fail;go_meet
     case rel=>exact⟨true,J,rfl,(fun h=>by cases h),Nat.le_succ J,HINV⟩
    ·have q0:((i:Int)==0)=false:=by simpa using h0
     have hJ9:J<=1000000000:=by have:=HI.out;omega
     have h1i:1<=i:=by omega
     go_wp2_with fail;refine(InvA.next_any HSA.out HINV.out hJ9 4 (by omega) (by omega)).mono ?_;rintro e w23 ⟨r7,rfl,hr7,hinv⟩;have HINV2:=zh hinv;obtain⟨b7,hb7⟩:=zx (((r7:Int)==0));clear hinv;go_wp2_with fail;go_meet
     case rel=>exact⟨_,J+1,rfl,(fun _=>h1i),zR _,HINV2.out⟩
   case rest =>
    obtain⟨b,J2,rfl,hbi,hJ2,HINV2⟩:=hcut;clear HINV hb4
    go_upto_if 71 with fail
    go_cut [7,8,9] from 72 to 93 (fun v7 v8 v9 wc=>∃(s ro ra J3:Nat) (vd:Value) (ds:List DomM),v7=.int .i64 (s:Int)/\v8=.int .i64 (ro:Int)/\v9=.int .i64 (ra:Int)/\Hid (InvA gT vt W18 gF (1+(r0:Int)) vL vM wc J3 vd vv ds vs)/\J3<=J2+3/\Hid (DomOk ds)/\Hid (DveOk vs ds)/\ds.length<=1+4*i+3/\Hid (LevAt ds s 1/\LevAt ds ro 2/\LevAt ds ra 3))
    case first =>
     cases b with
     | true =>
      have HV0:=HINV2;have HDL0:=zh hdl;have HI5:=zh (show 4*i<=20 by omega);have HDL:=zh (show ds.length<=21 by omega);clear hdl;go_wp2_with fail;refine(InvA.next_any HSA.out HV0.out (by have:=HI.out;omega) 17 (by omega) (by omega)).mono ?_;rintro e w24 ⟨r8,rfl,hr8,hinv⟩;have HV0:=zh hinv;have hwr8:IntKind.i64.wrap (16+(r8:Int))=16+(r8:Int):=zI _ (by omega);clear hinv;go_wp2_with fail;clear hwr8;refine(InvA.domain_any HSA.out HV0.out (by have:=HDL.out;omega) 1 0 (16+(r8:Int))).mono ?_;rintro e w25 ⟨rfl,vd1,hinv⟩;have HV0:=zh hinv;have HDO:=zh (show DomOk (ds++[domM ds.length 1 0 (16+(r8:Int))]) from HDO.out.push (level:=1) (p:=0) (uplink:=16+(r8:Int)) (by omega) (by omega) HDO.out.root0 (by omega) (by omega));have HVO:=zh (HVO.out.more (domM ds.length 1 0 (16+(r8:Int))));have hlds1:=LevAt.last ds 1 0 (16+(r8:Int));obtain⟨ds1,hds1⟩:=zx (ds++[domM ds.length 1 0 (16+(r8:Int))]);have HLENds1:=zh (show ds1.length=ds.length+1 by rw[hds1];simp);rw[<-hds1] at HV0 HDO HVO hlds1;have HDL:=zh (show ds1.length<=22 by have:=HDL.out;have:=HLENds1.out;omega);have Hds1:=zh hds1;clear hds1;clear hinv;go_wp2_with fail;refine(InvA.next_any HSA.out HV0.out (by have:=HI.out;omega) 17 (by omega) (by omega)).mono ?_;rintro e w26 ⟨r9,rfl,hr9,hinv⟩;have HV0:=zh hinv;have hwr9:IntKind.i64.wrap (16+(r9:Int))=16+(r9:Int):=zI _ (by omega);clear hinv;go_wp2_with fail;clear hwr9;refine(InvA.domain_any HSA.out HV0.out (by have:=HDL.out;omega) 2 (ds.length:Int) (16+(r9:Int))).mono ?_;rintro e w27 ⟨rfl,vd2,hinv⟩;have HV0:=zh hinv;have HDO:=zh (show DomOk (ds1++[domM ds1.length 2 (ds.length:Int) (16+(r9:Int))]) from HDO.out.push (level:=2) (p:=ds.length) (uplink:=16+(r9:Int)) (by omega) (by omega) hlds1 (by omega) (by omega));have HVO:=zh (HVO.out.more (domM ds1.length 2 (ds.length:Int) (16+(r9:Int))));have hlds2:=LevAt.last ds1 2 (ds.length:Int) (16+(r9:Int));obtain⟨ds2,hds2⟩:=zx (ds1++[domM ds1.length 2 (ds.length:Int) (16+(r9:Int))]);have HLENds2:=zh (show ds2.length=ds1.length+1 by rw[hds2];simp);rw[<-hds2] at HV0 HDO HVO hlds2;have HDL:=zh (show ds2.length<=23 by have:=HDL.out;have:=HLENds2.out;omega);have Hds2:=zh hds2;clear hds2;clear hinv;go_wp2_with fail;refine(InvA.next_any HSA.out HV0.out (by have:=HI.out;omega) 9 (by omega) (by omega)).mono ?_;rintro e w28 ⟨r10,rfl,hr10,hinv⟩;have HV0:=zh hinv;have hwr10:IntKind.i64.wrap (8+(r10:Int))=8+(r10:Int):=zI _ (by omega);clear hinv;go_wp2_with fail;clear hwr10;refine(InvA.domain_any HSA.out HV0.out (by have:=HDL.out;omega) 3 (ds1.length:Int) (8+(r10:Int))).mono ?_;rintro e w29 ⟨rfl,vd3,hinv⟩;have HV0:=zh hinv;have HDO:=zh (show DomOk (ds2++[domM ds2.length 3 (ds1.length:Int) (8+(r10:Int))]) from HDO.out.push (level:=3) (p:=ds1.length) (uplink:=8+(r10:Int)) (by omega) (by omega) hlds2 (by omega) (by omega));have HVO:=zh (HVO.out.more (domM ds2.length 3 (ds1.length:Int) (8+(r10:Int))));have hlds3:=LevAt.last ds2 3 (ds1.length:Int) (8+(r10:Int));obtain⟨ds3,hds3⟩:=zx (ds2++[domM ds2.length 3 (ds1.length:Int) (8+(r10:Int))]);have HLENds3:=zh (show ds3.length=ds2.length+1 by rw[hds3];simp);rw[<-hds3] at HV0 HDO HVO hlds3;have HDL:=zh (show ds3.length<=24 by have:=HDL.out;have:=HLENds3.out;omega);have Hds3:=zh hds3;clear hds3;clear hinv;go_wp2_with fail;go_meet
      case rel=>exact⟨ds.length,ds1.length,ds2.length,_,vd3,ds3,rfl,rfl,rfl,HV0,zR _,HDO,HVO,by have:=HDL0.out;have:=HLENds1.out;have:=HLENds2.out;have:=HLENds3.out;omega,⟨by rw[Hds3.out];exact LevAt.more (by rw[Hds2.out];exact hlds1.more _) _,by rw[Hds3.out];exact hlds2.more _,hlds3⟩⟩
     | false =>
      have HV0:=HINV2;have hlv:=HLV.out (hbi rfl);have HLEV:=zh hlv;have HDL:=zh (show ds.length<=21 by omega);have HDL0:=zh hdl;clear hlv hdl hbi;go_wp2_with fail;refine(InvA.next_any HSA.out HV0.out (by have:=HI.out;omega) 2 (by omega) (by omega)).mono ?_;rintro e w24 ⟨r8,rfl,hr8,hinv⟩;have HV0:=zh hinv;clear hinv;by_cases h8:r8=0
      ·have q8:((r8:Int)==0)=true:=by simpa using h8
       clear h8;go_wp2_with fail;refine(InvA.next_any HSA.out HV0.out (by have:=HI.out;omega) 9 (by omega) (by omega)).mono ?_;rintro e w26 ⟨r9,rfl,hr9,hinv⟩;have HV0:=zh hinv;have hw9:IntKind.i64.wrap (8+(r9:Int))=8+(r9:Int):=zI _ (by omega);clear hinv;go_wp2_with fail;clear hw9;refine(InvA.domain_any HSA.out HV0.out (by have:=HDL.out;omega) 3 (ro:Int) (8+(r9:Int))).mono ?_;rintro e w27 ⟨rfl,vd1,hinv⟩;have HV0:=zh hinv;have HDO:=zh (HDO.out.push (level:=3) (p:=ro) (uplink:=8+(r9:Int)) (by omega) (by omega) HLEV.out.2.1 (by omega) (by omega));have HVO:=zh (HVO.out.more (domM ds.length 3 (ro:Int) (8+(r9:Int))));clear hinv;go_wp2_with fail;go_meet
       case rel=>exact⟨s,ro,ds.length,_,vd1,_,rfl,rfl,rfl,HV0,by omega,HDO,HVO,by have:=HDL0.out;rw[zP];simp;omega,⟨HLEV.out.1.more _,HLEV.out.2.1.more _,LevAt.last _ _ _ _⟩⟩
      ·have q8:((r8:Int)==0)=false:=by simpa using h8
       clear h8;go_wp2_with fail;go_meet
       case rel=>exact⟨s,ro,ra,_,vd,ds,rfl,rfl,rfl,HV0,by omega,HDO,HVO,by have:=HDL0.out;omega,HLEV⟩
    case rest =>
     obtain⟨s2,ro2,ra2,J3,vd2,ds2,rfl,rfl,rfl,HV0,hJ3,HDO2,HVO2,hdl2,HLV2⟩:=hcut;clear HINV2 HDO HVO HLV;have HDL:=zh (show ds2.length<=24 by omega);go_wp2_with fail;refine(InvA.next_any HSA.out HV0.out (by have:=HI.out;omega) 9 (by omega) (by omega)).mono ?_;rintro e w30 ⟨r11,rfl,hr11,hinv⟩;have HV0:=zh hinv;have hw11:IntKind.i64.wrap (8+(r11:Int))=8+(r11:Int):=zI _ (by omega);clear hinv;go_wp2_with fail;clear hw11;refine(InvA.domain_any HSA.out HV0.out (by have:=HDL.out;omega) 4 (ra2:Int) (8+(r11:Int))).mono ?_;rintro e w31 ⟨rfl,vd4,hinv⟩;have HV0:=zh hinv;have HDO:=zh (HDO2.out.push (level:=4) (p:=ra2) (uplink:=8+(r11:Int)) (by omega) (by omega) HLV2.out.2.2 (by omega) (by omega));have HVO:=zh (HVO2.out.more (domM ds2.length 4 (ra2:Int) (8+(r11:Int))));have HLV:=zh (show LevAt (ds2++[domM ds2.length 4 (ra2:Int) (8+(r11:Int))]) s2 1/\LevAt (ds2++[domM ds2.length 4 (ra2:Int) (8+(r11:Int))]) ro2 2/\LevAt (ds2++[domM ds2.length 4 (ra2:Int) (8+(r11:Int))]) ra2 3 from⟨HLV2.out.1.more _,HLV2.out.2.1.more _,HLV2.out.2.2.more _⟩);have HL4:=zh (LevAt.last ds2 4 (ra2:Int) (8+(r11:Int)));obtain⟨ds3,hds3⟩:=zx (ds2++[domM ds2.length 4 (ra2:Int) (8+(r11:Int))]);have HDL3:=zh (show ds3.length<=1+4*(i+1) by rw[hds3,zP];simp;omega);rw[<-hds3] at HV0 HDO HVO HLV HL4;clear hds3 hinv hdl2 hdl HDO2 HVO2 HLV2;obtain⟨m4,hm4⟩:=zx ds2.length;rw[<-hm4] at HL4 ⊢;clear hm4 HDL;go_wp2_with fail;refine(InvA.next_any HSA.out HV0.out (by have:=HI.out;omega) 2 (by omega) (by omega)).mono ?_;rintro e w32 ⟨r12,rfl,hr12,hinv⟩;have HV0:=zh hinv;have hw12:IntKind.i64.wrap (1+(r12:Int))=1+(r12:Int):=zI _ (by omega);clear hinv;go_wp2_with fail;clear hw12;obtain⟨K0,hK0⟩:∃K0:Nat,K0=1+r12:=⟨_,rfl⟩
     have hK1:1+(r12:Int)=(K0:Int):=by omega
     have hK2:K0<=2:=by omega
     have hK3:1<=K0:=by omega
     have HJ4:=zh (show J3+1+1+K0<=I+10+20*i+10 by omega);rw[hK1];clear hK0 hK1 hr12 hr11 hJ3 hJ2;go_loopg [12] K0 (fun z v12 wr=>∃(k J:Nat) (vv:Value) (vs:List DveM),v12=.int .i64 (k:Int)/\z=0+k/\k<=K0/\Hid (InvA gT vt W18 gF (1+(r0:Int)) vL vM wr J vd4 vv ds3 vs)/\J+k<=J3+1+1+K0/\Hid (DveOk vs ds3)/\vs.length<=9/\(k<K0->1<=vs.length))
     case atStart=>exact⟨K0,_,vv,vs,rfl,by omega,zR _,HV0.out,zR _,HVO.out,hvl,fun h=>by omega⟩
     case round =>
      clear HV0 HVO hvl hv1;obtain⟨k,J5,vv5,vs5,rfl,rfl,hk,HV0,hJ5,HVO,hvl,hv1⟩:=hrel;have hflt:=HV0.out.flt;have hdv:=HV0.out.dve;obtain⟨A5v,c5v,rfl⟩:=own_form hdv;obtain⟨k0,k1,k2,k3,k4,k5,k6,kf⟩:=hflt.cells;have kf4:=kf 4;have hgFl:=hflt.lt;obtain⟨N5,hN5⟩:=zx vs5.length;rw[<-hN5] at k4 hvl hv1 HV0 hflt hdv;have HN5:=zh hN5;have HFL:=zh hflt;have HDV:=zh hdv;clear hflt hdv k0 k1 k2 k3 k5 k6 kf hN5;by_cases hgo:0<k/\N5<9
      ·obtain⟨hk0,hN9⟩:=hgo
       have q1:(0:Int)<(k:Int):=by omega
       have q2:(N5:Int)<9:=by omega
       go_wp2_with fail;refine(InvA.next_any HSA.out HV0.out (by have:=HI.out;have:=HJ4.out;omega) 4 (by omega) (by omega)).mono ?_;rintro e w33 ⟨r13,rfl,hr13,hinv⟩;have HV1:=zh hinv;obtain⟨l0,l1,l2,l3,l4,l5,l6,lf⟩:=hinv.flt.cells;have lf4:=lf 4;have hgl3:=hinv.flt.lt;have HFL:=zh hinv.flt;have hdv3:=hinv.dve;rw[<-HN5.out] at hdv3;have HDV:=zh hdv3
       have hne3:(∀b,(Value.slice A5v N5 c5v).ownBlock=some b->gF≠b):=fun b e=>by
        have h1:=(hdv3.lt b e).1;have h2:=HSA.out.gF2;omega
       have HNE:=zh hne3;have hbs3:W18.heap.size<=w33.heap.size:=hinv.hot.size;clear hinv k4 kf4 l0 l1 l2 l3 l5 l6 lf hdv3 hne3
       go_upto_if 114 with fail
       go_cut [13] from 115 to 114 (fun v13 wc=>∃x:Int,v13=.int .i64 x/\(x=0\/x=1)/\wc=w33)
       case first =>
        by_cases h13:r13=0
        ·have q13:((r13:Int)==0)=true:=by simpa using h13
         go_wp2_with fail;go_meet
         case rel=>exact⟨1,rfl,.inr rfl,rfl⟩
        ·have q13:((r13:Int)==0)=false:=by simpa using h13
         go_wp2_with fail;go_meet
         case rel=>exact⟨0,rfl,.inl rfl,rfl⟩
       case rest =>
        obtain⟨x,rfl,hx,rfl⟩:=hcut;obtain⟨i0,hi0,hz0,hz1,hz2⟩:=info_parts info_dve;have n100:((100:UInt8).toNat:Int)=100:=rfl
        have hnm:=fun w=>name_any 100 N5 w (by omega)
        rw[n100] at hnm;obtain⟨X,hX⟩:∃X:ByteArray,X=⟨(nameL 100 N5).toArray⟩:=⟨_,rfl⟩;rw[<-hX] at hnm;have HNM:=zh hnm;have HX:=zh hX;have HN9:=zh hN9;clear n100 hnm hX hN9 q1 q2 hvl hv1;go_upto_region 23 with fail
        go_region_law (first
         | (refine step_append_lies _ (by rfl) _ _ _ (by rfl) W18.heap.size 102 i0 _ 3 32 Tryz.underlying31 hi0 hz0 hz1 hz2 rfl (by decide) (.slice A5v N5 c5v) N5 (vs5.flatMap dveC) (by rfl) (World.ownsRow.alloc ho3 _) ⟨w3.heap.size,0,none⟩ 1 1 [.string X,.int .i64 x,.int .i64 (m4:Int)] (by rfl) (by rfl) (World.news_of_block (cs:=#[.string X,.int .i64 x,.int .i64 (m4:Int)]) (t:=102) (fr:=(0,0)) (zN w3 _)) (by simp[Value.oneCell']) (by omega) (by have:=HN9.out;unfold maxLen;omega) (by have:=HN9.out;omega) (by simp;omega) (w3.heap.size+1) (by simp) ?_;intro gg cap w5 hown5 hg5 hat5 hlt5;have hF5:=hF3.grown5 hg5 hne5;have k45:=hF5.cells.2.2.2.2.1;have f45:=hF5.cells.2.2.2.2.2.2.2 4)
         | (go_simp;go_at_call 63;refine(HNM.out _).mono ?_;rintro e w3 ⟨rfl,hb3⟩;have hb33:=below_drewL hb3;have ho3:=own_below HDV.out hb33;have hs3:=hb33.size;have hF3:=HFL.out.below hb33;have k43:=hF3.cells.2.2.2.2.1;have hF4:=hF3.below ((zB w3.heap.size w3).alloc (zR _) (.cells #[.string X,.int .i64 x,.int .i64 (m4:Int)] 102));have k44:=hF4.cells.2.2.2.2.1;have hgn3:gF≠w3.heap.size:=(by have:=zM hgl3 hs3;omega);have hgn4:w3.heap.size≠gF:=(fun e=>hgn3 e.symm);have hne5:some gF≠(Value.slice A5v N5 c5v).ownBlock:=(fun e=>HNE.out gF e.symm rfl)))
        all_goals
         have hggB:=(hown5.lt gg rfl).1;have hgF18:=HSA.out.gF2
         have hgg2:gg≠gF:=by omega
         have hne6:(Value.slice (some ⟨gg,0,none⟩) (N5+1) cap).ownBlock≠some gF:=fun e=>hgg2 (Option.some.inj e)
         have hh:HotBy [some gF,(Value.slice A5v N5 c5v).ownBlock] wc (w5.setCell ⟨gF,4,none⟩ (.slice (some ⟨gg,0,none⟩) (N5+1) cap)):=((HotBy.below hb33).trans (HotBy.alloc _ _ _)).trans ((HotBy.grown hg5 (.inl (by simp))).trans (HotBy.setCell _ _ _ _ (by simp)));have ho6:=hown5.kept (only_set1 w5 gF 4 (.slice (some ⟨gg,0,none⟩) (N5+1) cap)) (.inr hne6)
         have hnv:=InvA.drive (x:=dveM vs5.length x (m4:Int)) HSA.out HV1.out hh (heap_setCell_same w5 gF 4 _ _ _ hF5) (by rw[<-HN5.out,show dveC (dveM N5 x (m4:Int))=[.string X,.int .i64 x,.int .i64 (m4:Int)] by unfold dveC dveM;rw[<-HX.out]];exact ho6) (by
          rcases hat5 with h | h
          ·exact .inl h.symm
          ·exact .inr ⟨gg,rfl,by omega⟩)
         have HNV:=zh hnv;have HVN:=zh (HVO.out.push hx HL4.out);have HJ6:=zh hJ5;have HK0:=zh hk0;have HKK:=zh hk
         have hsub:IntKind.i64.wrap ((k:Int)-1)=((k-1:Nat):Int):=by rw[show(k:Int)-1=((k-1:Nat):Int) by omega];exact zI _ (by omega)
         clear hown5 hg5 hat5 hlt5 hF5 k45 f45 k43 k44 hF3 hF4 ho3 hb33 hb3 hh ho6 hnv hne5 hne6 l4 lf4 hJ5 hk hk0;go_wp2_with fail;go_roundg (0+(k-1))
         case measure=>have:=HK0.out;omega
         case rel=>exact⟨k-1,J5+1,_,_,rfl,rfl,by have:=HKK.out;omega,HNV,by have:=HJ6.out;have:=HK0.out;omega,HVN,by rw[zP,<-HN5.out];have:=HN9.out;simp;omega,fun _=>by rw[zP];simp⟩
      ·have hend:k=0\/N5=9:=by omega
       have hvs1:1<=N5:=by omega
       have HVS:=zh hvs1;have HVL:=zh hvl;have HJ5:=zh hJ5;have HIM:=zh hlt;by_cases hk0:k=0
       ·have q1:¬(0:Int)<(k:Int):=by omega
        clear hgo hend hvs1 hvl hJ5 hv1 hk hK2 hK3 hk0;go_wp2_with fail;go_roundg (M-(i+1))
        case measure=>have:=HIM.out;omega
        case rel=>exact⟨i+1,s2,ro2,ra2,J5,vd4,_,ds3,vs5,HIM.out,rfl,by go_num,rfl,rfl,rfl,HV0,by have:=HJ5.out;have:=HJ4.out;omega,HDO,HVO,HDL3.out,by rw[<-HN5.out];exact HVL.out,fun _=>HLV.out,fun _=>by rw[<-HN5.out];exact HVS.out⟩
       ·have q1:(0:Int)<(k:Int):=by omega
        have q2:¬(N5:Int)<9:=by omega
        clear hgo hend hvs1 hvl hJ5 hv1 hk hK2 hK3 hk0;go_wp2_with fail;go_roundg (M-(i+1))
        case measure=>have:=HIM.out;omega
        case rel=>exact⟨i+1,s2,ro2,ra2,J5,vd4,_,ds3,vs5,HIM.out,rfl,by go_num,rfl,rfl,rfl,HV0,by have:=HJ5.out;have:=HJ4.out;omega,HDO,HVO,HDL3.out,by rw[<-HN5.out];exact HVL.out,fun _=>HLV.out,fun _=>by rw[<-HN5.out];exact HVS.out⟩
  ·-- P0{
   have hM3:3<=M:=by have:=HM.out;omega
   have hvl1:1<=vs.length:=hv1 (by omega);obtain⟨WB,rfl⟩:=zx (wr:World);have hTB:gT<WB.heap.size:=HINV.out.tape.lt;have hFB:gF<WB.heap.size:=HINV.out.flt.lt
   have hne:gF≠gT:=by have:=HSA.out.gF1;have:=HSA.out.gT;omega
   have HDOM:=zh (HINV.out.dom.slS domK (R':=Fr W18.heap.size WB.heap.size) (fun b hb=>⟨hb.1,hb.2.1⟩) (fun b hb=>HINV.out.dom.lt b hb));have HDVE:=zh (slS_of_own3 (R:=Fr W18.heap.size WB.heap.size) HINV.out.dve (fun b hb=>HINV.out.dve.lt b hb));have HB:=zh (show InvB gT vt WB gF (1+(r0:Int)) vL vM vd vv WB J (.slice none 0 0) [] from⟨HINV.out.tape,HotBy.refl _ _,HINV.out.flt,OwnK.nil _ _ _ _ _ _⟩);have HHB:=zh HINV.out.hot;have HVL1:=zh (show 1<=vs.length/\vs.length<=9 from⟨hvl1,hvl⟩);have HDL:=zh (show ds.length<=21 by omega);have HJB:=zh (show J<=I+110 by omega);have HNE:=zh (show gT<WB.heap.size/\gF<WB.heap.size/\gF≠gT from⟨hTB,hFB,hne⟩)
   have hlt':¬(i:Int)<(M:Int):=by omega
   clear hM3 hvl1 hTB hFB hne HINV hJ hdl hvl HLV hv1 hlt hM5;go_wp2_with fail;clear hlt';refine(InP.next_any HSA.out HHB.out (InP.start HB.out.tape) (by have:=HI.out;have:=HJB.out;omega) 2 (by omega) (by omega) 2 rfl).mono ?_;rintro e wB1 ⟨r20,rfl,hr20,hip,hh⟩;have HB:=zh (HB.out.inP HNE.out.1 HNE.out.2.1 HNE.out.2.2 hip);have hwn:IntKind.i64.wrap (1+(r20:Int))=1+(r20:Int):=zI _ (by omega);clear hip hh;go_wp2_with fail;clear hwn;obtain⟨N0,hN0⟩:∃N0:Nat,N0=1+r20:=⟨_,rfl⟩
   have hN2:1+(r20:Int)=(N0:Int):=by omega
   rw[hN2];have HN0:=zh (show 1<=N0/\N0<=2 by omega);obtain⟨JB,hJB⟩:=zx J;rw[<-hJB] at HB HJB;clear hN0 hN2 hr20 hJB;go_loopg [14] N0 (fun z v14 wr=>∃(n J:Nat) (vp:Value) (ps:List PolM),v14=.int .i64 (n:Int)/\z=0+n/\n<=N0/\Hid (InvB gT vt WB gF (1+(r0:Int)) vL vM vd vv wr J vp ps)/\J+20*n<=JB+1+20*N0/\Hid (PolOk N0 ps)/\Hid (ps.length+n=N0))
   case atStart=>exact⟨N0,_,_,_,rfl,by omega,zR _,HB.out,zR _,PolOk.nil _,by simp[Hid]⟩
   case round =>
    clear HB;obtain⟨n,J,vp,ps,rfl,rfl,hn,HB,hJ,HP,HPL⟩:=hrel;by_cases hn0:0<n
    ·have q1:(0:Int)<(n:Int):=by omega
     obtain⟨wR,rfl⟩:=zx (wr:World);have HHR2:=zh (HHB.out.trans HB.out.hot);have HTR:=zh HB.out.tape.lt;have HFR:=zh HB.out.flt.lt;have HJP:=zh (show J+20<=I+1000 by have:=HJB.out;have:=HN0.out;omega);have HNN:=zh (show 0<n/\n<=N0 from⟨hn0,hn⟩);have HJ2:=zh hJ;clear hn0 hn hJ;go_wp2_with fail;refine(InP.next_any HSA.out HHR2.out (InP.start HB.out.tape) (by have:=HI.out;have:=HJP.out;omega) 2 (by omega) (by omega) 2 rfl).mono ?_;rintro e w40 ⟨rk,rfl,hrk,hip,-⟩;have HIP:=zh hip;have hwk:IntKind.i64.wrap (1+(rk:Int))=1+(rk:Int):=zI _ (by omega);clear hip;go_wp2_with fail;clear hwk;refine(InP.next_any HSA.out HHR2.out HIP.out (by have:=HI.out;have:=HJP.out;omega) 3 (by omega) (by omega) 3 rfl).mono ?_;rintro e w41 ⟨rm,rfl,hrm,hip,-⟩;have HIP:=zh hip;have n112:((112:UInt8).toNat:Int)=112:=rfl
     have hnm:=fun w=>name_any 112 n w (by have:=HNN.out;have:=HN0.out;omega)
     rw[n112] at hnm;obtain⟨X,hX⟩:∃X:ByteArray,X=⟨(nameL 112 n).toArray⟩:=⟨_,rfl⟩;rw[<-hX] at hnm;have HNM:=zh hnm;have HX:=zh hX;clear hip n112 hnm hX;go_wp2_with fail;refine(HNM.out _).mono ?_;rintro e w42 ⟨rfl,hb⟩;have HIP:=zh (HIP.out.below hb);have hwm:IntKind.i64.wrap ((rm:Int)+1)=(rm:Int)+1:=zI _ (by omega);clear hb;go_wp2_with fail;clear hwm;refine(InP.next_any HSA.out HHR2.out HIP.out (by have:=HI.out;have:=HJP.out;omega) (rm+1) (by omega) (by omega) ((rm:Int)+1) (by omega)).mono ?_;rintro e w43 ⟨rq,rfl,hrq,hip,-⟩;have HIP:=zh hip;have hwq:IntKind.i64.wrap (1+(rk:Int)+(rq:Int))=1+(rk:Int)+(rq:Int):=zI _ (by omega);clear hip;go_wp2_with fail;clear hwq;obtain⟨W44,hW44⟩:=zx (w43.alloc (.cells #[.int .i64 0,.int .i64 1] 3));obtain⟨bm,hbm⟩:=zx w43.heap.size;rw[<-hW44,<-hbm];have HMO:=zh (show IntS W44 (Fr wR.heap.size W44.heap.size) (.slice (some ⟨bm,0,none⟩) 2 2) [0,1] by rw[hW44,hbm];exact ints01 w43 _ HIP.out.hot.size);have HIP:=zh (show InP gT vt wR W44 _ by rw[hW44];exact HIP.out.alloc _);clear hW44 hbm;refine(fracV 1 1000 _ (by omega) (by omega) (by omega) ⟨false,1,1000⟩ (low1 _) 1 1000 rfl rfl).mono ?_;rintro e w45 ⟨v,rfl,⟨At,Lt,ct,Dt,Mt,dt,rfl,htn,htd⟩,hb⟩;have HMO:=zh ((HMO.out.keep (kept_below' hb (zR _) |>.mono (fun b h=>h.2))).mono (Fr.more (zR wR.heap.size) hb.size));have HTN:=zh (htn.mono (Fr.more HIP.out.hot.size (zR _)));have HTD:=zh (htd.mono (Fr.more HIP.out.hot.size (zR _)));have HIP:=zh (HIP.out.below hb);clear htn htd hb;go_wp2_with fail;refine(fracV 30 1 _ (by omega) (by omega) (by omega) ⟨false,30,1⟩ (low_m1 30 (by omega)) 30 1 rfl rfl).mono ?_;rintro e w46 ⟨v,rfl,⟨Ah,Lh,ch,Dh,Mh,dh,rfl,hhn,hhd⟩,hb⟩;have HMO:=zh ((HMO.out.keep (kept_below' hb (zR _) |>.mono (fun b h=>h.2))).mono (Fr.more (zR wR.heap.size) hb.size));have HTN:=zh ((HTN.out.keep (kept_below' hb (zR _) |>.mono (fun b h=>h.2))).mono (Fr.more (zR wR.heap.size) hb.size));have HTD:=zh ((HTD.out.keep (kept_below' hb (zR _) |>.mono (fun b h=>h.2))).mono (Fr.more (zR wR.heap.size) hb.size));have HHN:=zh (hhn.mono (Fr.more HIP.out.hot.size (zR _)));have HHD:=zh (hhd.mono (Fr.more HIP.out.hot.size (zR _)));have HIP:=zh (HIP.out.below hb);clear hhn hhd hb;go_upto_region 30 with fail;obtain⟨gp,hgp⟩:=zx w46.heap.size;obtain⟨W47,hW47⟩:=zx (w46.alloc (.cells #[.string X,.int .i64 (1+(rk:Int)),.int .i64 (rm:Int),.int .i64 (1+(rk:Int)+(rq:Int)),.int .i64 0,.int .i64 0,.int .i64 0,.int .i64 0,.int .i64 0,.slice (some ⟨bm,0,none⟩) 2 2,.slice none 0 0,.bool false,.slice At Lt ct,.slice Dt Mt dt,.bool false,.slice Ah Lh ch,.slice Dh Mh dh] 55));rw[<-hgp,<-hW47]
     have hpb:PolB W47 gp X (1+(rk:Int)) (rm:Int) (1+(rk:Int)+(rq:Int)) 0 0 (.slice (some ⟨bm,0,none⟩) 2 2) (.slice none 0 0) (.slice At Lt ct) (.slice Dt Mt dt) (.slice Ah Lh ch) (.slice Dh Mh dh):=by rw[hW47,hgp];exact zN _ _
     have HMO:=zh (show IntS W47 (Fr wR.heap.size gp) (.slice (some ⟨bm,0,none⟩) 2 2) [0,1] by rw[hW47,hgp];exact HMO.out.keep ((kept_alloc w46 _).mono (fun b h=>h.2)));have HTN:=zh (show LS W47 (Fr wR.heap.size gp) (.slice At Lt ct) (natL 1) by rw[hW47,hgp];exact HTN.out.keep ((kept_alloc w46 _).mono (fun b h=>h.2)));have HTD:=zh (show LS W47 (Fr wR.heap.size gp) (.slice Dt Mt dt) (natL 1000) by rw[hW47,hgp];exact HTD.out.keep ((kept_alloc w46 _).mono (fun b h=>h.2)));have HHN:=zh (show LS W47 (Fr wR.heap.size gp) (.slice Ah Lh ch) (natL 30) by rw[hW47,hgp];exact HHN.out.keep ((kept_alloc w46 _).mono (fun b h=>h.2)));have HHD:=zh (show LS W47 (Fr wR.heap.size gp) (.slice Dh Mh dh) (natL 1) by rw[hW47,hgp];exact HHD.out.keep ((kept_alloc w46 _).mono (fun b h=>h.2)))
     have hRgp:wR.heap.size<=gp:=by rw[hgp];exact HIP.out.hot.size
     have HIP:=zh (show InP gT vt wR W47 _ by rw[hW47];exact HIP.out.alloc _);have HPB:=zh hpb;have HRG:=zh hRgp;have hpl7:=hpb.lt;have HPL7:=zh hpl7;clear hgp hW47 hpb hRgp hpl7
     -- the spread
     go_wp2_with fail;refine(InP.next_any HSA.out HHR2.out HIP.out (by have:=HI.out;have:=HJP.out;omega) 4 (by omega) (by omega) 4 rfl).mono ?_;rintro e w48 ⟨r3,rfl,hr3,hip,hh⟩
     have hgT:some gp∉[some gT]:=fun e=>by simp at e;have:=HRG.out;have:=HTR.out;omega
     have HGT:=zh hgT;have hpb:=HPB.out.hot hh hgT;have HPB:=zh hpb;have HH:=zh hh;have HIP:=zh hip;obtain⟨-,-,-,-,-,-,-,k7,-⟩:=hpb.cells;have kf7:=hpb.frozen 7;clear hpb hh hip hgT;go_upto_region 31 with fail;obtain⟨W49,hW49⟩:=zx (w48.setCell ⟨gp,7,none⟩ (.int .i64 (r3:Int)));rw[<-hW49];have HPB:=zh (show PolB W49 gp _ _ _ _ _ _ _ _ _ _ _ _ by rw[hW49];exact HPB.out.set7 (r3:Int));have HIP:=zh (show InP gT vt wR W49 _ by rw[hW49];exact HIP.out.set HTR.out gp 7 _ HRG.out);have HH:=zh (show HotBy [some gT,some gp] W47 W49 by rw[hW49];exact(HH.out.more (fun x hx _=>by simp at hx ⊢;exact .inl hx)).trans (HotBy.setCell _ _ _ _ (by simp)));clear hW49 k7 kf7;go_wp2_with fail;refine(InP.next_any HSA.out HHR2.out HIP.out (by have:=HI.out;have:=HJP.out;omega) 3 (by omega) (by omega) 3 rfl).mono ?_;rintro e w50 ⟨r4,rfl,hr4,hip,hh⟩;have hpb:=HPB.out.hot hh HGT.out;have HPB:=zh hpb;have HH:=zh (HH.out.trans (hh.more (fun x hx _=>by simp at hx ⊢;exact .inl hx)));have HIP:=zh hip;obtain⟨-,-,-,-,-,-,-,-,k8,-⟩:=hpb.cells;have kf8:=hpb.frozen 8;clear hpb hh hip;go_upto_region 32 with fail;obtain⟨W51,hW51⟩:=zx (w50.setCell ⟨gp,8,none⟩ (.int .i64 (r4:Int)));rw[<-hW51];have HPB:=zh (show PolB W51 gp _ _ _ _ _ _ _ _ _ _ _ _ by rw[hW51];exact HPB.out.set8 (r4:Int));have HIP:=zh (show InP gT vt wR W51 _ by rw[hW51];exact HIP.out.set HTR.out gp 8 _ HRG.out);have HH:=zh (show HotBy [some gT,some gp] W47 W51 by rw[hW51];exact HH.out.trans (HotBy.setCell _ _ _ _ (by simp)));clear hW51 k8 kf8;go_wp2_with fail;refine(InP.next_any HSA.out HHR2.out HIP.out (by have:=HI.out;have:=HJP.out;omega) 5 (by omega) (by omega) 5 rfl).mono ?_;rintro e w52 ⟨r5,rfl,hr5,hip,hh⟩;have hpb:=HPB.out.hot hh HGT.out;have HPB:=zh hpb;have HH:=zh (HH.out.trans (hh.more (fun x hx _=>by simp at hx ⊢;exact .inl hx)));have HIP:=zh hip;have HMO:=zh (HMO.out.keep (HH.out.keptFr (fun b e=>by simp at e;have:=HRG.out;have:=HTR.out;omega) (Nat.le_of_lt HPL7.out)));clear hpb hh hip
     go_upto_if 163 with fail
     go_cut [] from 164 to 163 (fun wc=>∃(bm2 nm:Nat) (ms:List Int),Hid (PolB wc gp X (1+(rk:Int)) (rm:Int) (1+(rk:Int)+(rq:Int)) (r3:Int) (r4:Int) (.slice (some ⟨bm2,0,none⟩) nm nm) (.slice none 0 0) (.slice At Lt ct) (.slice Dt Mt dt) (.slice Ah Lh ch) (.slice Dh Mh dh))/\Hid (InP gT vt wR wc (J+1+1+1+1+1+1))/\Hid (HotBy [some gT,some gp] W47 wc)/\Hid (IntS wc (fun b=>wR.heap.size<=b/\b<wc.heap.size/\b≠gp) (.slice (some ⟨bm2,0,none⟩) nm nm) ms)/\(ms=[0,1]\/ms=[0]))
     case first =>
      by_cases h5:r5=0
      ·have q5:((r5:Int)==0)=true:=by simpa using h5
       have kf9:=HPB.out.frozen 9;obtain⟨-,-,-,-,-,-,-,-,-,k9,-⟩:=HPB.out.cells;have hgl:=HPB.out.lt
       have hgn:gp≠w52.heap.size:=by omega
       go_wp2_with fail;go_meet;have hi0:=ints0 (w52.setCell ⟨gp,9,none⟩ (.slice (some ⟨w52.heap.size,0,none⟩) 1 1)) w52.heap.size (by simp)
       have hz0:(w52.setCell ⟨gp,9,none⟩ (.slice (some ⟨w52.heap.size,0,none⟩) 1 1)).heap.size=w52.heap.size:=by simp
       rw[hz0] at hi0
       case rel=>exact⟨w52.heap.size,1,[0],(HPB.out.set9 _).hot (HotBy.alloc [] _ _) (by simp),(HIP.out.set HTR.out gp 9 _ HRG.out).alloc _,(HH.out.trans (HotBy.setCell _ _ _ _ (by simp))).trans (HotBy.alloc _ _ _),hi0.mono (fun b hb=>⟨Nat.le_trans HIP.out.hot.size hb.1,hb.2,by have:=hb.1;omega⟩),.inr rfl⟩
      ·have q5:((r5:Int)==0)=false:=by simpa using h5
       go_wp2_with fail;go_meet
       case rel=>exact⟨bm,2,[0,1],HPB.out,HIP.out,HH.out,HMO.out.mono (fun b hb=>⟨hb.1,zM hb.2 (Nat.le_trans (Nat.le_of_lt HPL7.out) HH.out.size),by have:=hb.2;omega⟩),.inl rfl⟩
     case rest =>
      obtain⟨bm2,nm,ms,HPB2,HIP2,HH2',HMO2,hms⟩:=hcut;clear HPB HIP HH HMO;obtain⟨wQ,rfl⟩:=zx (wc:World);obtain⟨mx,hmx⟩:∃mx:Nat,mx=max rm 1:=⟨_,rfl⟩
      have hmx1:1<=mx/\mx<=2:=by omega
      have hmxI:(if(rm:Int)<1 then(1:Int) else(rm:Int))=(mx:Int):=by split <;> omega
      have HMX:=zh hmx;clear hmx;go_wp2_with fail;go_loopg [18] mx (fun z v18 wr=>∃(i:Nat) (vr:Value),v18=.int .i64 (i:Int)/\z=mx-i/\i<=mx/\Hid (HotBy [some gp] wQ wr)/\Hid (PolB wr gp X (1+(rk:Int)) (rm:Int) (1+(rk:Int)+(rq:Int)) (r3:Int) (r4:Int) (.slice (some ⟨bm2,0,none⟩) nm nm) vr (.slice At Lt ct) (.slice Dt Mt dt) (.slice Ah Lh ch) (.slice Dh Mh dh))/\Hid (OwnK 3 FrcK wr wQ.heap.size 26 vr (List.replicate i ⟨false,1,2⟩) (Fz wQ.heap.size wr.heap.size vr)))
      case atStart=>exact⟨0,_,rfl,rfl,Nat.zero_le _,HotBy.refl _ _,HPB2.out,OwnK.nil _ _ _ _ _ _⟩
      case round =>
       obtain⟨i,vr,rfl,rfl,hi,HHQ,HPQ,HRQ⟩:=hrel;have hown:=HRQ.out;obtain⟨cs,c1,c2⟩:=hown;rw[List.length_replicate] at c1;obtain⟨Ar,cr,rfl⟩:=own_form c1;have HC1:=zh c1;have HC2:=zh c2;clear c1 c2;by_cases hlt:i<mx
       ·-- Q1{
        have k10:wr.cell? ⟨gp,10,none⟩=some (.slice Ar i cr):=by rw[cell_of_row _ _ _ _ _ _ HPQ.out];rfl
        have kf10:=HPQ.out.frozen 10;have hgl:=HPQ.out.lt;obtain⟨i0,hi0,hz0,hz1,hz2⟩:=info_parts info_frac;have hQr:wQ.heap.size<=wr.heap.size:=HHQ.out.size;have hgQ:gp<wQ.heap.size:=HPB2.out.lt
        have hne5:some gp≠(Value.slice Ar i cr).ownBlock:=fun e=>by have:=(HC1.out.lt gp e.symm).1;omega
        have HNE5:=zh hne5;have HLT:=zh hlt;have HFRC:=zh (fun w=>fracV 1 2 w (by omega) (by omega) (by omega) ⟨false,1,2⟩ (low1 _) 1 2 rfl rfl);clear hne5 hi;go_upto_region 37 with fail
        go_region_law (first
         | (refine step_append_lies _ (by rfl) _ _ _ (by rfl) wQ.heap.size 26 i0 _ 3 56 Tryz.underlying53 hi0 hz0 hz1 hz2 rfl (by decide) (.slice Ar i cr) i cs (by rfl) (World.ownsRow.alloc ho3 _) ⟨w3.heap.size,0,none⟩ 1 1 [.bool false,.slice An Ln cn,.slice Aq Lq cq] (by rfl) (by rfl) (World.news_of_block (cs:=#[.bool false,.slice An Ln cn,.slice Aq Lq cq]) (t:=26) (fr:=(0,0)) (zN w3 _)) (by simp[Value.oneCell']) (by omega) (by unfold maxLen;omega) (by omega) (by simp;omega) (w3.heap.size+1) (by simp) ?_;intro gg cap w5 hown5 hg5 hat5 hlt5;have hP5:=hP3.grown5 hg5 HNE5.out;have k105:=hP5.cells.2.2.2.2.2.2.2.2.2.2.1;have f105:=hP5.frozen 10)
         | (go_simp;go_at_call 9;refine(HFRC.out _).mono ?_;rintro e w3 ⟨v3,rfl,⟨An,Ln,cn,Aq,Lq,cq,rfl,hvn,hvq⟩,hb3⟩;have hb33:=below_drewL hb3;have ho3:=own_below HC1.out hb33;have hs3:=hb33.size;have hP3:=HPQ.out.below hb33;have k103:=hP3.cells.2.2.2.2.2.2.2.2.2.2.1;have hP4:=hP3.below ((zB w3.heap.size w3).alloc (zR _) (.cells #[.bool false,.slice An Ln cn,.slice Aq Lq cq] 26));have k104:=hP4.cells.2.2.2.2.2.2.2.2.2.2.1;have hgn3:gp≠w3.heap.size:=(by omega);have hgn4:w3.heap.size≠gp:=(by omega)))
        all_goals
         have hgQ2:wQ.heap.size<=gg:=(hown5.lt gg rfl).1
         have hggn:gg≠gp:=by omega
         have hne6:(Value.slice (some ⟨gg,0,none⟩) (i+1) cap).ownBlock≠some gp:=fun e=>hggn (Option.some.inj e)
         have ho6:=hown5.kept (only_set1 w5 gp 10 (.slice (some ⟨gg,0,none⟩) (i+1) cap)) (.inr hne6);have HP6:=zh (hP5.set10 (.slice (some ⟨gg,0,none⟩) (i+1) cap));have hh3:HotBy [some gp,(Value.slice Ar i cr).ownBlock] w3 (w5.setCell ⟨gp,10,none⟩ (.slice (some ⟨gg,0,none⟩) (i+1) cap)):=(HotBy.alloc _ _ _).trans ((HotBy.grown hg5 (.inl (by simp))).trans (HotBy.setCell _ _ _ _ (by simp)))
         have HHQ6:=zh (HHQ.out.transNew ((HotBy.below hb33).trans hh3) (fun x e hx=>by
          simp at e ⊢;rcases e with e | e
          ·exact e
          ·have:=(HC1.out.lt x e.symm).1;omega))
         have hvlt:=fun b hb=>HC1.out.lt b hb
         have hk:=OwnK.pushF (es:=List.replicate i (⟨false,1,2⟩:Frc)) (a:=⟨false,1,2⟩) (v':=.slice (some ⟨gg,0,none⟩) (i+1) cap) frcK (fun k x hx=>by
          obtain⟨c,g1,g2,g3⟩:=HC2.out k x hx
          exact⟨c,g1,g2,frcK.mono (Fz.mono hs3) (frcK.keep (Fz.kept (HotBy.below (hot:=[]) hb33) (zR _) (fun b e=>by cases e)) g3)⟩) (by rw[List.length_replicate];exact ho3.1) (fun b hb=>(ho3.lt b hb).2) (by rw[List.length_replicate];exact ho6) rfl
          ⟨_,_,rfl,hvn.mono (fun b hb=>⟨Nat.le_trans hQr hb.1,hb.2,fun e=>by have h1:wr.heap.size<=b:=hb.1;have:=(hvlt b e).2;omega⟩),hvq.mono (fun b hb=>⟨Nat.le_trans hQr hb.1,hb.2,fun e=>by have h1:wr.heap.size<=b:=hb.1;have:=(hvlt b e).2;omega⟩)⟩
          hh3 (fun b e h3 h4=>by
           simp at e;rcases e with e | e
           ·omega
           ·exact e.symm) (by
           rcases hat5 with h | h
           ·exact .inl h.symm
           ·exact .inr ⟨gg,rfl,by omega⟩)
         rw[<-List.replicate_succ'] at hk;have HK6:=zh hk;clear hown5 hg5 hat5 hlt5 hP5 k105 f105 k104 hP4 hP3 k103 ho3 hb33 hb3 hh3 hvn hvq hk ho6 hvlt k10 kf10 hne6;go_wp2_with fail;go_roundg (mx-(i+1))
         case measure=>have:=HLT.out;omega
         case rel=>exact⟨i+1,_,rfl,rfl,HLT.out,HHQ6,HP6,HK6⟩
       ·-- Q2{
        have hB1:=HB.out.inP HNE.out.1 HNE.out.2.1 HNE.out.2.2 (HIP2.out.new HTR.out HHQ.out (fun b e=>by simp at e;have:=HRG.out;omega));obtain⟨csp,p1,p2⟩:=hB1.pol;obtain⟨Ap,cp,rfl⟩:=own_form p1
        have hIE:i=mx:=by omega
        have HIE:=zh hIE;have HB1:=zh hB1;obtain⟨k0,k1,k2,k3,k4,k5,k6,kf⟩:=hB1.flt.cells;have kf5:=kf 5;have hgl:=hB1.flt.lt;have hgF2:=HNE.out.2.1;have hsz:=hB1.hot.size
        have hgFv:some gF≠(Value.slice Ap ps.length cp).ownBlock:=fun e=>by have:=(p1.lt gF e.symm).1;omega
        obtain⟨Np,hNp⟩:=zx ps.length;rw[<-hNp] at p1 hgFv k5 HB1 HPL;have HPLT:=zh (show Np<=2 by have:=HPL.out;have:=HN0.out;omega);have HP1:=zh p1;have HP2:=zh p2;have HGV:=zh hgFv;have HNP:=zh hNp;have hp1:=HP1.out;have hrg:wr.rangeAt gp 0 [.string X,.int .i64 (1+(rk:Int)),.int .i64 (rm:Int),.int .i64 (1+(rk:Int)+(rq:Int)),.int .i64 0,.int .i64 0,.int .i64 0,.int .i64 (r3:Int),.int .i64 (r4:Int),.slice (some ⟨bm2,0,none⟩) nm nm,.slice Ar i cr,.bool false,.slice At Lt ct,.slice Dt Mt dt,.bool false,.slice Ah Lh ch,.slice Dh Mh dh]:=HPQ.out.range;have HRGP:=zh hrg;clear hrg
        have hsub:IntKind.i64.wrap ((n:Int)-1)=((n-1:Nat):Int):=by have:=HNN.out;rw[show(n:Int)-1=((n-1:Nat):Int) by omega];exact zI _ (by have:=HN0.out;omega)
        clear hB1 kf k0 k1 k2 k3 k4 k6 p1 p2 hgFv hNp hIE hgF2;go_upto_region 38 with fail;go_wp2_with (first | (refine wpList_load_mid rfl 55 (.tmp 17) rfl gp 0 (by rfl) [.string X,.int .i64 (1+(rk:Int)),.int .i64 (rm:Int),.int .i64 (1+(rk:Int)+(rq:Int)),.int .i64 0,.int .i64 0,.int .i64 0,.int .i64 (r3:Int),.int .i64 (r4:Int),.slice (some ⟨bm2,0,none⟩) nm nm,.slice Ar i cr,.bool false,.slice At Lt ct,.slice Dt Mt dt,.bool false,.slice Ah Lh ch,.slice Dh Mh dh] _ HRGP.out Tryz.underlying55 rfl size_pol ?_) | (at_builtin;refine app_lit [.string X,.int .i64 (1+(rk:Int)),.int .i64 (rm:Int),.int .i64 (1+(rk:Int)+(rq:Int)),.int .i64 0,.int .i64 0,.int .i64 0,.int .i64 (r3:Int),.int .i64 (r4:Int),.slice (some ⟨bm2,0,none⟩) nm nm,.slice Ar i cr,.bool false,.slice At Lt ct,.slice Dt Mt dt,.bool false,.slice Ah Lh ch,.slice Dh Mh dh] 55 32 info_pol Tryz.underlying32 rfl (by omega) (by omega) rfl (by simp[Value.oneCell']) (.tmp 179) (.tmp 181) rfl rfl _ _ _ _ (by rfl) hp1 (by rfl) (by have:=HPLT.out;omega) hsz ?_;intro v' w5 hown' hg hat;obtain⟨A',c',rfl⟩:=own_form hown';have hF6:=HB1.out.flt.grown5 hg HGV.out;have k56:=hF6.cells.2.2.2.2.2.1;have f56:=hF6.cells.2.2.2.2.2.2.2 5));have hsz5:wR.heap.size<=wQ.heap.size:=HIP2.out.hot.size;have hsz6:wQ.heap.size<=wr.heap.size:=HHQ.out.size;have hsz7:WB.heap.size<=wR.heap.size:=HB.out.hot.size;have hgq:gp<wQ.heap.size:=HPB2.out.lt
        have hvp:∀b,(Value.slice Ap ps.length cp).ownBlock=some b->b<wR.heap.size:=fun b e=>(HB.out.pol.lt b e).2
        rw[<-HNP.out] at hvp
        have hfz:∀b,wR.heap.size<=b->b<wr.heap.size->Fz WB.heap.size wr.heap.size (.slice Ap Np cp) b:=fun b h1 h2=>⟨by omega,h2,fun e=>by have:=hvp b e;omega⟩
        have hkq:∀b,wR.heap.size<=b/\b<wQ.heap.size/\b≠gp->wr.heap[b]?=wQ.heap[b]?:=fun b hb=>HHQ.out.block b hb.2.1 (fun e=>by simp at e;exact hb.2.2 e)
        have hk1:Kept (Fr wR.heap.size gp) W47 wr:=((HH2'.out.keptFr (fun b e=>by simp at e;have:=HRG.out;have:=HTR.out;omega) (Nat.le_of_lt HPL7.out)).trans (HHQ.out.keptFr (fun b e=>by simp at e;omega) (by omega)))
        have hfz2:∀b,Fr wR.heap.size gp b->Fz WB.heap.size wr.heap.size (.slice Ap Np cp) b:=fun b h=>hfz b h.1 (by have:=h.2;omega)
        have hm1:=(HMO2.out.keep hkq).mono (R':=Fz WB.heap.size wr.heap.size (.slice Ap Np cp)) (fun b h=>hfz b h.1 (by have:=h.2.1;omega));have hr1:=HRQ.out.slS frcK (R':=Fz WB.heap.size wr.heap.size (.slice Ap Np cp)) (fun b h=>hfz b (by have:=h.1;omega) h.2.1) (fun b e=>hfz b (by have:=(HC1.out.lt b e).1;omega) (HC1.out.lt b e).2)
        have hpk:PolK wr (Fz WB.heap.size wr.heap.size (.slice Ap Np cp)) [.string X,.int .i64 (1+(rk:Int)),.int .i64 (rm:Int),.int .i64 (1+(rk:Int)+(rq:Int)),.int .i64 0,.int .i64 0,.int .i64 0,.int .i64 (r3:Int),.int .i64 (r4:Int),.slice (some ⟨bm2,0,none⟩) nm nm,.slice Ar i cr,.bool false,.slice At Lt ct,.slice Dt Mt dt,.bool false,.slice Ah Lh ch,.slice Dh Mh dh] ⟨X,1+(rk:Int),(rm:Int),1+(rk:Int)+(rq:Int),(r3:Int),(r4:Int),ms,List.replicate i ⟨false,1,2⟩,⟨false,1,1000⟩,⟨false,30,1⟩⟩ :=
         ⟨_,_,_,_,_,_,rfl,hm1,hr1,(HTN.out.keep hk1).mono hfz2,(HTD.out.keep hk1).mono hfz2,(HHN.out.keep hk1).mono hfz2,(HHD.out.keep hk1).mono hfz2⟩
        have hpush:=InvB.push (p:=⟨X,1+(rk:Int),(rm:Int),1+(rk:Int)+(rq:Int),(r3:Int),(r4:Int),ms,List.replicate i ⟨false,1,2⟩,⟨false,1,1000⟩,⟨false,30,1⟩⟩) HNE.out.1 HNE.out.2.1 HNE.out.2.2 HB1.out (by rw[<-HNP.out];exact HP1.out) (by rw[HNP.out];exact HP2.out) rfl hpk (by rw[<-HNP.out];exact hown') hg hat;have HPU:=zh hpush
        have hpw:PolWell ⟨X,1+(rk:Int),(rm:Int),1+(rk:Int)+(rq:Int),(r3:Int),(r4:Int),ms,List.replicate i ⟨false,1,2⟩,⟨false,1,1000⟩,⟨false,30,1⟩⟩:=by
         have h1:=HMX.out;have h2:=HIE.out;refine⟨by simp;omega,by simp,by simp;omega,by simp;omega,by simp;omega,by simp,by simp;omega,by simp,by simp;omega,hms,?_,rfl,rfl⟩;show List.replicate i _=_;rw[show i=(max (rm:Int) 1).toNat by omega]
        have HPK:=zh (HP.out.push (by have:=HPL.out;have:=HNN.out;have:=HNP.out;omega) (by rw[<-HNP.out,show N0-Np=n by have:=HPL.out;omega];exact HX.out) hpw);have HPL8:=zh (show(ps++[(⟨X,1+(rk:Int),(rm:Int),1+(rk:Int)+(rq:Int),(r3:Int),(r4:Int),ms,List.replicate i ⟨false,1,2⟩,⟨false,1,1000⟩,⟨false,30,1⟩⟩:PolM)]).length+(n-1)=N0 by rw[zP,<-HNP.out];have:=HPL.out;have:=HNN.out;simp;omega);clear hpush hpw hpk hm1 hr1 hfz2 hk1 hkq hfz hvp hown' hg hat hF6 k56 f56;go_roundg (0+(n-1))
        case measure=>have:=HNN.out;omega
        case rel=>exact⟨n-1,_,_,_,rfl,rfl,by have:=HNN.out;omega,HPU,by have:=HJ2.out;have:=HNN.out;omega,HPK,HPL8⟩
    ·-- P2{
     have hn00:n=0:=by omega
     have q1:¬(0:Int)<(n:Int):=by omega
     have hpn:ps.length=N0:=by have:=HPL.out;omega
     obtain⟨WC,rfl⟩:=zx (wr:World);have HHC:=zh (HHB.out.trans HB.out.hot);have HTC:=zh (show gT<WC.heap.size/\gF<WC.heap.size/\gF≠gT from⟨HB.out.tape.lt,HB.out.flt.lt,HNE.out.2.2⟩);have HPOL:=zh (HB.out.pol.slS polK (R':=Fr WB.heap.size WC.heap.size) (fun b hb=>⟨hb.1,hb.2.1⟩) (fun b hb=>HB.out.pol.lt b hb));have HC:=zh (show InvC gT vt WC gF (1+(r0:Int)) vL vM vd vv vp WC J (.slice none 0 0) [] from⟨HB.out.tape,HotBy.refl _ _,HB.out.flt,World.ownsRow_nil _ _ _ _⟩);have HBC:=zh HB.out.hot;obtain⟨Ap,cp,hvp⟩:=HB.out.pol.form;rw[hpn] at hvp;subst hvp;have HPN:=zh hpn;have HJC:=zh (show J<=I+400 by have:=HJB.out;have:=HN0.out;omega);clear hpn HB HPL hn hn0 hJ hn00;go_wp2_with fail;clear q1;refine(InP.next_any HSA.out HHC.out (InP.start HC.out.tape) (by have:=HI.out;have:=HJC.out;omega) volumes (by have:=HV.out;omega) (by have:=HV.out;omega) (volumes:Int) rfl).mono ?_;rintro e wC1 ⟨rv,rfl,hrv,hip,hh⟩;have HC:=zh (HC.out.inP HTC.out.1 HTC.out.2.1 HTC.out.2.2 hip);have hwn:IntKind.i64.wrap (1+(rv:Int))=1+(rv:Int):=zI _ (by have:=HV.out;omega);clear hip hh;go_wp2_with fail;clear hwn;obtain⟨N1,hN1⟩:∃N1:Nat,N1=1+rv:=⟨_,rfl⟩
     have hN2:1+(rv:Int)=(N1:Int):=by omega
     rw[hN2];have HN1:=zh (show 1<=N1/\N1<=volumes by omega);obtain⟨JC,hJC⟩:=zx J;rw[<-hJC] at HC HJC;clear hN1 hN2 hrv hJC;go_loopg [19] N1 (fun z v19 wr=>∃(n J:Nat) (vo:Value) (os:List VolM),v19=.int .i64 (n:Int)/\z=0+n/\n<=N1/\Hid (InvC gT vt WC gF (1+(r0:Int)) vL vM vd vv (.slice Ap N0 cp) wr J vo os)/\J+n<=JC+1+N1/\Hid (VolOk N1 N0 os)/\Hid (os.length+n=N1))
     case atStart=>exact⟨N1,_,_,_,rfl,by omega,zR _,HC.out,zR _,VolOk.nil _ _,by simp[Hid]⟩
     case round =>
      clear HC;obtain⟨n,J,vo,os,rfl,rfl,hn,HC,hJ,HVOK,HOL⟩:=hrel;by_cases hn0:0<n
      ·-- R1{
       have q1:(0:Int)<(n:Int):=by omega
       have hvol:=HC.out.vol;obtain⟨Ao,co,rfl⟩:=own_form hvol;obtain⟨No,hNo⟩:=zx os.length;rw[<-hNo] at hvol HC HOL;obtain⟨k0,k1,k2,k3,k4,k5,k6,kf⟩:=HC.out.flt.cells;have kf6:=kf 6;have hgl:=HC.out.flt.lt;have HNO:=zh hNo;have HVOL:=zh hvol;have HNN:=zh (show 0<n/\n<=N1/\No<=100 from⟨hn0,hn,by have:=HOL.out;have:=HN1.out;have:=HV.out;omega⟩);have HJ2:=zh hJ;obtain⟨i0,hi0,hz0,hz1,hz2⟩:=info_parts info_vol;have n118:((118:UInt8).toNat:Int)=118:=rfl
       have hnm:=fun w=>name_any 118 n w (by have:=HNN.out;have:=HN1.out;have:=HV.out;omega)
       rw[n118] at hnm;obtain⟨X,hX⟩:∃X:ByteArray,X=⟨(nameL 118 n).toArray⟩:=⟨_,rfl⟩;rw[<-hX] at hnm;have HNM:=zh hnm;have HX:=zh hX
       have hgo:∀b,(Value.slice Ao No co).ownBlock=some b->gF≠b/\gT≠b/\b<wr.heap.size:=fun b e=>by have:=hvol.lt b e;have:=HTC.out;omega
       have HGO:=zh hgo;have hbs:WC.heap.size<=wr.heap.size:=HC.out.hot.size;have HNX:=zh (fun w1 (h:InP gT vt wr w1 J)=>InP.next_any HSA.out (HHC.out.trans HC.out.hot) h (by have:=HI.out;have:=HJC.out;have:=HN1.out;have:=HV.out;omega) N0 (by have:=HN0.out;omega) (by have:=HN0.out;omega) (N0:Int) rfl);clear kf k0 k1 k2 k3 k4 hvol hn0 hn hJ hNo n118 hnm hX hgo;go_upto_region 42 with fail;refine region_tail (S:=fun w'=>w'.cell? ⟨gF,6,none⟩=some (.slice Ao No co)/\w'.cell? ⟨gF,5,none⟩=some (.slice Ap N0 cp)) [13] (by kernel_rfl) ⟨k6,k5⟩ (fun hHeld=>?_);refine tk 0 192 ?_;refine tk 1 193 ?_;refine tk 2 194 ?_;refine tk 4 196 ?_;refine tk 5 197 ?_;refine tk 6 198 ?_;refine tk 7 199 ?_;refine rd1 3 (fun K hK=>?_);go_simp;(go_at_call 63;refine(HNM.out _).mono ?_);rintro e w2 ⟨rfl,hb2⟩;have hb22:=below_drewL hb2;have hip2:=(InP.start HC.out.tape).below hb22;have hF2:=HC.out.flt.below hb22;have k62:=hF2.cells.2.2.2.2.2.2.1;have k52:=hF2.cells.2.2.2.2.2.1;go_wp2_with fail;refine hK.out _ _ ?_ (fun hHeld=>?_)
       ·(refine⟨?_,?_⟩ <;> assumption)
       clear hK K;(try simp only[Act.put,z1,z2,z3]);refine rd1 8 (fun K hK=>?_);go_simp;(go_at_call 61;refine(HNX.out _ hip2).mono ?_);rintro e w3 ⟨rp,rfl,hrp,hip3,hh3⟩;have hic3:=HC.out.inP HTC.out.1 HTC.out.2.1 HTC.out.2.2 hip3;have hs3:=hip3.hot.size;have ho3:=own_hot HVOL.out hip3.hot (fun g hg e=>by simp at e;have:=(HGO.out g hg).2.1;omega);have hF3:=hic3.flt;have k63:=hF3.cells.2.2.2.2.2.2.1;have k53:=hF3.cells.2.2.2.2.2.1;have hF4:=hF3.below ((zB w3.heap.size w3).alloc (zR _) (.cells #[.string X,.int .i64 (rp:Int)] 106));have k64:=hF4.cells.2.2.2.2.2.2.1;have k54:=hF4.cells.2.2.2.2.2.1
       have hgn3:gF≠w3.heap.size:=by omega
       have hgn4:w3.heap.size≠gF:=by omega
       have hne5:some gF≠(Value.slice Ao No co).ownBlock:=fun e=>(HGO.out gF e.symm).1 rfl
       go_wp2_with fail;refine hK.out _ _ ?_ (fun hHeld=>?_)
       ·(refine⟨?_,?_⟩ <;> assumption)
       clear hK K;(try simp only[Act.put,z1,z2,z3]);refine tk 9 201 ?_;refine rd1 10 (fun K hK=>?_);go_simp;refine hK.out _ _ ?_ (fun hHeld=>?_)
       ·(refine⟨?_,?_⟩ <;> assumption)
       clear hK K;(try simp only[Act.put,z1,z2,z3]);refine rd1 11 (fun K hK=>?_);refine step_append_lies _ (by rfl) _ _ _ (by rfl) WC.heap.size 106 i0 _ 2 24 Tryz.underlying33 hi0 hz0 hz1 hz2 rfl (by decide) (.slice Ao No co) No (os.flatMap volC) (by rfl) (World.ownsRow.alloc ho3 _) ⟨w3.heap.size,0,none⟩ 1 1 [.string X,.int .i64 (rp:Int)] (by rfl) (by rfl) (World.news_of_block (cs:=#[.string X,.int .i64 (rp:Int)]) (t:=106) (fr:=(0,0)) (zN w3 _)) (by simp[Value.oneCell']) (by omega) (by have:=HNN.out;unfold maxLen;omega) (by have:=HNN.out;omega) (by simp;omega) (w3.heap.size+1) (by simp) ?_;intro gg cap w5 hown5 hg5 hat5 hlt5;have hF5:=hF3.grown5 hg5 hne5;have k65:=hF5.cells.2.2.2.2.2.2.1;have k55:=hF5.cells.2.2.2.2.2.1;have f65:=hF5.cells.2.2.2.2.2.2.2 6;refine hK.out _ _ ?_ (fun hHeld=>?_)
       ·(refine⟨?_,?_⟩ <;> assumption)
       clear hK K;(try simp only[Act.put,z1,z2,z3]);refine tk 12 204 ?_;refine rd1T 13 (fun K hK=>?_);go_simp;refine hK.out _ _ ?_;clear hK K;(try simp only[Act.put,z1,z2,z3]);refine doneT (by kernel_rfl) ?_ _
       have hpush:=InvC.push (x:=⟨X,(rp:Int)⟩) HTC.out.1 HTC.out.2.1 HTC.out.2.2 hic3 (by rw[<-HNO.out];exact hown5) hg5 (by
        rcases hat5 with h | h
        ·exact .inl h.symm
        ·exact .inr ⟨gg,rfl,by omega⟩)
       have HPU:=zh hpush;have HVK:=zh (HVOK.out.push (x:=⟨X,(rp:Int)⟩) (p:=rp) (by have:=HOL.out;have:=HNN.out;have:=HNO.out;omega) (by rw[<-HNO.out,show N1-No=n by have:=HOL.out;omega];exact HX.out) rfl hrp);have HOL8:=zh (show(os++[(⟨X,(rp:Int)⟩:VolM)]).length+(n-1)=N1 by rw[zP,<-HNO.out];have:=HOL.out;have:=HNN.out;simp;omega)
       have hsub:IntKind.i64.wrap ((n:Int)-1)=((n-1:Nat):Int):=by have:=HNN.out;rw[show(n:Int)-1=((n-1:Nat):Int) by omega];exact zI _ (by have:=HN1.out;have:=HV.out;omega)
       clear hpush hown5 hg5 hat5 hlt5 hF5 k65 k55 f65 hF4 k64 k54 hF3 k63 k53 ho3 hic3 hip3 hh3 hb22 hb2 hip2 hF2 k62 k52;go_wp2_with fail;go_roundg (0+(n-1))
       case measure=>have:=HNN.out;omega
       case rel=>exact⟨n-1,_,_,_,rfl,rfl,by have:=HNN.out;omega,HPU,by have:=HJ2.out;have:=HNN.out;omega,HVK,HOL8⟩
      ·-- R2{
       have hn00:n=0:=by omega
       have q1:¬(0:Int)<(n:Int):=by omega
       have hon:os.length=N1:=by have:=HOL.out;omega
       have HON:=zh hon;have HJE:=zh (show J<=I+1000 by have:=HJC.out;have:=HN1.out;have:=HV.out;omega);obtain⟨WE,rfl⟩:=zx (wr:World);obtain⟨Ao,no,co,rfl⟩:=form3 (own_form HC.out.vol);obtain⟨Al,nl,cl,rfl⟩:=HLAW.out.form3;obtain⟨Am,nm,cm,rfl⟩:=HMOD.out.form3;obtain⟨Ad,nd,cd,rfl⟩:=HDOM.out.form3;obtain⟨Av,nv,cv,rfl⟩:=HDVE.out.form3;have hall:=HHC.out.trans HC.out.hot;have HALL:=zh hall
       have hf4:FltB WE g4 0 (.slice none 0 0) (.slice none 0 0) (.slice none 0 0) (.slice none 0 0) (.slice none 0 0) (.slice none 0 0):=(hall.block g4 HST18.out.f4.lt (fun e=>by
        simp at e;rcases e with e | e
        ·exact HST18.out.ne4 e
        ·exact HST18.out.ne4F e)).trans HST18.out.f4
       have HF4E:=zh hf4;obtain⟨k0,k1,k2,k3,k4,k5,k6,-⟩:=HC.out.flt.cells;obtain⟨l0,l1,l2,l3,l4,l5,l6,lf⟩:=hf4.cells;have lf0:=lf 0;have lf1:=lf 1;have lf2:=lf 2;have lf3:=lf 3;have lf4:=lf 4;have lf5:=lf 5;have lf6:=lf 6
       have hne4:gF≠g4:=fun e=>HST18.out.ne4F e.symm
       have hne4':g4≠gF:=HST18.out.ne4F;have hgl4:g4<WE.heap.size:=hf4.lt;clear hn hn0 hn00 hon hall hf4 lf hJ;go_wp2_with fail;obtain⟨Wf,hWf⟩:=zx ((((((((WE.setCell ⟨g4,0,none⟩ (.int .i64 (1+(r0:Int)))).setCell ⟨g4,1,none⟩ (.slice Al nl cl)).setCell ⟨g4,2,none⟩ (.slice Am nm cm)).setCell ⟨g4,3,none⟩ (.slice Ad nd cd)).setCell ⟨g4,4,none⟩ (.slice Av nv cv)).setCell ⟨g4,5,none⟩ (.slice Ap N0 cp)).setCell ⟨g4,6,none⟩ (.slice Ao no co)));rw[<-hWf]
       have hF4f:FltB Wf g4 (1+(r0:Int)) (.slice Al nl cl) (.slice Am nm cm) (.slice Ad nd cd) (.slice Av nv cv) (.slice Ap N0 cp) (.slice Ao no co):=by rw[hWf];exact HF4E.out.store7 _ _ _ _ _ _ _
       have hto:∀(X:World) (hot:List (Option Nat)),HotBy hot X WE->some g4∈hot\/X.heap.size<=g4->HotBy hot X Wf:=fun X hot h hg=>by rw[hWf];exact h.store7 hg _ _ _ _ _ _ _
       clear hWf k0 k1 k2 k3 k4 k5 k6 l0 l1 l2 l3 l4 l5 l6 lf0 lf1 lf2 lf3 lf4 lf5 lf6;obtain⟨x0,x1,x2,x3,x4,x5,x6,-⟩:=hF4f.cells;have hg4:=HG4.out;have hgF:=HGF.out;have hlF:=HST18.out.lF;have hlT:=HST18.out.lT;have h218:=HST18.out.hot.size;have hsB:=HHB.out.size;have hsC:=HBC.out.size
       have hmore:∀(X:World),HotBy [some gT,some gF] X WE->HotBy [some gT,some gF,some g4] X Wf:=fun X h=>hto X _ (h.more (fun x hx _=>by simp at hx ⊢;rcases hx with h | h;exact .inl h;exact .inr (.inl h))) (.inl (by simp))
       have hcold:∀b,some b∈[some gT,some gF,some g4]->b<W2.heap.size:=fun b e=>by
        simp at e;rcases e with e | e | e <;> omega
       have hs02:w.heap.size<=W2.heap.size:=HH2.out.size;have a1:=SlS.mono lawK (SlS.hot lawK HLAW.out (hmore _ HALL.out) hcold) (Fr.more hs02 (zR _));have a2:=SlS.mono modK (SlS.hot modK HMOD.out (hmore _ HALL.out) hcold) (Fr.more hs02 (zR _));have a3:=SlS.mono domK (SlS.hot domK HDOM.out (hmore _ (HBC.out.trans HC.out.hot)) (fun b e=>zM (hcold b e) h218)) (Fr.more (Nat.le_trans hs02 h218) (zR _));have a4:=SlS.mono dveK (SlS.hot dveK HDVE.out (hmore _ (HBC.out.trans HC.out.hot)) (fun b e=>zM (hcold b e) h218)) (Fr.more (Nat.le_trans hs02 h218) (zR _));have a5:=SlS.mono polK (SlS.hot polK HPOL.out (hmore _ HC.out.hot) (fun b e=>zM (hcold b e) (Nat.le_trans h218 hsB))) (Fr.more (Nat.le_trans hs02 (Nat.le_trans h218 hsB)) (zR _));have a6:=SlS.mono volK (SlS.hot volK (slS_of_own2 (R:=Fr WC.heap.size WE.heap.size) HC.out.vol (fun b e=>HC.out.vol.lt b e)) (hmore _ (HotBy.refl _ _)) (fun b e=>zM (hcold b e) (Nat.le_trans h218 (Nat.le_trans hsB hsC)))) (Fr.more (Nat.le_trans hs02 (Nat.le_trans h218 (Nat.le_trans hsB hsC))) (zR _));have hT:TapeB Wf gT vt J:=((hto WE [some g4] (HotBy.refl _ _) (.inl (by simp))).block gT HC.out.tape.lt (fun e=>by simp at e;omega)).trans HC.out.tape;have hgr:w.grownBy Wf (some gT):=(hto w [some gT] (HSA.out.w0 HALL.out) (.inr (by omega))).to_grown
       have hok:FleetOk volumes ⟨1+(r0:Int),[⟨{ data:=#[100,105,115,107] },[⟨false,1,1⟩],[[⟨false,0,1⟩]],[⟨false,1,100+r1⟩]⟩],[⟨{ data:=#[98,105,103] },3+(r2:Int),8+(r3:Int),0⟩,⟨{ data:=#[111,108,100] },1+(r4:Int),4+(r5:Int),0⟩],ds,vs,ps,os⟩:=by
        have h0:=HR0.out;have hN0:=HN0.out;have hN1:=HN1.out;exact { ext:=by show 1+(r0:Int)=1\/1+(r0:Int)=2;omega,laws:=⟨r1,HR1.out,rfl⟩,models:=⟨r2,r3,r4,r5,HR2.out,HR3.out,HR4.out,HR5.out,rfl⟩,doms:=HDO.out,domN:=HDL.out,dves:=HVO.out,dve1:=HVL1.out.1,dveN:=HVL1.out.2,pols:=by show PolOk ps.length ps;rw[HPN.out];exact HP.out,pol1:=by show 1<=ps.length;rw[HPN.out];exact hN0.1,polN:=by show ps.length<=2;rw[HPN.out];exact hN0.2,vols:=by show VolOk os.length ps.length os;rw[HPN.out,HON.out];exact HVOK.out,vol1:=by show 1<=os.length;rw[HON.out];exact hN1.1,volN:=by show os.length<=volumes;rw[HON.out];exact hN1.2 }
       obtain⟨F,hF⟩:∃F:FltM,F=⟨1+(r0:Int),[⟨{ data:=#[100,105,115,107] },[⟨false,1,1⟩],[[⟨false,0,1⟩]],[⟨false,1,100+r1⟩]⟩],[⟨{ data:=#[98,105,103] },3+(r2:Int),8+(r3:Int),0⟩,⟨{ data:=#[111,108,100] },1+(r4:Int),4+(r5:Int),0⟩],ds,vs,ps,os⟩:=⟨_,rfl⟩;rw[<-hF] at hok
       have hfs:FleetS Wf (Fr w.heap.size Wf.heap.size) (.slice Al nl cl) (.slice Am nm cm) (.slice Ad nd cd) (.slice Av nv cv) (.slice Ap N0 cp) (.slice Ao no co) F:=by rw[hF];exact⟨a1,a2,a3,a4,a5,a6⟩
       have hext:F.ext=1+(r0:Int):=by rw[hF]
       clear hF a1 a2 a3 a4 a5 a6;refine bodyPost_ret (v:=.agg #[.int .i64 (1+(r0:Int)),.slice Al nl cl,.slice Am nm cm,.slice Ad nd cd,.slice Av nv cv,.slice Ap N0 cp,.slice Ao no co]) ?_ rfl ?_
       ·simp[results,Tryz.results24,go_sem,x0,x1,x2,x3,x4,x5,x6]
       ·exact⟨.slice Al nl cl,.slice Am nm cm,.slice Ad nd cd,.slice Av nv cv,.slice Ap N0 cp,.slice Ao no co,F,by rw[hext],hfs,J,hT,HJE.out,hgr,hok⟩
end Go.Proofs.YtgfaieppacabjaaGreat
