/- retarget.Extend, walked. -/
import Derived.Test.YtgfaieppacabjaaGreatMy21
set_option linter.unusedSectionVars false
set_option maxRecDepth 100000
set_option maxHeartbeats 12800000
namespace Go.Proofs.YtgfaieppacabjaaGreat
open Go.RowKit
set_option linter.unusedVariables false
set_option linter.unusedSimpArgs false
def extL(G:FltM)(L:List (List Int)):List (List Int):=L.mapIdx fun v l=>l++List.replicate (szN G v-l.length) (-1)
theorem extL_len(G:FltM)(L:List (List Int)):(extL G L).length=L.length:=by unfold extL;simp
theorem extL_at{G:FltM}{L:List (List Int)}{v:Nat}{l:List Int}(h:L[v]?=some l):(extL G L)[v]?=some (l++List.replicate (szN G v-l.length) (-1)):=by
 unfold extL;rw[List.getElem?_mapIdx,h];rfl
def partL(G:FltM)(L:List (List Int))(j:Nat):List (List Int):=(extL G L).take j++L.drop j
theorem partL_len(G:FltM)(L:List (List Int))(j:Nat):(partL G L j).length=L.length:=by
 unfold partL;rw[zP,List.length_take,List.length_drop,extL_len];omega
theorem partL_zero(G:FltM)(L:List (List Int)):partL G L 0=L:=by unfold partL;simp
theorem partL_all(G:FltM)(L:List (List Int)):partL G L L.length=extL G L:=by
 unfold partL;rw[List.drop_length,List.append_nil,<-extL_len G L,List.take_length]
theorem partL_at{G:FltM}{L:List (List Int)}{j:Nat}(hj:j<L.length):(partL G L j)[j]?=L[j]?:=by
 have hl:((extL G L).take j).length=j:=by rw[List.length_take,extL_len];omega
 unfold partL;rw[List.getElem?_append_right (by omega),hl,Nat.sub_self,List.getElem?_drop,Nat.add_zero]
theorem partL_set{G:FltM}{L:List (List Int)}{j:Nat}{l:List Int}(h:L[j]?=some l):(partL G L j).set j (l++List.replicate (szN G j-l.length) (-1))=partL G L (j+1):=by
 have hj:=(zL.1 h).1;apply List.ext_getElem?;intro i
 have hl:((extL G L).take j).length=j:=by rw[List.length_take,extL_len];omega
 have hl1:((extL G L).take (j+1)).length=j+1:=by rw[List.length_take,extL_len];omega
 by_cases hi:j=i
 ·subst hi;rw[List.getElem?_set_self (by rw[partL_len];exact hj)];unfold partL;rw[List.getElem?_append_left (by omega),List.getElem?_take,if_pos (by omega),extL_at h]
 ·rw[List.getElem?_set_ne hi];unfold partL;rcases Nat.lt_or_ge i j with h1 | h1
  ·rw[List.getElem?_append_left (by omega),List.getElem?_append_left (by omega),List.getElem?_take,List.getElem?_take,if_pos h1,if_pos (by omega)]
  ·rw[List.getElem?_append_right (by omega),List.getElem?_append_right (by omega),hl,hl1,List.getElem?_drop,List.getElem?_drop]
   congr 1
   omega
theorem ext_ok{F G:FltM}{L:List (List Int)}(h:LayOk F F.vols.length L)(hv:F.vols.length=G.vols.length)(hd:F.dves.length=G.dves.length)(hs:∀v,v<F.vols.length->szN F v<=szN G v):LayOk G G.vols.length (extL G L):=by
 refine⟨by rw[extL_len,h.1,hv],fun v l hl=>?_⟩;have hvl:=(zL.1 hl).1;rw[extL_len] at hvl;obtain⟨m,hm⟩:∃m,L[v]?=some m:=⟨_,zG hvl⟩;rw[extL_at hm] at hl;injection hl with hl;subst hl;obtain⟨h1,h2⟩:=h.2 v m hm;have h3:=hs v (by rw[<-h.1];exact hvl);refine⟨by rw[zP,List.length_replicate];omega,fun x hx=>?_⟩;rcases List.mem_append.1 hx with hx | hx
 ·have:=h2 x hx;omega
 ·rw[List.eq_of_mem_replicate hx];omega
theorem lay_i64{F:FltM}{n:Nat}{L:List (List Int)}(h:LayOk F n L)(hd:F.dves.length<=9):∀l∈L,∀x∈l,I64 x:=fun l hl x hx=>by
 obtain⟨v,hv,rfl⟩:=List.mem_iff_getElem.1 hl;have:=(h.2 v _ (zG hv)).2 x hx;unfold I64;omega
theorem own_newL{w:World}{base:Nat}{e:TypeId}{size:Nat}{v:Value}{n:Nat}{xs:List Value}(h:w.ownsRow base e size v n xs)(h0:0<n):∃q c,v=.slice (some ⟨q,0,none⟩) n c/\base<=q:=by
 rcases h.2 with ⟨-,h3⟩ | ⟨g,cap,cur,e1,e2,-⟩
 ·omega
 ·exact⟨g,cap,e1,e2⟩
theorem set_hereL{α:Type}{es:List α}{k:Nat}{y:α}(h:es[k]?=some y):es.set k y=es:=by
 apply List.ext_getElem?;intro i;by_cases hi:k=i
 ·subst hi;rw[List.getElem?_set_self (zL.1 h).1,h]
 ·rw[List.getElem?_set_ne hi]
theorem info_intL:(Tryz.prog.info? 3).map (fun i=>(i.zero,i.size,i.bytes))=some (some (.int .i64 0),1,8):=by kernel_rfl
theorem pextend_any(N:Nat)(hN:N<=12)(vl vm vd vv vp vo ul um ud uv up uo vL:Value)(F G:FltM)(L:List (List Int))(w:World)(hf:FleetS w (Bl w.heap.size) vl vm vd vv vp vo F)(hok:FleetOk N F)(hg:FleetS w (Bl w.heap.size) ul um ud uv up uo G)(hgk:FleetOk N G)
  (hvo:F.vols.length=G.vols.length) (hdv:F.dves.length=G.dves.length) (hl:SlS 1 RowIK w (Bl w.heap.size) vL L) (hlo:LayOk F F.vols.length L) :
  Calls Tryz.prog 18 #[.agg #[.int .i64 F.ext,vl,vm,vd,vv,vp,vo],.agg #[.int .i64 G.ext,ul,um,ud,uv,up,uo],vL] w fun e w'=>Below w.heap.size w w' /\
   ((e=.returned (.tuple #[.slice none 0 0,.int .i64 1])/\∃v,v<F.vols.length/\szN G v<szN F v)\/(∃A n c,e=.returned (.tuple #[.slice A n c,.int .i64 0])/\SlS 1 RowIK w' (Bl w'.heap.size) (.slice A n c) (extL G L)/\∀v,v<F.vols.length->szN F v<=szN G v)):=by
 have HVF:=zh (fun(w':World) (hb:Below w.heap.size w w')=>fvalidate_any N hN _ _ _ _ _ _ F w' (hf.below hb) hok);have HVG:=zh (fun(w':World) (hb:Below w.heap.size w w')=>fvalidate_any N hN _ _ _ _ _ _ G w' (hg.below hb) hgk);have HSH:=zh (fun(w':World) (hb:Below w.heap.size w w')=>tshaped_any N hN _ _ _ _ _ _ vL F L w' (hf.below hb) hok (SlS.below rowIK hl hb) hlo)
 have HRW:=zh (fun(w':World) (hb:Below w.heap.size w w')=>prows_any vL L w' (SlS.below rowIK hl hb) (by rw[hlo.1];have:=hok.volN;omega) (fun l hm=>by
  obtain⟨v,hv,rfl⟩:=List.mem_iff_getElem.1 hm;have h1:=(hlo.2 v _ (zG hv)).1;have h2:=szN_range hok (v:=v) (by rw[<-hlo.1];exact hv)
  omega))
 have HFR:=zh (fun(v:Nat) (w':World) (hb:Below w.heap.size w w') (hv:v<F.vols.length)=>tfragments_any N hN _ _ _ _ _ _ G v w' (hg.below hb) hgk (by rw[<-hvo];exact hv));have HSF:=zh (fun(v:Nat) (hv:v<F.vols.length)=>And.intro (szN_range hok hv) (szN_range hgk (v:=v) (by rw[<-hvo];exact hv)));obtain⟨Al,nl,cl,rfl⟩:=hf.1.form3;obtain⟨Am,nm,cm,rfl⟩:=hf.2.1.form3;obtain⟨Ad,nd,cd,rfl⟩:=hf.2.2.1.form3;obtain⟨Av,cv,hvv,-⟩:=hf.2.2.2.1.form;subst hvv;obtain⟨Ap,np,cp,rfl⟩:=hf.2.2.2.2.1.form3;obtain⟨Ao,co,hvoo,-⟩:=hf.2.2.2.2.2.form;subst hvoo;obtain⟨Bl',ml,kl,rfl⟩:=hg.1.form3;obtain⟨Bm,mm,km,rfl⟩:=hg.2.1.form3;obtain⟨Bd,md,kd,rfl⟩:=hg.2.2.1.form3;obtain⟨Bv,kv,huv,-⟩:=hg.2.2.2.1.form;subst huv;obtain⟨Bp,mp,kp,rfl⟩:=hg.2.2.2.2.1.form3;obtain⟨Bo,ko,huo,-⟩:=hg.2.2.2.2.2.form;subst huo;obtain⟨AL,nL,cL,rfl⟩:=hl.form3;obtain⟨EX,hEX⟩:=zx F.ext;obtain⟨EG,hEG⟩:=zx G.ext;obtain⟨NV,hNV⟩:=zx F.dves.length;obtain⟨no,hNO⟩:=zx F.vols.length
 have hpos:0<no:=by rw[hNO];have:=hok.vol1;omega
 have hno:no<=12/\NV<=9:=by rw[hNO,hNV];have:=hok.volN;have:=hok.dveN;omega
 rw[<-hvo,<-hdv] at HVG HFR ⊢;rw[<-hEX,<-hNV,<-hNO] at HVF HSH;rw[<-hEG,<-hNV,<-hNO] at HVG HFR;rw[hlo.1,<-hNO] at HRW;rw[<-hNO] at HSF;rw[<-hEX,<-hEG,<-hNV,<-hNO];have HLO:=zh hlo;have HVO:=zh (show F.vols.length=G.vols.length/\F.dves.length=G.dves.length/\no=F.vols.length/\NV=F.dves.length from⟨hvo,hdv,hNO,hNV⟩)
 have b1:((no:Int) != (no:Int))=false:=by simp
 have b2:((NV:Int) != (NV:Int))=false:=by simp
 obtain⟨W1,hW1⟩:=zx ((w.alloc (.cells #[.int .i64 EX,.slice Al nl cl,.slice Am nm cm,.slice Ad nd cd,.slice Av NV cv,.slice Ap np cp,.slice Ao no co] 35)).alloc (.cells #[.int .i64 EG,.slice Bl' ml kl,.slice Bm mm km,.slice Bd md kd,.slice Bv NV kv,.slice Bp mp kp,.slice Bo no ko] 35));obtain⟨gA,hgA⟩:=zx w.heap.size;obtain⟨gB,hgB⟩:=zx (w.heap.size+1)
 have hb1:Below w.heap.size w W1:=by rw[hW1];exact((zB _ _).alloc (zR _) _).alloc (by simp) _
 have i1:W1.heap[gA]?=some (.cells #[.int .i64 EX,.slice Al nl cl,.slice Am nm cm,.slice Ad nd cd,.slice Av NV cv,.slice Ap np cp,.slice Ao no co] 35 (0,0)):=by rw[hW1,hgA];exact(zH _ _ _ (by simp)).trans (zN _ _)
 have i2:W1.heap[gB]?=some (.cells #[.int .i64 EG,.slice Bl' ml kl,.slice Bm mm km,.slice Bd md kd,.slice Bv NV kv,.slice Bp mp kp,.slice Bo no ko] 35 (0,0)):=by rw[hW1,hgB];exact heap_alloc_at _ _ _ (by simp)
 have l1:=(zA.1 i1).1;have l2:=(zA.1 i2).1;have HK:=zh (show ∀w',Below W1.heap.size W1 w'->(w'.heap[gA]?=some (.cells #[.int .i64 EX,.slice Al nl cl,.slice Am nm cm,.slice Ad nd cd,.slice Av NV cv,.slice Ap np cp,.slice Ao no co] 35 (0,0))/\w'.heap[gB]?=some (.cells #[.int .i64 EG,.slice Bl' ml kl,.slice Bm mm km,.slice Bd md kd,.slice Bv NV kv,.slice Bp mp kp,.slice Bo no ko] 35 (0,0))/\Below w.heap.size w w') from fun w' hb=>⟨(hb.block gA l1).trans i1,(hb.block gB l2).trans i2,hb1.trans (hb.mono hb1.size)⟩);have HW:=zh (And.intro hW1 (And.intro hgA hgB));have HNO:=zh hno;have HPOS:=zh hpos;clear hf hok hg hgk hvo hdv hl hlo hEX hEG hNV hNO hW1 hgA hgB hb1 i1 i2 l1 l2 hno hpos;go_enter Tryz.func18,Tryz.ntmps18;go_upto_region 1 with fail;rw[<-HW.out.1,<-HW.out.2.1,show gA+1=gB by (have:=HW.out;omega)];obtain⟨c0,c1,c2,c3,c4,c5,c6⟩:=cells7 (HK.out W1 (zB _ _)).1;go_wp2_with fail;refine(HVF.out W1 (HK.out W1 (zB _ _)).2.2).mono ?_;rintro e w2 ⟨rfl,hb2⟩;have HB2:=zh hb2;clear hb2 c0 c1 c2 c3 c4 c5 c6;obtain⟨d0,d1,d2,d3,d4,d5,d6⟩:=cells7 (HK.out w2 HB2.out).2.1;go_wp2_with fail;refine(HVG.out w2 (HK.out w2 HB2.out).2.2).mono ?_;rintro e w3 ⟨rfl,hb3⟩;have HB3:=zh (HB2.out.trans (hb3.mono HB2.out.size));clear hb3 d0 d1 d2 d3 d4 d5 d6;obtain⟨c0,c1,c2,c3,c4,c5,c6⟩:=cells7 (HK.out w3 HB3.out).1;obtain⟨d0,d1,d2,d3,d4,d5,d6⟩:=cells7 (HK.out w3 HB3.out).2.1;go_wp2_with fail;refine(HSH.out w3 (HK.out w3 HB3.out).2.2).mono ?_;rintro e w4 ⟨rfl,hb4⟩;have HB4:=zh (HB3.out.trans (hb4.mono HB3.out.size));clear hb4 c0 c1 c2 c3 c4 c5 c6 d0 d1 d2 d3 d4 d5 d6;go_wp2_with fail;refine(HRW.out w4 (HK.out w4 HB4.out).2.2).mono ?_;rintro e w5 ⟨gO,B,vs,rfl,hgO,hgr,hb5⟩;have HB5:=zh (HB4.out.trans (hb5.mono HB4.out.size));have hp0:=hgr;rw[<-partL_zero G L] at hp0;have HG5:=zh hp0;have HGO:=zh (show W1.heap.size<=gO/\gO<B/\w.heap.size<=gO from⟨Nat.le_trans HB4.out.size hgO,hgr.low,Nat.le_trans (HK.out w4 HB4.out).2.2.size hgO⟩)
 have hBz:B<=w5.heap.size:=by
  obtain⟨l,hl⟩:∃l,L[0]?=some l:=⟨_,zG (by rw[HLO.out.1,<-HVO.out.2.2.1];exact HPOS.out)⟩;obtain⟨v,-,ho⟩:=hgr.at_ hl;obtain⟨q,c,rfl,hq⟩:=own_newL ho (by have h1:=(HLO.out.2 0 l hl).1;have h2:=(HSF.out 0 HPOS.out).1;omega);have:=(ho.lt q rfl).2;omega
 have HBZ:=zh hBz;clear hb5 hp0 hgr hgO hBz b1 b2;go_wp2_with fail;go_loopg [47] no (fun z v47 wr=>∃(j:Nat) (vs:List Value),j<=no/\z=no-j/\v47=.int .i64 (j:Int)/\Hid (Below W1.heap.size W1 wr)/\Hid (B<=wr.heap.size/\GridA wr gO no B vs (partL G L j))/\Hid (∀k,k<j->szN F k<=szN G k))
 case atStart=>exact⟨0,vs,by omega,rfl,rfl,HB5,zh ⟨HBZ.out,HG5.out⟩,zh (fun k hk=>absurd hk (Nat.not_lt_zero _))⟩
 case round =>
  obtain⟨j,vs',hj,rfl,rfl,HB,HGR,HLE⟩:=hrel;obtain⟨W6,hW6⟩:=zx wr;rw[<-hW6] at HB HGR ⊢;clear hW6;by_cases hlt:j<no
  ·have hjl:j<L.length:=by rw[HLO.out.1,<-HVO.out.2.2.1];exact hlt
   obtain⟨l,hl⟩:∃l,L[j]?=some l:=⟨_,zG hjl⟩;obtain⟨d0,d1,d2,d3,d4,d5,d6⟩:=cells7 (HK.out W6 HB.out).2.1;have hsf:=HSF.out j hlt;have hll:=(HLO.out.2 j l hl).1;obtain⟨SG,hSG⟩:=zx (szN G j);obtain⟨NL,hNL⟩:=zx l.length;have HFG:=zh (HFR.out j W6 (HK.out W6 HB.out).2.2 hlt);rw[<-hSG] at HFG;have HLX:=zh (And.intro hl (And.intro hSG (And.intro hNL hll)));have HSZ:=zh (show NL<=6/\1<=NL/\SG<=6/\NL=szN F j from⟨by omega,by omega,by omega,by omega⟩);clear hl hsf hll hSG hNL hjl
   have lj:(j:Int)<(no:Int):=by omega
   have l12:(no:Int)<=12:=by have:=HNO.out.1;omega
   go_wp2_with fail;refine HFG.out.mono ?_;rintro e w7 ⟨rfl,hb7⟩;have HB7:=zh (HB.out.trans (hb7.mono HB.out.size));have hgr7:=HGR.out.2.below hb7;obtain⟨v,hv,ho⟩:=hgr7.at_ (k:=j) (l:=l) (by rw[partL_at (by have:=(zL.1 HLX.out.1).1;exact this)];exact HLX.out.1);obtain⟨A2,c2,rfl⟩:=own_form ho;rw[<-HLX.out.2.2.1] at hv;have e1:=(hgr7.cell hv).1;have HG7:=zh (show B<=w7.heap.size/\GridA w7 gO no B vs' (partL G L j) from⟨Nat.le_trans HGR.out.1 hb7.size,hgr7⟩);clear d0 d1 d2 d3 d4 d5 d6 hb7 hgr7 hv ho HFG;by_cases hsm:SG<NL
   ·have k1:((SG:Int)<(NL:Int)):=by omega
    go_wp2_with fail;exact bodyPost_ret (v:=.tuple #[.slice none 0 0,.int .i64 1]) (by simp[results,Tryz.results18]) rfl ⟨(HK.out w7 HB7.out).2.2,.inl ⟨rfl,j,hlt,by have h1:=HLX.out.2.1;have h2:=HSZ.out.2.2.2;omega⟩⟩
   ·have k1:decide (SG<NL)=false:=decide_eq_false hsm;have k4:decide ((SG:Int)<(NL:Int))=false:=decide_eq_false (by omega);obtain⟨KN,hK⟩:=zx (SG-NL)
    have k2:IntKind.i64.wrap ((SG:Int)-(NL:Int))=(KN:Int):=by rw[hK];rw[zI _ (by have:=HSZ.out;omega)];omega
    have k3:wrap64 ((SG:Int)-(NL:Int))=(KN:Int):=by rw[hK];rw[IntWalk.wrap64_in _ (by have:=HSZ.out;omega)];omega
    have hset0:(partL G L j).set j (l++List.replicate 0 (-1))=partL G L j:=by
     rw[List.replicate_zero,List.append_nil];exact set_hereL (by rw[partL_at (zL.1 HLX.out.1).1];exact HLX.out.1)
    have HKK:=zh (show KN=SG-NL/\NL+KN=SG/\KN<=6 from⟨hK,by omega,by have:=HSZ.out;omega⟩);have HS0:=zh hset0;clear hK hset0 hsm;go_wp2_with fail;clear e1 k1 k2 k3 k4;go_loopg [67] KN (fun z v67 wr=>∃(i:Nat) (vs:List Value),i<=KN/\z=KN-i/\v67=.int .i64 (i:Int)/\Hid (Below W1.heap.size W1 wr)/\Hid (B<=wr.heap.size/\GridA wr gO no B vs ((partL G L j).set j (l++List.replicate i (-1)))))
    case atStart=>exact⟨0,vs',by omega,rfl,rfl,HB7,zh (by rw[HS0.out];exact HG7.out)⟩
    case round =>
     obtain⟨i,ws,hi,rfl,rfl,HB,HGI⟩:=hrel;obtain⟨W8,hW8⟩:=zx wr;rw[<-hW8] at HB HGI ⊢;clear hW8;by_cases hlt2:i<KN
     ·obtain⟨v,hv,ho⟩:=HGI.out.2.at_ (k:=j) (l:=l++List.replicate i (-1)) (by rw[List.getElem?_set_self (by rw[partL_len];exact(zL.1 HLX.out.1).1)]);obtain⟨A3,c3,rfl⟩:=own_form ho;obtain⟨N3,hN3⟩:=zx ((l++List.replicate i (-1:Int)).length);rw[<-hN3] at hv ho;have e1:=(HGI.out.2.cell hv).1;have HV:=zh hv;have HO:=zh ho;have HN3:=zh (show N3=(l++List.replicate i (-1:Int)).length/\N3<=12 from⟨hN3,by rw[hN3,zP,List.length_replicate];have:=HLX.out;have:=HSZ.out;have:=HKK.out;omega⟩)
      have li:(i:Int)<(KN:Int):=by omega
      have lk:(KN:Int)<=6:=by have:=HKK.out;omega
      clear hv ho hN3;go_upto_region 12 with fail;refine wp_region_lit ?_;refine wpList_plain rfl (fun K hK=>?_);go_simp;refine hK _ _ ?_;clear hK;(try simp only[Act.put,z1,z2,z3]);refine wpList_plain rfl (fun K hK=>?_);go_simp;refine hK _ _ ?_;clear hK;(try simp only[Act.put,z1,z2,z3]);refine wpList_plain rfl (fun K hK=>?_);go_simp;refine hK _ _ ?_;clear hK;(try simp only[Act.put,z1,z2,z3]);refine wpList_plain rfl (fun K hK=>?_);go_simp;refine hK _ _ ?_;clear hK;(try simp only[Act.put,z1,z2,z3]);refine wpList_plain rfl (fun K hK=>?_);go_simp;refine hK _ _ ?_;clear hK;(try simp only[Act.put,z1,z2,z3]);refine wpList_plain rfl (fun K hK=>?_);go_simp;refine hK _ _ ?_;clear hK;(try simp only[Act.put,z1,z2,z3]);clear e1;refine wpList_plain rfl (fun K hK=>?_);go_simp;refine hK _ _ ?_;clear hK;(try simp only[Act.put,z1,z2,z3]);obtain⟨W9,hW9⟩:=zx (W8.alloc (.cells #[.int .i64 (-1)] 3))
      have hb9:Below W8.heap.size W8 W9:=by rw[hW9];exact(zB _ _).alloc (zR _) _
      have hs9:W9.heap.size=W8.heap.size+1:=by rw[hW9];simp
      have HW9:=zh hW9;have HB9:=zh hb9;have HS9:=zh hs9;clear hW9 hb9 hs9;refine app_lit [.int .i64 (-1)] 3 22 info_intL Tryz.underlying22 rfl (by omega) (by omega) rfl (fun u hu=>by rw[List.mem_singleton.1 hu];rfl) (.tmp 74) (.tmp 75) rfl rfl B (.slice A3 N3 c3) N3 ((l++List.replicate i (-1)).map (Value.int .i64)) (by rfl) HO.out (by rfl) (by have:=HN3.out.2;omega) HGI.out.1 ?_;intro v' w' ho' hg' hat'
      have hg9:W9.grownBy w' (Value.slice A3 N3 c3).ownBlock:=by rw[HW9.out];exact hg'
      have hgi9:=HGI.out.2.below HB9.out
      have hown:∀b,(Value.slice A3 N3 c3).ownBlock=some b->B<=b:=fun b hb=>(HO.out.lt b hb).1
      have hl2:(l++List.replicate (i+1) (-1:Int))=(l++List.replicate i (-1))++[-1]:=by rw[List.replicate_succ',List.append_assoc]
      have ho2:w'.ownsRow B 3 1 v' (l++List.replicate (i+1) (-1:Int)).length ((l++List.replicate (i+1) (-1:Int)).map (Value.int .i64)):=by
       rw[hl2,zP,<-HN3.out.1,List.map_append];exact ho'
      have happ:=hgi9.app (k:=j) (l':=l++List.replicate (i+1) (-1)) HV.out (by rw[List.getElem?_set_self (by rw[partL_len];exact(zL.1 HLX.out.1).1)]) hg9 ho2 (by rw[HS9.out];exact hat') hown;rw[List.set_set] at happ;obtain⟨A4,c4,rfl⟩:=own_form ho';have hgl:=hgi9.lt;have hlow:=hgi9.low;have hbk:w'.heap[gO]?=W9.heap[gO]?:=hg9.block gO hgl (fun e=>by have:=hown gO e.symm;omega);have x1:w'.cell? ⟨gO,j,none⟩=some (.slice A3 N3 c3):=(World.cell?_of_block (a:=⟨gO,j,none⟩) hbk).trans (hgi9.cell HV.out).1
      have z1:w'.frozen? ⟨gO,j,none⟩=false:=by
       obtain⟨cs,h1,-⟩:=hgi9.outer;exact frozen_of_row _ _ _ _ _ (hbk.trans h1)
      have hbw:Below W1.heap.size W1 w':=Below.grown (HB.out.trans (HB9.out.mono HB.out.size)) hg9 (Nat.le_trans HB.out.size HB9.out.size) (fun k hk=>by have:=hown k hk;have:=HGO.out;omega);have HB10:=zh (show Below W1.heap.size W1 (w'.setCell ⟨gO,j,none⟩ (.slice A4 (N3+1) c4)) from hbw.setCell (show W1.heap.size<=gO from HGO.out.1) _);have HG10:=zh (show B<=(w'.setCell ⟨gO,j,none⟩ (.slice A4 (N3+1) c4)).heap.size/\GridA (w'.setCell ⟨gO,j,none⟩ (.slice A4 (N3+1) c4)) gO no B (ws.set j (.slice A4 (N3+1) c4)) ((partL G L j).set j (l++List.replicate (i+1) (-1))) from⟨by simp;exact Nat.le_trans HGI.out.1 (Nat.le_trans HB9.out.size hg9.size),happ⟩);clear ho' hg' hat' hg9 hgi9 hown hl2 ho2 happ hgl hlow hbk hbw;(try simp only[Act.put,z1,z2,z3]);go_wp2_with fail;clear x1 z1;go_roundg (KN-(i+1))
      case measure=>omega
      case rel=>exact⟨i+1,_,by omega,rfl,by go_num,HB10,HG10⟩
     ·have hie:i=KN:=by omega
      have hset:(partL G L j).set j (l++List.replicate i (-1))=partL G L (j+1):=by
       rw[hie,HKK.out.1,HLX.out.2.1,HLX.out.2.2.1];exact partL_set HLX.out.1
      have HG9:=zh HGI.out;rw[hset] at HG9
      have HLE2:=zh (show ∀k,k<j+1->szN F k<=szN G k from fun k hk=>by
       rcases Nat.lt_or_ge k j with h | h
       ·exact HLE.out k h
       ·have:k=j:=by omega
        subst this
        have h1:=HLX.out.2.1;have h2:=HSZ.out.2.2.2;have h3:=HKK.out.2.1;omega)
      clear hset hie HLE HGI;go_wp2_with fail;go_roundg (no-(j+1))
      case measure=>omega
      case rel=>exact⟨j+1,ws,by omega,rfl,by go_num,HB,HG9,HLE2⟩
  ·have HJE:=zh (show j=no by omega);go_wp2_with fail;have hgr:=HGR.out.2;have hle:=HLE.out;rw[HJE.out] at hgr hle;rw[show no=L.length from by rw[HLO.out.1,HVO.out.2.2.1],partL_all,<-(show no=L.length from by rw[HLO.out.1,HVO.out.2.2.1])] at hgr;have hok2:=ext_ok HLO.out HVO.out.1 HVO.out.2.1 (by rw[<-HVO.out.2.2.1];exact hle);have hsl:=GridA.slS hgr (lay_i64 hok2 (by have:=HVO.out;have:=HNO.out.2;omega)) (R:=Bl W6.heap.size) (fun b _ hb=>hb);rw[extL_len,HLO.out.1,<-HVO.out.2.2.1] at hsl;exact bodyPost_ret (v:=.tuple #[.slice (some ⟨gO,0,none⟩) no no,.int .i64 0]) (by simp[results,Tryz.results18]) rfl ⟨(HK.out W6 HB.out).2.2,.inr ⟨_,_,_,rfl,hsl,hle⟩⟩

end Go.Proofs.YtgfaieppacabjaaGreat
