/- Small fractions of the program: Valid, lowest, Reduce, Make, walked. -/
import Derived.Test.YtgfaieppacabjaaGreatMy09
set_option linter.unusedSectionVars false
set_option maxRecDepth 100000
set_option maxHeartbeats 12800000
namespace Go.Proofs.YtgfaieppacabjaaGreat
open Go.RowKit
set_option linter.unusedVariables false
set_option linter.unusedSimpArgs false
theorem nbits_b(v:Value)(n:Nat)(R:Nat->Prop)(w:World)(h:LS w R v (natL n)) :
  Calls Tryz.prog 123 #[v] w fun e w'=>e=.returned (.int .i64 (bl n:Int))/\Below w.heap.size w w':=(nbits_any v n R w h).mono fun e w' ⟨h1,k,h2⟩=>⟨h1,by rw[h2];exact Below.drewN' (zB _ _) k⟩
theorem ncmp_b(va vb:Value)(n m:Nat)(R R':Nat->Prop)(w:World)(ha:LS w R va (natL n))(hb:LS w R' vb (natL m)) :
  Calls Tryz.prog 128 #[va,vb] w fun e w'=>e=.returned (.int .i64 (cmpI n m))/\Below w.heap.size w w':=(ncmp_any va vb n m R R' w ha hb).mono fun e w' ⟨h1,k,h2⟩=>⟨h1,by rw[h2];exact Below.drewN' (zB _ _) k⟩
theorem box3{w wf:World}{g:Nat}{a b c:Value}{T:TypeId}(hk:wf.heap[g]?=some (.cells #[a,b,c] T (0,0)))(hb:Below w.heap.size w wf)(hg:w.heap.size<=g)(v0 v1 v2:Value){l1 l2:List Nat}{R1 R2:Nat->Prop}
  (h1:LS wf R1 v1 l1) (hr1:∀b,R1 b->b≠g/\w.heap.size<=b/\b<wf.heap.size) (h2:LS wf R2 v2 l2) (hr2:∀b,R2 b->b≠g/\w.heap.size<=b/\b<wf.heap.size) :
  ∀Wf,Wf=((wf.setCell ⟨g,0,none⟩ v0).setCell ⟨g,1,none⟩ v1).setCell ⟨g,2,none⟩ v2->Wf.cell? ⟨g,0,none⟩=some v0/\Wf.cell? ⟨g,1,none⟩=some v1/\Wf.cell? ⟨g,2,none⟩=some v2 /\
   LS Wf (Fr w.heap.size Wf.heap.size) v1 l1/\LS Wf (Fr w.heap.size Wf.heap.size) v2 l2/\Below w.heap.size w Wf:=by
 rintro Wf rfl;have hfin:=store3 (x:=v0) (y:=v1) (z:=v2) hk;obtain⟨x0,x1,x2,-,-,-⟩:=cells3 hfin
 have hsz:wf.heap.size=(((wf.setCell ⟨g,0,none⟩ v0).setCell ⟨g,1,none⟩ v1).setCell ⟨g,2,none⟩ v2).heap.size:=by simp
 refine⟨x0,x1,x2,?_,?_,below_set3 hb hg _ _ _⟩
 ·rw[<-hsz];exact(h1.keep (kept_set3 wf g v0 v1 v2 R1 (fun b hb=>(hr1 b hb).1))).mono (fun b hb=>(hr1 b hb).2)
 ·rw[<-hsz];exact(h2.keep (kept_set3 wf g v0 v1 v2 R2 (fun b hb=>(hr2 b hb).1))).mono (fun b hb=>(hr2 b hb).2)
theorem LS.frm{w:World}{R:Nat->Prop}{v:Value}{l:List Nat}(h:LS w R v l):∃A n c,v=.slice A n c:=by
 obtain⟨A,c,e,-⟩:=h.form;exact⟨A,_,c,e⟩
theorem LS.bel{w w':World}{B:Nat}{v:Value}{l:List Nat}(h:LS w (Fr B w.heap.size) v l)(hb:Below w.heap.size w w'):LS w' (Fr B w'.heap.size) v l:=(h.keep (fun b hb'=>hb.block b hb'.2)).mono (Fr.wider (zR _) hb.size)
theorem fvalid_any(neg:Bool)(vn vd:Value)(n d:Nat)(w:World)(hn:LS w (Bl w.heap.size) vn (natL n))(hd:LS w (Bl w.heap.size) vd (natL d))(h0:0<d) :
  Calls Tryz.prog 70 #[.agg #[.bool neg,vn,vd]] w fun e w'=>e=.returned (.bool true)/\Below w.heap.size w w':=by
 obtain⟨An,Nn,cn,rfl⟩:=hn.frm;obtain⟨Ad,Nd,cd,rfl⟩:=hd.frm;obtain⟨W0,hW0⟩:=zx (w.alloc (.cells #[.bool neg,.slice An Nn cn,.slice Ad Nd cd] 26));obtain⟨q,hq⟩:=zx w.heap.size
 have hb0:Below w.heap.size w W0:=by rw[hW0];exact(zB _ _).alloc (zR _) _
 have hbk:W0.heap[q]?=some (.cells #[.bool neg,.slice An Nn cn,.slice Ad Nd cd] 26 (0,0)):=by rw[hW0,hq];exact zN _ _
 obtain⟨c0,c1,c2,-⟩:=cells3 hbk;have hql:q<W0.heap.size:=(zA.1 hbk).1;have HBD:=zh (nbits_b _ d _ W0 (hd.below hb0));have HN0:=zh (hn.below hb0);have n32:=bl_32 hn.lt32;have d32:=bl_32 hd.lt32;have dp:=bl_pos.2 h0;have HW0:=zh hW0;have HQ:=zh hq;have HB0:=zh hb0;have HQL:=zh hql;obtain⟨BD,hBD⟩:=zx (bl d);obtain⟨BN,hBN⟩:=zx (bl n);rw[<-hBD] at HBD d32 dp;rw[<-hBN] at n32;have HBN:=zh hBN;clear hn hd hW0 hq hb0 hbk hql hBD hBN;go_enter Tryz.func70,Tryz.ntmps70;go_wp2_with fail;rw[<-HW0.out,<-HQ.out];refine HBD.out.mono ?_;rintro e w1 ⟨rfl,hb1⟩;have k1:w1.cell? ⟨q,1,none⟩=some (.slice An Nn cn):=(hb1.cell (p:=⟨q,1,none⟩) HQL.out).trans c1;have HN1:=zh (nbits_b _ n _ w1 (HN0.out.below hb1));rw[<-HBN.out] at HN1;have HB1:=zh (HB0.out.trans (hb1.mono HB0.out.size))
 have q0:(0:Int)<(BD:Int):=by omega
 have q1:(BD:Int)<=4096:=by omega
 have q2:(BN:Int)<=4096:=by omega
 clear c0 c1 c2 hb1;go_wp2_with fail;refine HN1.out.mono ?_;rintro e w2 ⟨rfl,hb2⟩;have HB2:=zh (HB1.out.trans (hb2.mono HB1.out.size));clear hb2 k1;go_wp2_with fail;go_ret;exact⟨ret_bool (by simp[q1,q2]),HB2.out⟩
theorem fabove_any(neg:Bool)(vn vd:Value)(n d:Nat)(w:World)(hn:LS w (Bl w.heap.size) vn (natL n))(hd:LS w (Bl w.heap.size) vd (natL d)) :
  Calls Tryz.prog 90 #[.agg #[.bool neg,vn,vd]] w fun e w'=>e=.returned (.bool (decide (0<n)))/\Below w.heap.size w w':=by
 obtain⟨An,Nn,cn,rfl⟩:=hn.frm;obtain⟨Ad,Nd,cd,rfl⟩:=hd.frm;obtain⟨W0,hW0⟩:=zx (w.alloc (.cells #[.bool neg,.slice An Nn cn,.slice Ad Nd cd] 26))
 have hb0:Below w.heap.size w W0:=by rw[hW0];exact(zB _ _).alloc (zR _) _
 have HBD:=zh (nbits_b _ n _ W0 (hn.below hb0));have HW0:=zh hW0;have HB0:=zh hb0;clear hn hd hW0 hb0;go_enter Tryz.func90,Tryz.ntmps90;go_wp2_with fail;rw[<-HW0.out];refine HBD.out.mono ?_;rintro e w1 ⟨rfl,hb1⟩;have HB1:=zh (HB0.out.trans (hb1.mono HB0.out.size));clear hb1;go_wp2_with fail;go_ret;exact⟨ret_bool (decide_eq_decide.2 bl_pos),HB1.out⟩
theorem flowest_any(va vb:Value)(n m:Nat)(w:World)(ha:LS w (Bl w.heap.size) va (natL n))(hb:LS w (Bl w.heap.size) vb (natL m))(hm:0<m)(hg:Nat.gcd n m=1) :
  Calls Tryz.prog 71 #[.bool false,va,vb] w fun e w'=>∃un um,e=.returned (.tuple #[.agg #[.bool false,un,um],.int .i64 0])/\LS w' (Fr w.heap.size w'.heap.size) un (natL n)/\LS w' (Fr w.heap.size w'.heap.size) um (natL m)/\Below w.heap.size w w':=by
 obtain⟨W0,hW0⟩:=zx (w.alloc (.cells #[.bool false,.slice none 0 0,.slice none 0 0] 26));obtain⟨g,hgq⟩:=zx w.heap.size
 have hb0:Below w.heap.size w W0:=by rw[hW0];exact(zB _ _).alloc (zR _) _
 have hbk:W0.heap[g]?=some (.cells #[.bool false,.slice none 0 0,.slice none 0 0] 26 (0,0)):=by rw[hW0,hgq];exact zN _ _
 have hgl:g<W0.heap.size:=(zA.1 hbk).1;have HG:=zh (ngcd_any va vb n m W0 (ha.below hb0) (hb.below hb0));rw[hg] at HG;have n32:=ha.lt32;have m32:=hb.lt32;have bn:=bl_32 n32;have bm:=bl_32 m32;have HA0:=zh (ha.below hb0);have HBV:=zh (hb.below hb0);have HW0:=zh hW0;have HGQ:=zh hgq;have HB0:=zh hb0;have HBK:=zh hbk;have HGL:=zh hgl;have HN32:=zh n32;have HM32:=zh m32;clear ha hb hW0 hgq hb0 hbk hgl hg n32 m32;go_enter Tryz.func71,Tryz.ntmps71;go_wp2_with fail;rw[<-HW0.out,<-HGQ.out];refine HG.out.mono ?_;rintro e w1 ⟨vg,rfl,hvg,hb1⟩;have HBB:=zh (nbits_b _ 1 _ w1 hvg);rw[bl_one] at HBB;obtain⟨Ag,Ng,cg,rfl⟩:=hvg.frm;have HA1:=zh (HA0.out.below hb1);have HV1:=zh (HBV.out.below hb1);have HB1:=zh hb1;clear hvg hb1;go_wp2_with fail;refine HBB.out.mono ?_;rintro e w2 ⟨rfl,hb2⟩;have HA2:=zh (HA1.out.below hb2);have HV2:=zh (HV1.out.below hb2);have HB2:=zh (HB1.out.trans (hb2.mono HB1.out.size));clear hb2
 have q0:¬((1:Int)<((1:Nat):Int)):=by omega
 go_wp2_with fail;refine(nbits_b _ n _ w2 HA2.out).mono ?_;rintro e w3 ⟨rfl,hb3⟩;have HA3:=zh (HA2.out.below hb3);have HV3:=zh (HV2.out.below hb3);have HB3:=zh (HB2.out.trans (hb3.mono HB2.out.size));clear hb3
 have q1:¬((4096:Int)<(bl n:Int)):=by omega
 go_wp2_with fail;refine(nbits_b _ m _ w3 HV3.out).mono ?_;rintro e w4 ⟨rfl,hb4⟩;have HA4:=zh (HA3.out.below hb4);have HV4:=zh (HV3.out.below hb4);have HB4:=zh (HB3.out.trans (hb4.mono HB3.out.size));clear hb4
 have q2:¬((4096:Int)<(bl m:Int)):=by omega
 obtain⟨bN,hbN⟩:=zx (bl n);obtain⟨bM,hbM⟩:=zx (bl m);rw[<-hbN] at q1 bn ⊢;rw[<-hbM] at q2 bm ⊢;clear hbN hbM;go_wp2_with fail;refine(ntrim_any va _ _ _ HA4.out (fun b h=>h) (by have:=natL_length n;omega)).mono ?_;rintro e w5 ⟨un,rfl,hun,hb5⟩;rw[trim_natL] at hun;have HU5:=zh ((hun.ls (natL_mem HN32.out)).mono (Fr.wider HB4.out.size (zR _)));have HV5:=zh (HV4.out.below hb5);have HB5:=zh (HB4.out.trans (hb5.mono HB4.out.size));obtain⟨An,Nn,cn,rfl⟩:∃A n c,un=.slice A n c:=HU5.out.frm;clear hun hb5;go_wp2_with fail;refine(ntrim_any vb _ _ _ HV5.out (fun b h=>h) (by have:=natL_length m;omega)).mono ?_;rintro e w6 ⟨um,rfl,hum,hb6⟩;rw[trim_natL] at hum;have HM6:=zh ((hum.ls (natL_mem HM32.out)).mono (Fr.wider HB5.out.size (zR _)));have HU6:=zh (HU5.out.bel hb6);have HB6:=zh (HB5.out.trans (hb6.mono HB5.out.size));obtain⟨Am,Nm,cm,rfl⟩:∃A n c,um=.slice A n c:=HM6.out.frm;clear hum hb6;have hk:=(HB6.out.block g HGL.out).trans HBK.out;obtain⟨k0,k1,k2,f0,f1,f2⟩:=cells3 hk;have hbw:=HB0.out.trans (HB6.out.mono HB0.out.size)
 have hgw:w.heap.size<=g:=by rw[HGQ.out];exact zR _
 have hs0:=HB0.out.size;have HX:=zh (box3 hk hbw hgw (.bool false) (.slice An Nn cn) (.slice Am Nm cm) HU6.out (fun b hb=>⟨by have:=hb.1;have:=HGL.out;omega,by have:=hb.1;omega,hb.2⟩) HM6.out (fun b hb=>⟨by have:=hb.1;have:=HGL.out;omega,by have:=hb.1;omega,hb.2⟩));clear hk hbw hgw hs0;go_wp2_with fail;obtain⟨Wf,hWf⟩:=zx (((w6.setCell ⟨g,0,none⟩ (.bool false)).setCell ⟨g,1,none⟩ (.slice An Nn cn)).setCell ⟨g,2,none⟩ (.slice Am Nm cm));obtain⟨x0,x1,x2,hl1,hl2,hbf⟩:=HX.out Wf hWf;rw[<-hWf];clear hWf k0 k1 k2 f0 f1 f2;exact bodyPost_ret (v:=.tuple #[.agg #[.bool false,.slice An Nn cn,.slice Am Nm cm],.int .i64 0]) (by simp[results,Tryz.results71,go_sem,x0,x1,x2]) rfl ⟨_,_,rfl,hl1,hl2,hbf⟩
open Go.RowKit Go.Shelf
theorem info_lawK:(Tryz.prog.info? 96).map (fun i=>(i.zero,i.size,i.bytes))=some (some (.agg #[.string ⟨#[]⟩,.slice none 0 0,.slice none 0 0,.slice none 0 0]),4,88):=by kernel_rfl
theorem info_modK:(Tryz.prog.info? 98).map (fun i=>(i.zero,i.size,i.bytes))=some (some (.agg #[.string ⟨#[]⟩,.int .i64 0,.int .i64 0,.int .i64 0]),4,40):=by kernel_rfl
theorem info_intK:(Tryz.prog.info? 3).map (fun i=>(i.zero,i.size,i.bytes))=some (some (.int .i64 0),1,8):=by kernel_rfl
def cllawRen:Go.Shelf.Ren:=⟨fun | 41=>74 | n=>n,fun | 4=>4 | 22=>28 | 23=>96 | n=>n,fun n=>n⟩
theorem cllawLays:Go.Proofs.SlLaysE0.n41 Tryz.prog cllawRen:={
 mixed:=by kernel_rfl
 f41 := ⟨"slices.Clone[[]drydock/api.Law,drydock/api.Law]", of_decide_eq_true (by kernel_rfl), Tryz.func74.trans (congrArg some (by kernel_rfl))⟩
 t4:=Tryz.underlying4
 a4:=Tryz.isAgg4
 z4:=Tryz.sizeOf4
 v4:=Tryz.zeroValue4
 t22:=Tryz.underlying28
 a22:=Tryz.isAgg28
 z22:=Tryz.sizeOf28
 v22:=Tryz.zeroValue28 }
def clmodRen:Go.Shelf.Ren:=⟨fun | 41=>76 | n=>n,fun | 4=>4 | 22=>29 | 23=>98 | n=>n,fun n=>n⟩
theorem clmodLays:Go.Proofs.SlLaysE0.n41 Tryz.prog clmodRen:={
 mixed:=by kernel_rfl
 f41 := ⟨"slices.Clone[[]drydock/api.Model,drydock/api.Model]", of_decide_eq_true (by kernel_rfl), Tryz.func76.trans (congrArg some (by kernel_rfl))⟩
 t4:=Tryz.underlying4
 a4:=Tryz.isAgg4
 z4:=Tryz.sizeOf4
 v4:=Tryz.zeroValue4
 t22:=Tryz.underlying29
 a22:=Tryz.isAgg29
 z22:=Tryz.sizeOf29
 v22:=Tryz.zeroValue29 }
def cldveRen:Go.Shelf.Ren:=⟨fun | 41=>77 | n=>n,fun | 4=>4 | 22=>31 | 23=>102 | n=>n,fun n=>n⟩
theorem cldveLays:Go.Proofs.SlLaysE0.n41 Tryz.prog cldveRen:={
 mixed:=by kernel_rfl
 f41 := ⟨"slices.Clone[[]drydock/api.Drive,drydock/api.Drive]", of_decide_eq_true (by kernel_rfl), Tryz.func77.trans (congrArg some (by kernel_rfl))⟩
 t4:=Tryz.underlying4
 a4:=Tryz.isAgg4
 z4:=Tryz.sizeOf4
 v4:=Tryz.zeroValue4
 t22:=Tryz.underlying31
 a22:=Tryz.isAgg31
 z22:=Tryz.sizeOf31
 v22:=Tryz.zeroValue31 }
def clvolRen:Go.Shelf.Ren:=⟨fun | 41=>78 | n=>n,fun | 4=>4 | 22=>33 | 23=>106 | n=>n,fun n=>n⟩
theorem clvolLays:Go.Proofs.SlLaysE0.n41 Tryz.prog clvolRen:={
 mixed:=by kernel_rfl
 f41 := ⟨"slices.Clone[[]drydock/api.Volume,drydock/api.Volume]", of_decide_eq_true (by kernel_rfl), Tryz.func78.trans (congrArg some (by kernel_rfl))⟩
 t4:=Tryz.underlying4
 a4:=Tryz.isAgg4
 z4:=Tryz.sizeOf4
 v4:=Tryz.zeroValue4
 t22:=Tryz.underlying33
 a22:=Tryz.isAgg33
 z22:=Tryz.sizeOf33
 v22:=Tryz.zeroValue33 }
def cldomRen:Go.Shelf.Ren:=⟨fun | 41=>79 | n=>n,fun | 4=>4 | 22=>30 | 23=>100 | n=>n,fun n=>n⟩
theorem cldomLays:Go.Proofs.SlLaysE0.n41 Tryz.prog cldomRen:={
 mixed:=by kernel_rfl
 f41 := ⟨"slices.Clone[[]drydock/api.Domain,drydock/api.Domain]", of_decide_eq_true (by kernel_rfl), Tryz.func79.trans (congrArg some (by kernel_rfl))⟩
 t4:=Tryz.underlying4
 a4:=Tryz.isAgg4
 z4:=Tryz.sizeOf4
 v4:=Tryz.zeroValue4
 t22:=Tryz.underlying30
 a22:=Tryz.isAgg30
 z22:=Tryz.sizeOf30
 v22:=Tryz.zeroValue30 }
def clpolRen:Go.Shelf.Ren:=⟨fun | 41=>80 | n=>n,fun | 4=>4 | 22=>32 | 23=>55 | n=>n,fun n=>n⟩
theorem clpolLays:Go.Proofs.SlLaysE0.n41 Tryz.prog clpolRen:={
 mixed:=by kernel_rfl
 f41 := ⟨"slices.Clone[[]drydock/api.Policy,drydock/api.Policy]", of_decide_eq_true (by kernel_rfl), Tryz.func80.trans (congrArg some (by kernel_rfl))⟩
 t4:=Tryz.underlying4
 a4:=Tryz.isAgg4
 z4:=Tryz.sizeOf4
 v4:=Tryz.zeroValue4
 t22:=Tryz.underlying32
 a22:=Tryz.isAgg32
 z22:=Tryz.sizeOf32
 v22:=Tryz.zeroValue32 }
def clintRen:Go.Shelf.Ren:=⟨fun | 41=>81 | n=>n,fun | 4=>4 | 22=>22 | 23=>3 | n=>n,fun n=>n⟩
theorem clintLays:Go.Proofs.SlLaysE0.n41 Tryz.prog clintRen:={
 mixed:=by kernel_rfl
 f41 := ⟨"slices.Clone[[]int,int]", of_decide_eq_true (by kernel_rfl), Tryz.func81.trans (congrArg some (by kernel_rfl))⟩
 t4:=Tryz.underlying4
 a4:=Tryz.isAgg4
 z4:=Tryz.sizeOf4
 v4:=Tryz.zeroValue4
 t22:=Tryz.underlying22
 a22:=Tryz.isAgg22
 z22:=Tryz.sizeOf22
 v22:=Tryz.zeroValue22 }
def clnatRen:Go.Shelf.Ren:=⟨fun | 41=>82 | n=>n,fun | 4=>4 | 22=>24 | 23=>107 | n=>n,fun n=>n⟩
theorem clnatLays:Go.Proofs.SlLaysE0.n41 Tryz.prog clnatRen:={
 mixed:=by kernel_rfl
 f41 := ⟨"slices.Clone[drydock/api.Nat,uint32]", of_decide_eq_true (by kernel_rfl), Tryz.func82.trans (congrArg some (by kernel_rfl))⟩
 t4:=Tryz.underlying4
 a4:=Tryz.isAgg4
 z4:=Tryz.sizeOf4
 v4:=Tryz.zeroValue4
 t22:=Tryz.underlying24
 a22:=Tryz.isAgg24
 z22:=Tryz.sizeOf24
 v22:=Tryz.zeroValue24 }
theorem clone_law(v:Value)(es:List LawM)(w:World)(R:Nat->Prop)(h:SlS 4 LawK w R v es)(hR:∀b,R b->b<w.heap.size)(h0:0<es.length)(hl:es.length<=100000) :
  Calls Tryz.prog 74 #[v] w fun e w'=>∃v',e=.returned v'/\OwnK 4 LawK w' w.heap.size 96 v' es R/\Below w.heap.size w w':=by
 obtain⟨i0,hi,hz0,hz1,hz2⟩:=info_parts (info_lawK);exact clone_sl lawK one_law cllawLays i0 _ _ hi hz0 hz1 hz2 rfl (by omega) Tryz.sizeOf96 v es w R h hR h0 hl (by omega)
theorem clone_mod(v:Value)(es:List ModM)(w:World)(R:Nat->Prop)(h:SlS 4 ModK w R v es)(hR:∀b,R b->b<w.heap.size)(h0:0<es.length)(hl:es.length<=100000) :
  Calls Tryz.prog 76 #[v] w fun e w'=>∃v',e=.returned v'/\OwnK 4 ModK w' w.heap.size 98 v' es R/\Below w.heap.size w w':=by
 obtain⟨i0,hi,hz0,hz1,hz2⟩:=info_parts (info_modK);exact clone_sl modK one_mod clmodLays i0 _ _ hi hz0 hz1 hz2 rfl (by omega) Tryz.sizeOf98 v es w R h hR h0 hl (by omega)
theorem clone_dve(v:Value)(es:List DveM)(w:World)(R:Nat->Prop)(h:SlS 3 DveK w R v es)(hR:∀b,R b->b<w.heap.size)(h0:0<es.length)(hl:es.length<=100000) :
  Calls Tryz.prog 77 #[v] w fun e w'=>∃v',e=.returned v'/\OwnK 3 DveK w' w.heap.size 102 v' es R/\Below w.heap.size w w':=by
 obtain⟨i0,hi,hz0,hz1,hz2⟩:=info_parts (info_dve);exact clone_sl dveK one_dve cldveLays i0 _ _ hi hz0 hz1 hz2 rfl (by omega) Tryz.sizeOf102 v es w R h hR h0 hl (by omega)
theorem clone_vol(v:Value)(es:List VolM)(w:World)(R:Nat->Prop)(h:SlS 2 VolK w R v es)(hR:∀b,R b->b<w.heap.size)(h0:0<es.length)(hl:es.length<=100000) :
  Calls Tryz.prog 78 #[v] w fun e w'=>∃v',e=.returned v'/\OwnK 2 VolK w' w.heap.size 106 v' es R/\Below w.heap.size w w':=by
 obtain⟨i0,hi,hz0,hz1,hz2⟩:=info_parts (info_vol);exact clone_sl volK one_vol clvolLays i0 _ _ hi hz0 hz1 hz2 rfl (by omega) Tryz.sizeOf106 v es w R h hR h0 hl (by omega)
theorem clone_dom(v:Value)(es:List DomM)(w:World)(R:Nat->Prop)(h:SlS 7 DomK w R v es)(hR:∀b,R b->b<w.heap.size)(h0:0<es.length)(hl:es.length<=100000) :
  Calls Tryz.prog 79 #[v] w fun e w'=>∃v',e=.returned v'/\OwnK 7 DomK w' w.heap.size 100 v' es R/\Below w.heap.size w w':=by
 obtain⟨i0,hi,hz0,hz1,hz2⟩:=info_parts (info_dom);exact clone_sl domK one_dom cldomLays i0 _ _ hi hz0 hz1 hz2 rfl (by omega) Tryz.sizeOf100 v es w R h hR h0 hl (by omega)
theorem clone_pol(v:Value)(es:List PolM)(w:World)(R:Nat->Prop)(h:SlS 17 PolK w R v es)(hR:∀b,R b->b<w.heap.size)(h0:0<es.length)(hl:es.length<=100000) :
  Calls Tryz.prog 80 #[v] w fun e w'=>∃v',e=.returned v'/\OwnK 17 PolK w' w.heap.size 55 v' es R/\Below w.heap.size w w':=by
 obtain⟨i0,hi,hz0,hz1,hz2⟩:=info_parts (info_pol);exact clone_sl polK one_pol clpolLays i0 _ _ hi hz0 hz1 hz2 rfl (by omega) Tryz.sizeOf55 v es w R h hR h0 hl (by omega)
theorem clone_int(v:Value)(l:List Int)(w:World)(R:Nat->Prop)(h:IntS w R v l)(h0:0<l.length)(hl:l.length<=100000) :
  Calls Tryz.prog 81 #[v] w fun e w'=>∃v',e=.returned v'/\w'.ownsRow w.heap.size 3 1 v' l.length (l.map (Value.int .i64))/\Below w.heap.size w w':=by
 obtain⟨i0,hi,hz0,hz1,hz2⟩:=info_parts info_intK;exact ints_clone clintLays i0 hi hz0 hz1 hz2 Tryz.sizeOf3 v l w R h h0 hl
theorem clone_nat(v:Value)(l:List Nat)(w:World)(R:Nat->Prop)(h:LS w R v l)(hl:l.length<=100000) :
  Calls Tryz.prog 82 #[v] w fun e w'=>∃v',e=.returned v'/\LS w' (Fr w.heap.size w'.heap.size) v' l/\Below w.heap.size w w':=by
 obtain⟨i0,hi,hz0,hz1,hz2⟩:=info_parts info_u32;exact ls_clone clnatLays rfl i0 hi hz0 hz1 hz2 Tryz.sizeOf107 v l w R h hl
def HeldQ(W0:World)(q:Nat)(x0 x1 x2:Value)(w':World):Prop:=w'.cell? ⟨q,0,none⟩=some x0/\w'.cell? ⟨q,1,none⟩=some x1/\w'.cell? ⟨q,2,none⟩=some x2/\w'.frozen? ⟨q,1,none⟩=false/\w'.frozen? ⟨q,2,none⟩=false/\Below W0.heap.size W0 w'
theorem HeldQ.bl{W0 w':World}{q:Nat}{x0 x1 x2:Value}(h:HeldQ W0 q x0 x1 x2 w'):Below W0.heap.size W0 w':=h.2.2.2.2.2
theorem HeldQ.below{W0 wc w2:World}{q:Nat}{x0 x1 x2:Value}(h:HeldQ W0 q x0 x1 x2 wc)(hb:Below wc.heap.size wc w2)(hq:q<W0.heap.size):HeldQ W0 q x0 x1 x2 w2:=by
 obtain⟨d0,d1,d2,f1,f2,hB⟩:=h;have hs:=hB.size
 have m:∀i,w2.cell? ⟨q,i,none⟩=wc.cell? ⟨q,i,none⟩:=fun i=>hb.cell (p:=⟨q,i,none⟩) (zM hq hs)
 have m':∀i,w2.frozen? ⟨q,i,none⟩=wc.frozen? ⟨q,i,none⟩:=fun i=>hb.frozen (p:=⟨q,i,none⟩) (zM hq hs)
 exact⟨(m _).trans d0,(m _).trans d1,(m _).trans d2,(m' _).trans f1,(m' _).trans f2,hB.trans (hb.mono hs)⟩
theorem pfrac_any(neg:Bool)(vn vd:Value)(ln ld:List Nat)(w:World)(hn:LS w (Bl w.heap.size) vn ln)(hd:LS w (Bl w.heap.size) vd ld)(h1:ln.length<=100000)(h2:ld.length<=100000) :
  Calls Tryz.prog 34 #[.agg #[.bool neg,vn,vd]] w fun e w'=>∃un ud,e=.returned (.agg #[.bool neg,un,ud])/\LS w' (Fr w.heap.size w'.heap.size) un ln/\LS w' (Fr w.heap.size w'.heap.size) ud ld/\Below w.heap.size w w':=by
 obtain⟨An,Nn,cn,rfl⟩:=hn.frm;obtain⟨Ad,Nd,cd,rfl⟩:=hd.frm;obtain⟨x1,hx1⟩:=zx (Value.slice An Nn cn);obtain⟨x2,hx2⟩:=zx (Value.slice Ad Nd cd);obtain⟨W0,hW0⟩:=zx ((w.alloc (.cells #[.bool neg,.slice An Nn cn,.slice Ad Nd cd] 26)).alloc (.cells #[.bool false,.slice none 0 0,.slice none 0 0] 26));obtain⟨q,hq⟩:=zx w.heap.size;obtain⟨g,hgq⟩:=zx (w.heap.size+1)
 have hb0:Below w.heap.size w W0:=by rw[hW0];exact((zB _ _).alloc (zR _) _).alloc (by simp) _
 have hbk:W0.heap[g]?=some (.cells #[.bool false,.slice none 0 0,.slice none 0 0] 26 (0,0)):=by
  rw[hW0];exact heap_alloc_at _ _ _ (by rw[hgq];simp)
 have hqk:W0.heap[q]?=some (.cells #[.bool neg,.slice An Nn cn,.slice Ad Nd cd] 26 (0,0)):=by
  rw[hW0,hq];exact(zH _ _ _ (by simp)).trans (zN w _)
 have hgl:g<W0.heap.size:=(zA.1 hbk).1;have hql:q<W0.heap.size:=(zA.1 hqk).1;obtain⟨c0,c1,c2,-,z1,z2⟩:=cells3 hqk;rw[<-hx1] at c1 hn;rw[<-hx2] at c2 hd;have HS0:=zh (show HeldQ W0 q (.bool neg) x1 x2 W0.drew from⟨c0,c1,c2,z1,z2,(zB _ _).drew⟩);have HC1:=zh (fun(w':World) (hb:Below W0.heap.size W0 w')=>clone_nat x1 ln w' _ ((hn.below hb0).below hb) h1);have HC2:=zh (fun(w':World) (hb:Below W0.heap.size W0 w')=>clone_nat x2 ld w' _ ((hd.below hb0).below hb) h2);have HQK:=zh hqk;have HBK:=zh hbk;have HW0:=zh hW0;have HGQ:=zh (show q=w.heap.size/\g=w.heap.size+1 from⟨hq,hgq⟩);have HB0:=zh hb0;have HGL:=zh hgl;have HQL:=zh hql;clear hn hd hW0 hq hgq hb0 hbk hqk hgl hql c0 c1 c2 z1 z2 hx1 hx2;go_enter Tryz.func34,Tryz.ntmps34;go_upto_region 1 with fail;rw[<-HW0.out,<-HGQ.out.2,<-HGQ.out.1];refine region_tail (S:=(fun w'=>w'.cell? ⟨q,0,none⟩=some (.bool neg)/\w'.cell? ⟨q,1,none⟩=some x1/\w'.cell? ⟨q,2,none⟩=some x2/\w'.frozen? ⟨q,1,none⟩=false/\w'.frozen? ⟨q,2,none⟩=false/\Below W0.heap.size W0 w')) [7,8,9] (by kernel_rfl) HS0.out (fun hHeld=>?_);refine tk 0 3 ?_;refine tk 1 4 ?_;refine tk 3 6 ?_;refine tk 4 7 ?_;refine readyT (rs:=[2]) (by kernel_rfl) (by simp) ?_;refine zC rfl (fun K hK=>?_) ?_
 ·go_simp;(go_at_call 82;refine(HC1.out _ (HeldQ.bl (by assumption))).mono ?_;rintro e w5 ⟨u5,rfl,hu5,hb5⟩);go_wp2_with fail;refine hK.out _ _ ?_ (fun hHeld=>?_)
  ·(first|exact HeldQ.below (by assumption) hb6 HQL.out|exact HeldQ.below (by assumption) hb5 HQL.out)
  clear hK K;(try simp only[Act.put,z1,z2,z3]);refine tk 6 9 ?_;refine readyT (rs:=[5]) (by kernel_rfl) (by simp) ?_;refine zC rfl (fun K hK=>?_) ?_
  ·go_simp;(go_at_call 82;refine(HC2.out _ (HeldQ.bl (by assumption))).mono ?_;rintro e w6 ⟨u6,rfl,hu6,hb6⟩);go_wp2_with fail;refine hK.out _ _ ?_ (fun hHeld=>?_)
   ·(first|exact HeldQ.below (by assumption) hb6 HQL.out|exact HeldQ.below (by assumption) hb5 HQL.out)
   clear hK K;(try simp only[Act.put,z1,z2,z3]);refine readyT (rs:=[7]) (by kernel_rfl) (by simp) ?_;refine zD rfl rfl (fun K hK=>?_) ?_
   ·have HU5:=zh (hu5.bel hb6);have HU6:=zh hu6;obtain⟨A1,N1,c1,rfl⟩:=hu5.frm;obtain⟨A2,N2,c2,rfl⟩:=hu6.frm;have HX:=zh (hHeld.2.2.2.2.2);obtain⟨d0,d1,d2,f1,f2,-⟩:=hHeld;clear hu5 hu6 hb5 hb6;go_simp;refine hK.out _ _ ?_;clear hK K;(try simp only[Act.put,z1,z2,z3]);refine readyT (rs:=[8]) (by kernel_rfl) (by simp) ?_;refine zD rfl rfl (fun K hK=>?_) ?_
    ·go_simp;refine hK.out _ _ ?_;clear hK K;(try simp only[Act.put,z1,z2,z3]);refine readyT (rs:=[9]) (by kernel_rfl) (by simp) ?_;refine zD rfl rfl (fun K hK=>?_) ?_
     ·go_simp;refine hK.out _ _ ?_;clear hK K;(try simp only[Act.put,z1,z2,z3]);refine doneT (by kernel_rfl) ?_ _;obtain⟨w7,hw7⟩:=zx ((w6.setCell ⟨q,1,none⟩ (.slice A1 N1 c1)).setCell ⟨q,2,none⟩ (.slice A2 N2 c2));rw[<-hw7]
      have hq7:w7.heap[q]?=some (.cells #[.bool neg,.slice A1 N1 c1,.slice A2 N2 c2] 26 (0,0)):=by rw[hw7];exact heap_setCell_same _ q 2 _ _ _ (heap_setCell_same w6 q 1 _ _ _ ((HX.out.block q HQL.out).trans HQK.out))
      have hqg:g≠q:=by have:=HGQ.out;omega
      have hg7:w7.heap[g]?=some (.cells #[.bool false,.slice none 0 0,.slice none 0 0] 26 (0,0)):=by rw[hw7,heap_setCell_other _ _ _ _ hqg,heap_setCell_other _ _ _ _ hqg];exact(HX.out.block g HGL.out).trans HBK.out
      have hs7:w7.heap.size=w6.heap.size:=by rw[hw7];simp
      have hkp:∀b,W0.heap.size<=b->w7.heap[b]?=w6.heap[b]?:=fun b hb=>by
       have:b≠q:=by have:=HQL.out;omega
       rw[hw7,heap_setCell_other _ _ _ _ this,heap_setCell_other _ _ _ _ this]
      have hsW:W0.heap.size<=w5.heap.size:=hHeld.2.2.2.2.2.size;have hu5:LS w7 (Fr W0.heap.size w7.heap.size) (.slice A1 N1 c1) ln:=(HU5.out.keep (fun b hb=>hkp b hb.1)).mono (fun b hb=>⟨hb.1,by rw[hs7];exact hb.2⟩);have hu6:LS w7 (Fr W0.heap.size w7.heap.size) (.slice A2 N2 c2) ld:=(HU6.out.keep (fun b hb=>hkp b (Nat.le_trans hsW hb.1))).mono (fun b hb=>⟨Nat.le_trans hsW hb.1,by rw[hs7];exact hb.2⟩)
      have hb7:Below w.heap.size w w7:=by rw[hw7];exact((HB0.out.trans (HX.out.mono HB0.out.size)).setCell (by show w.heap.size<=q;rw[HGQ.out.1];exact zR _) _).setCell (by show w.heap.size<=q;rw[HGQ.out.1];exact zR _) _
      have hgw:w.heap.size<=g:=by rw[HGQ.out.2];omega
      have hfr:∀b,Fr W0.heap.size w7.heap.size b->b≠g/\w.heap.size<=b/\b<w7.heap.size:=fun b hb=>⟨by have:=hb.1;have:=HGL.out;omega,Nat.le_trans HB0.out.size hb.1,hb.2⟩
      have HB3:=zh (box3 hg7 hb7 hgw (.bool neg) (.slice A1 N1 c1) (.slice A2 N2 c2) hu5 hfr hu6 hfr);obtain⟨y0,y1,y2,-⟩:=cells3 hq7;obtain⟨l0,l1,l2,f0,f3,f4⟩:=cells3 hg7;clear hHeld hq7 hg7 hs7 hkp hsW hu5 hu6 hb7 hgw hfr hw7 d0 d1 d2 f1 f2 hqg;go_wp2_with fail;obtain⟨Wf,hWf⟩:=zx (((w7.setCell ⟨g,0,none⟩ (.bool neg)).setCell ⟨g,1,none⟩ (.slice A1 N1 c1)).setCell ⟨g,2,none⟩ (.slice A2 N2 c2));obtain⟨x0,x1,x2,hl1,hl2,hbf⟩:=HB3.out Wf hWf;rw[<-hWf];clear hWf l0 l1 l2 f0 f3 f4;exact bodyPost_ret (v:=.agg #[.bool neg,.slice A1 N1 c1,.slice A2 N2 c2]) (by simp[results,Tryz.results34,go_sem,x0,x1,x2]) rfl ⟨_,_,rfl,hl1,hl2,hbf⟩
     exact zE
    exact zE
   exact zE
  exact zE
 exact zE
theorem freduce_any(va vb:Value)(n m:Nat)(w:World)(ha:LS w (Bl w.heap.size) va (natL n))(hb:LS w (Bl w.heap.size) vb (natL m))(hm:0<m)(hg:Nat.gcd n m=1) :
  Calls Tryz.prog 28 #[.agg #[.bool false,va,vb]] w fun e w'=>∃un um,e=.returned (.tuple #[.agg #[.bool false,un,um],.int .i64 0])/\LS w' (Fr w.heap.size w'.heap.size) un (natL n)/\LS w' (Fr w.heap.size w'.heap.size) um (natL m)/\Below w.heap.size w w':=by
 obtain⟨An,Nn,cn,rfl⟩:=ha.frm;obtain⟨Ad,Nd,cd,rfl⟩:=hb.frm;obtain⟨W0,hW0⟩:=zx ((w.alloc (.cells #[.bool false,.slice An Nn cn,.slice Ad Nd cd] 26)).alloc (.cells #[.bool false,.slice none 0 0,.slice none 0 0] 26));obtain⟨q,hq⟩:=zx w.heap.size;obtain⟨g,hgq⟩:=zx (w.heap.size+1)
 have hb0:Below w.heap.size w W0:=by rw[hW0];exact((zB _ _).alloc (zR _) _).alloc (by simp) _
 have hbk:W0.heap[g]?=some (.cells #[.bool false,.slice none 0 0,.slice none 0 0] 26 (0,0)):=by
  have h0:=zN (w.alloc (.cells #[.bool false,.slice An Nn cn,.slice Ad Nd cd] 26)) (.cells #[.bool false,.slice none 0 0,.slice none 0 0] 26);rw[show(w.alloc (.cells #[.bool false,.slice An Nn cn,.slice Ad Nd cd] 26)).heap.size=g by rw[hgq];simp] at h0;rw[hW0];exact h0
 have hqk:W0.heap[q]?=some (.cells #[.bool false,.slice An Nn cn,.slice Ad Nd cd] 26 (0,0)):=by
  rw[hW0,hq];exact(zH _ _ _ (by simp)).trans (zN w _)
 have hgl:g<W0.heap.size:=(zA.1 hbk).1;have hql:q<W0.heap.size:=(zA.1 hqk).1;obtain⟨c0,c1,c2,-⟩:=cells3 hqk;have HA0:=zh (ha.below hb0);have HBV:=zh (hb.below hb0);have HV:=zh (fvalid_any false _ _ n m W0 HA0.out HBV.out hm);have HW0:=zh hW0;have HGQ:=zh (show q=w.heap.size/\g=w.heap.size+1 from⟨hq,hgq⟩);have HB0:=zh hb0;have HBK:=zh hbk;have HGL:=zh hgl;have HQL:=zh hql;clear ha hb hW0 hb0 hbk hgl hql hqk hgq hq;go_enter Tryz.func28,Tryz.ntmps28;go_wp2_with fail;rw[<-HW0.out,<-HGQ.out.2,<-HGQ.out.1];refine HV.out.mono ?_;rintro e w1 ⟨rfl,hb1⟩;have k0:w1.cell? ⟨q,0,none⟩=some (.bool false):=(hb1.cell (p:=⟨q,0,none⟩) HQL.out).trans c0;have k1:w1.cell? ⟨q,1,none⟩=some (.slice An Nn cn):=(hb1.cell (p:=⟨q,1,none⟩) HQL.out).trans c1;have k2:w1.cell? ⟨q,2,none⟩=some (.slice Ad Nd cd):=(hb1.cell (p:=⟨q,2,none⟩) HQL.out).trans c2;have HL:=zh (flowest_any _ _ n m w1 (HA0.out.below hb1) (HBV.out.below hb1) hm hg);have HB1:=zh hb1;clear hb1 c0 c1 c2;go_wp2_with fail;refine HL.out.mono ?_;rintro e w2 ⟨un,um,rfl,hun,hum,hb2⟩;obtain⟨A1,N1,c1,rfl⟩:=hun.frm;obtain⟨A2,N2,c2,rfl⟩:=hum.frm;have hb12:=HB1.out.trans (hb2.mono HB1.out.size);have hk:=(hb12.block g HGL.out).trans HBK.out;obtain⟨l0,l1,l2,f0,f1,f2⟩:=cells3 hk;have hbw:=HB0.out.trans (hb12.mono HB0.out.size)
 have hgw:w.heap.size<=g:=by rw[HGQ.out.2];omega
 have hs0:=HB0.out.size;have hs1:=HB1.out.size;have HX:=zh (box3 hk hbw hgw (.bool false) (.slice A1 N1 c1) (.slice A2 N2 c2) hun (fun b hb=>⟨by have:=hb.1;have:=HGL.out;omega,by have:=hb.1;omega,hb.2⟩) hum (fun b hb=>⟨by have:=hb.1;have:=HGL.out;omega,by have:=hb.1;omega,hb.2⟩));clear hun hum hb2 hb12 hk hbw hgw hs0 hs1 k0 k1 k2;go_wp2_with fail;obtain⟨Wf,hWf⟩:=zx (((w2.setCell ⟨g,0,none⟩ (.bool false)).setCell ⟨g,1,none⟩ (.slice A1 N1 c1)).setCell ⟨g,2,none⟩ (.slice A2 N2 c2));obtain⟨x0,x1,x2,hl1,hl2,hbf⟩:=HX.out Wf hWf;rw[<-hWf];clear hWf l0 l1 l2 f0 f1 f2;exact bodyPost_ret (v:=.tuple #[.agg #[.bool false,.slice A1 N1 c1,.slice A2 N2 c2],.int .i64 0]) (by simp[results,Tryz.results28,go_sem,x0,x1,x2]) rfl ⟨_,_,rfl,hl1,hl2,hbf⟩
theorem flimits_any(va vb:Value)(n m:Nat)(w:World)(ha:LS w (Bl w.heap.size) va (natL n))(hb:LS w (Bl w.heap.size) vb (natL m))(hm:0<m)(hg:Nat.gcd n m=1) :
  Calls Tryz.prog 89 #[.agg #[.bool false,va,vb]] w fun e w'=>e=.returned (.bool true)/\Below w.heap.size w w':=by
 obtain⟨An,Nn,cn,rfl⟩:=ha.frm;obtain⟨Ad,Nd,cd,rfl⟩:=hb.frm;obtain⟨W0,hW0⟩:=zx (w.alloc (.cells #[.bool false,.slice An Nn cn,.slice Ad Nd cd] 26))
 have hb0:Below w.heap.size w W0:=by rw[hW0];exact(zB _ _).alloc (zR _) _
 have n32:=bl_32 ha.lt32;have m32:=bl_32 hb.lt32;have HR:=zh (freduce_any _ _ n m W0 (ha.below hb0) (hb.below hb0) hm hg);have HW0:=zh hW0;have HB0:=zh hb0;clear ha hb hW0 hb0;go_enter Tryz.func89,Tryz.ntmps89;go_wp2_with fail;rw[<-HW0.out];refine HR.out.mono ?_;rintro e w1 ⟨un,um,rfl,hun,hum,hb1⟩;obtain⟨A1,N1,c1,rfl⟩:=hun.frm;obtain⟨A2,N2,c2,rfl⟩:=hum.frm;obtain⟨W1,hW1⟩:=zx (w1.alloc (.cells #[.bool false,.slice A1 N1 c1,.slice A2 N2 c2] 26));obtain⟨g,hgq⟩:=zx w1.heap.size
 have hb2:Below w1.heap.size w1 W1:=by rw[hW1];exact(zB _ _).alloc (zR _) _
 have hbk:W1.heap[g]?=some (.cells #[.bool false,.slice A1 N1 c1,.slice A2 N2 c2] 26 (0,0)):=by rw[hW1,hgq];exact zN _ _
 have hgl:g<W1.heap.size:=(zA.1 hbk).1;obtain⟨k0,k1,k2,-⟩:=cells3 hbk;have HB1:=zh ((HB0.out.trans (hb1.mono HB0.out.size)).trans (hb2.mono (Nat.le_trans HB0.out.size hb1.size)));have HN:=zh (nbits_b _ n _ W1 ((hun.mono Fr.bl).below hb2));have HM:=zh ((hum.mono Fr.bl).below hb2);have HW1:=zh hW1;have HGQ:=zh hgq;have HGL:=zh hgl;obtain⟨BN,hBN⟩:=zx (bl n);obtain⟨BM,hBM⟩:=zx (bl m);rw[<-hBN] at HN n32;rw[<-hBM] at m32;have HBM:=zh hBM
 have q1:(BN:Int)<=32:=by omega
 have q2:(BM:Int)<=32:=by omega
 clear hun hum hb1 hb2 hW1 hgq hbk hgl hBN hBM;go_wp2_with fail;rw[<-HW1.out,<-HGQ.out];refine HN.out.mono ?_;rintro e w2 ⟨rfl,hb2⟩;have l2:w2.cell? ⟨g,2,none⟩=some (.slice A2 N2 c2):=(hb2.cell (p:=⟨g,2,none⟩) HGL.out).trans k2;have HM2:=zh (nbits_b _ m _ w2 (HM.out.below hb2));rw[<-HBM.out] at HM2;have HB2:=zh (HB1.out.trans (hb2.mono HB1.out.size));clear hb2 k0 k1 k2;go_wp2_with fail;refine HM2.out.mono ?_;rintro e w3 ⟨rfl,hb3⟩;have HB3:=zh (HB2.out.trans (hb3.mono HB2.out.size));clear hb3 l2;go_wp2_with fail;go_ret;exact⟨ret_bool (by simp[q1,q2]),HB3.out⟩
theorem fabs_any(n:Nat)(w:World)(hn:n<4294967296) :
  Calls Tryz.prog 72 #[.int .i64 (n:Int)] w fun e w'=>∃u,e=.returned u/\LS w' (Fr w.heap.size w'.heap.size) u (natL n)/\Below w.heap.size w w':=by
 have HM:=zh (nmake_any n w hn)
 have q0:¬((n:Int)<0):=by omega
 have q1:(n:Int)<4294967296:=by omega
 have q2:(0:Int)<=(n:Int):=by omega
 go_enter Tryz.func72,Tryz.ntmps72;go_wp2_with fail;refine HM.out.mono ?_;rintro e w1 ⟨u,rfl,hu,hb⟩;have HU:=zh hu;have HB:=zh hb;clear hu hb;go_wp2_with fail;go_ret;exact⟨_,rfl,HU.out,HB.out⟩
theorem fmake_any(n m:Nat)(w:World)(hn:n<4294967296)(hm32:m<4294967296)(hm:0<m)(hg:Nat.gcd n m=1) :
  Calls Tryz.prog 29 #[.int .i64 (n:Int),.int .i64 (m:Int)] w fun e w'=>∃un um,e=.returned (.tuple #[.agg #[.bool false,un,um],.int .i64 0])/\LS w' (Fr w.heap.size w'.heap.size) un (natL n)/\LS w' (Fr w.heap.size w'.heap.size) um (natL m)/\Below w.heap.size w w':=by
 obtain⟨W0,hW0⟩:=zx (w.alloc (.cells #[.bool false,.slice none 0 0,.slice none 0 0] 26));obtain⟨g,hgq⟩:=zx w.heap.size
 have hb0:Below w.heap.size w W0:=by rw[hW0];exact(zB _ _).alloc (zR _) _
 have hbk:W0.heap[g]?=some (.cells #[.bool false,.slice none 0 0,.slice none 0 0] 26 (0,0)):=by rw[hW0,hgq];exact zN _ _
 have hgl:g<W0.heap.size:=(zA.1 hbk).1;have HN:=zh (fabs_any n W0 hn);have HM:=zh (fun w=>fabs_any m w hm32);have HW0:=zh hW0;have HGQ:=zh hgq;have HB0:=zh hb0;have HBK:=zh hbk;have HGL:=zh hgl
 have q0:¬((n:Int)<0):=by omega
 have q1:¬((m:Int)<0):=by omega
 have q2:((m:Int)==0)=false:=by simp;omega
 clear hW0 hgq hb0 hbk hgl hn hm32;go_enter Tryz.func29,Tryz.ntmps29;go_wp2_with fail;rw[<-HW0.out,<-HGQ.out];refine HN.out.mono ?_;rintro e w1 ⟨u1,rfl,hu1,hb1⟩;have HU1:=zh hu1;have HB1:=zh hb1;obtain⟨A1,N1,c1,rfl⟩:=hu1.frm;clear hu1 hb1;go_wp2_with fail;refine(HM.out _).mono ?_;rintro e w2 ⟨u2,rfl,hu2,hb2⟩;have HU2:=zh hu2;have HU12:=zh (HU1.out.bel hb2);have HB2:=zh (HB1.out.trans (hb2.mono HB1.out.size));obtain⟨A2,N2,c2,rfl⟩:=hu2.frm;have HL:=zh (flowest_any _ _ n m w2 (HU12.out.mono Fr.bl) (HU2.out.mono Fr.bl) hm hg);clear hu2 hb2;go_wp2_with fail;refine HL.out.mono ?_;rintro e w3 ⟨un,um,rfl,hun,hum,hb3⟩;obtain⟨A3,N3,c3,rfl⟩:=hun.frm;obtain⟨A4,N4,c4,rfl⟩:=hum.frm;have hb13:=HB2.out.trans (hb3.mono HB2.out.size);have hk:=(hb13.block g HGL.out).trans HBK.out;obtain⟨l0,l1,l2,f0,f1,f2⟩:=cells3 hk;have hbw:=HB0.out.trans (hb13.mono HB0.out.size)
 have hgw:w.heap.size<=g:=by rw[HGQ.out];omega
 have hs0:=HB0.out.size;have hs1:=HB2.out.size;have HX:=zh (box3 hk hbw hgw (.bool false) (.slice A3 N3 c3) (.slice A4 N4 c4) hun (fun b hb=>⟨by have:=hb.1;have:=HGL.out;omega,by have:=hb.1;omega,hb.2⟩) hum (fun b hb=>⟨by have:=hb.1;have:=HGL.out;omega,by have:=hb.1;omega,hb.2⟩));clear hun hum hb3 hb13 hk hbw hgw hs0 hs1;go_wp2_with fail;obtain⟨Wf,hWf⟩:=zx (((w3.setCell ⟨g,0,none⟩ (.bool false)).setCell ⟨g,1,none⟩ (.slice A3 N3 c3)).setCell ⟨g,2,none⟩ (.slice A4 N4 c4));obtain⟨x0,x1,x2,hl1,hl2,hbf⟩:=HX.out Wf hWf;rw[<-hWf];clear hWf l0 l1 l2 f0 f1 f2;exact bodyPost_ret (v:=.tuple #[.agg #[.bool false,.slice A3 N3 c3,.slice A4 N4 c4],.int .i64 0]) (by simp[results,Tryz.results29,go_sem,x0,x1,x2]) rfl ⟨_,_,rfl,hl1,hl2,hbf⟩
def HeldF(W0:World)(q p:Nat)(x0 x1 x2 y0 y1 y2:Value)(w':World):Prop :=
 w'.cell? ⟨q,0,none⟩=some x0/\w'.cell? ⟨q,1,none⟩=some x1/\w'.cell? ⟨q,2,none⟩=some x2/\w'.cell? ⟨p,0,none⟩=some y0/\w'.cell? ⟨p,1,none⟩=some y1/\w'.cell? ⟨p,2,none⟩=some y2/\Below W0.heap.size W0 w'
theorem HeldF.below{W0 wc w2:World}{q p:Nat}{x0 x1 x2 y0 y1 y2:Value}(h:HeldF W0 q p x0 x1 x2 y0 y1 y2 wc)(hb:Below wc.heap.size wc w2)(hq:q<W0.heap.size)(hp:p<W0.heap.size):HeldF W0 q p x0 x1 x2 y0 y1 y2 w2:=by
 obtain⟨d0,d1,d2,e0,e1,e2,hB⟩:=h;have hs:=hB.size
 have m:∀i,w2.cell? ⟨q,i,none⟩=wc.cell? ⟨q,i,none⟩:=fun i=>hb.cell (p:=⟨q,i,none⟩) (zM hq hs)
 have m':∀i,w2.cell? ⟨p,i,none⟩=wc.cell? ⟨p,i,none⟩:=fun i=>hb.cell (p:=⟨p,i,none⟩) (zM hp hs)
 exact⟨(m _).trans d0,(m _).trans d1,(m _).trans d2,(m' _).trans e0,(m' _).trans e1,(m' _).trans e2,hB.trans (hb.mono hs)⟩
theorem HeldF.bl{W0 wc:World}{q p:Nat}{x0 x1 x2 y0 y1 y2:Value}(h:HeldF W0 q p x0 x1 x2 y0 y1 y2 wc):Below W0.heap.size W0 wc:=h.2.2.2.2.2.2
theorem HeldF.ls{W0 wc:World}{q p:Nat}{x0 x1 x2 y0 y1 y2 v:Value}{l:List Nat}(h:HeldF W0 q p x0 x1 x2 y0 y1 y2 wc)(hl:LS W0 (Bl W0.heap.size) v l):LS wc (Bl wc.heap.size) v l:=hl.below h.bl
theorem ftimes_any(va vb:Value)(n m:Nat)(w:World)(ha:LS w (Bl w.heap.size) va (natL n))(hb:LS w (Bl w.heap.size) vb (natL m))(hm:0<m)(hnm:n*m<4294967296) :
  Calls Tryz.prog 129 #[va,vb] w fun e w'=>∃u,e=.returned u/\LS w' (Fr w.heap.size w'.heap.size) u (natL (n*m))/\Below w.heap.size w w':=by
 have HM:=zh (nmul_any va vb n m w ha hb hm hnm);clear ha hb hnm;go_enter Tryz.func129,Tryz.ntmps129;go_wp2_with fail;refine HM.out.mono ?_;rintro e w1 ⟨u,rfl,hu,hb⟩;have HU:=zh hu;have HB:=zh hb;clear hu hb;go_wp2_with fail;go_ret;exact⟨_,rfl,HU.out,HB.out⟩
theorem fcmp_any(xn xd yn yd:Value)(a b c d:Nat)(w:World)(hxn:LS w (Bl w.heap.size) xn (natL a))(hxd:LS w (Bl w.heap.size) xd (natL b))(hyn:LS w (Bl w.heap.size) yn (natL c))(hyd:LS w (Bl w.heap.size) yd (natL d))(h0b:0<b)(h0d:0<d)(h1:a*d<4294967296)(h2:c*b<4294967296) :
  Calls Tryz.prog 73 #[.agg #[.bool false,xn,xd],.agg #[.bool false,yn,yd]] w fun e w'=>e=.returned (.tuple #[.int .i64 (cmpI (a*d) (c*b)),.int .i64 0])/\Below w.heap.size w w':=by
 obtain⟨An,Nn,cn,rfl⟩:=hxn.frm;obtain⟨Ad,Nd,cd,rfl⟩:=hxd.frm;obtain⟨Bn,Mn,dn,rfl⟩:=hyn.frm;obtain⟨Bd,Md,dd,rfl⟩:=hyd.frm;obtain⟨W0,hW0⟩:=zx ((w.alloc (.cells #[.bool false,.slice An Nn cn,.slice Ad Nd cd] 26)).alloc (.cells #[.bool false,.slice Bn Mn dn,.slice Bd Md dd] 26));obtain⟨q,hq⟩:=zx w.heap.size;obtain⟨p,hp⟩:=zx (w.heap.size+1)
 have hb0:Below w.heap.size w W0:=by rw[hW0];exact((zB _ _).alloc (zR _) _).alloc (by simp) _
 have hpk:W0.heap[p]?=some (.cells #[.bool false,.slice Bn Mn dn,.slice Bd Md dd] 26 (0,0)):=by
  rw[hW0];exact heap_alloc_at _ _ _ (by rw[hp];simp)
 have hqk:W0.heap[q]?=some (.cells #[.bool false,.slice An Nn cn,.slice Ad Nd cd] 26 (0,0)):=by
  rw[hW0,hq];exact(zH _ _ _ (by simp)).trans (zN w _)
 have hpl:p<W0.heap.size:=(zA.1 hpk).1;have hql:q<W0.heap.size:=(zA.1 hqk).1;obtain⟨c0,c1,c2,-⟩:=cells3 hqk;obtain⟨d0,d1,d2,-⟩:=cells3 hpk;obtain⟨x1,hx1⟩:=zx (Value.slice An Nn cn);obtain⟨x2,hx2⟩:=zx (Value.slice Ad Nd cd);obtain⟨y1,hy1⟩:=zx (Value.slice Bn Mn dn);obtain⟨y2,hy2⟩:=zx (Value.slice Bd Md dd);have H1:=zh (hxn.below hb0);have H2:=zh (hxd.below hb0);have H3:=zh (hyn.below hb0);have H4:=zh (hyd.below hb0);have HW0:=zh hW0;have HQ:=zh (show q=w.heap.size/\p=w.heap.size+1 from⟨hq,hp⟩);have HQP:=zh (show q<W0.heap.size/\p<W0.heap.size from⟨hql,hpl⟩);have HB0:=zh hb0;clear hW0 hq hp hb0 hpk hqk hpl hql hxn hxd hyn hyd;go_enter Tryz.func73,Tryz.ntmps73;go_wp2_with fail;rw[<-HW0.out,<-HQ.out.2,<-HQ.out.1];clear HW0 HQ;rw[<-hx1] at H1 c1 ⊢;rw[<-hx2] at H2 c2 ⊢;rw[<-hy1] at H3 d1 ⊢;rw[<-hy2] at H4 d2 ⊢;have HH0:=zh (show HeldF W0 q p (.bool false) x1 x2 (.bool false) y1 y2 W0 from⟨c0,c1,c2,d0,d1,d2,zB _ _⟩);have HT1:=zh (fun W (h:HeldF W0 q p (.bool false) x1 x2 (.bool false) y1 y2 W)=>ftimes_any x1 y2 a d W (h.ls H1.out) (h.ls H4.out) h0d h1);have HT2:=zh (fun W (h:HeldF W0 q p (.bool false) x1 x2 (.bool false) y1 y2 W)=>ftimes_any y1 x2 c b W (h.ls H3.out) (h.ls H2.out) h0b h2);clear hx1 hx2 hy1 hy2 c0 c1 c2 d0 d1 d2 h1 h2;refine(fvalid_any false _ _ a b W0 H1.out H2.out h0b).mono ?_;rintro e w1 ⟨rfl,hb1⟩;have hh1:=HH0.out.below hb1 HQP.out.1 HQP.out.2;obtain⟨c0,c1,c2,d0,d1,d2,-⟩:=hh1;have HH1:=zh (HH0.out.below hb1 HQP.out.1 HQP.out.2);clear hb1;go_wp2_with fail;refine(fvalid_any false _ _ c d w1 (HH1.out.ls H3.out) (HH1.out.ls H4.out) h0d).mono ?_;rintro e w2 ⟨rfl,hb2⟩;have HS0:=zh (show HeldF W0 q p (.bool false) x1 x2 (.bool false) y1 y2 w2.drew from(by obtain⟨a1,a2,a3,a4,a5,a6,a7⟩:=HH1.out.below hb2 HQP.out.1 HQP.out.2;exact⟨a1,a2,a3,a4,a5,a6,a7.drew⟩));clear hb2 c0 c1 c2 d0 d1 d2;go_upto_region 3 with fail;refine region_tail (S:=(fun w'=>w'.cell? ⟨q,0,none⟩=some (.bool false)/\w'.cell? ⟨q,1,none⟩=some x1/\w'.cell? ⟨q,2,none⟩=some x2/\w'.cell? ⟨p,0,none⟩=some (.bool false)/\w'.cell? ⟨p,1,none⟩=some y1/\w'.cell? ⟨p,2,none⟩=some y2/\Below W0.heap.size W0 w')) [] (by kernel_rfl) HS0.out (fun hHeld=>?_);refine tk 0 17 ?_;refine tk 1 18 ?_;refine tk 2 19 ?_;refine tk 3 20 ?_;refine tk 5 22 ?_;refine tk 6 23 ?_;refine tk 7 24 ?_;refine tk 8 25 ?_;refine readyT (rs:=[4]) (by kernel_rfl) (by simp) ?_;refine zC rfl (fun K hK=>?_) ?_
 ·go_simp;(go_at_call 129;refine(HT1.out _ (by assumption)).mono ?_;rintro e w5 ⟨u5,rfl,hu5,hb5⟩);go_wp2_with fail;refine hK.out _ _ ?_ (fun hHeld=>?_)
  ·(first|exact HeldF.below (by assumption) hb7 HQP.out.1 HQP.out.2|exact HeldF.below (by assumption) hb6 HQP.out.1 HQP.out.2|exact HeldF.below (by assumption) hb5 HQP.out.1 HQP.out.2)
  clear hK K;(try simp only[Act.put,z1,z2,z3]);refine readyT (rs:=[9]) (by kernel_rfl) (by simp) ?_;refine zC rfl (fun K hK=>?_) ?_
  ·go_simp;(go_at_call 129;refine(HT2.out _ (by assumption)).mono ?_;rintro e w6 ⟨u6,rfl,hu6,hb6⟩);go_wp2_with fail;refine hK.out _ _ ?_ (fun hHeld=>?_)
   ·(first|exact HeldF.below (by assumption) hb7 HQP.out.1 HQP.out.2|exact HeldF.below (by assumption) hb6 HQP.out.1 HQP.out.2|exact HeldF.below (by assumption) hb5 HQP.out.1 HQP.out.2)
   clear hK K;(try simp only[Act.put,z1,z2,z3]);refine readyT (rs:=[10]) (by kernel_rfl) (by simp) ?_;refine zC rfl (fun K hK=>?_) ?_
   ·go_simp;(go_at_call 128;refine(ncmp_b _ _ (a*d) (c*b) _ _ _ (hu5.bel hb6) hu6).mono ?_;rintro e w7 ⟨rfl,hb7⟩);go_wp2_with fail;refine hK.out _ _ ?_ (fun hHeld=>?_)
    ·(first|exact HeldF.below (by assumption) hb7 HQP.out.1 HQP.out.2|exact HeldF.below (by assumption) hb6 HQP.out.1 HQP.out.2|exact HeldF.below (by assumption) hb5 HQP.out.1 HQP.out.2)
    clear hK K;(try simp only[Act.put,z1,z2,z3]);refine tk 11 6 ?_;refine doneT (by kernel_rfl) ?_ _;have HBZ:=zh (HeldF.bl (q:=q) (p:=p) (by assumption));obtain⟨d0,d1,d2,e0,e1,e2,-⟩:=hHeld;clear hu5 hu6 hb5 hb6 hb7;obtain⟨C,hC⟩:=zx (cmpI (a*d) (c*b));have HCC:=zh hC;rw[<-hC];clear hC;go_wp2_with fail
    go_quiet (fail)
    go_wp2_with fail;go_ret2;exact⟨by rw[HCC.out];rfl,by rw[show w7.drewN nq=w7.drewN nq from rfl];exact HB0.out.trans ((Below.drewN' HBZ.out nq).mono HB0.out.size)⟩
   exact zE
  exact zE
 exact zE
end Go.Proofs.YtgfaieppacabjaaGreat
