/- The made fractions and names, walked. -/
import Derived.Test.YtgfaieppacabjaaGreatMy05
import Derived.Deep.AppendLies
set_option linter.unusedSectionVars false
set_option maxRecDepth 100000
set_option maxHeartbeats 12800000
namespace Go.Proofs.YtgfaieppacabjaaGreat
open Go.RowKit
set_option linter.unusedVariables false
set_option linter.unusedSimpArgs false
theorem rsize_any(n:Nat)(w:World)(hn:n<4294967296) :
  Calls Tryz.prog 69 #[.int .i64 (n:Int)] w fun e w'=>e=.returned (.int .u64 (n:Int))/\w=w':=by
 have q:¬(n:Int)<0:=by omega
 have hw:IntKind.u64.wrap (n:Int)=(n:Int):=IntWalk.u64_in _ (by omega);have HW:=zh hw;clear hn hw;go_enter Tryz.func69,Tryz.ntmps69;go_wp2;go_ret;exact⟨ret_int HW.out,rfl⟩
theorem rfrac_any(n m:Nat)(w:World)(hn:n<4294967296)(hm:m<4294967296)(h0:0<m) :
  Calls Tryz.prog 27 #[.int .i64 (n:Int),.int .i64 (m:Int)] w fun e w'=>∃v,e=.returned (.tuple #[v,.int .i64 0])/\FrcS w' (Fr w.heap.size w'.heap.size) v (lowF false n m)/\Below w.heap.size w w':=by
 obtain⟨W0,hW0⟩:=zx (w.alloc (.cells #[.bool false,.slice none 0 0,.slice none 0 0] 26));obtain⟨g,hg⟩:=zx w.heap.size
 have hbk:W0.heap[g]?=some (.cells #[.bool false,.slice none 0 0,.slice none 0 0] 26 (0,0)):=by rw[hW0,hg];exact zN _ _
 have hb0:Below w.heap.size w W0:=by rw[hW0];exact(zB _ _).alloc (zR _) _
 have hgl:g<W0.heap.size:=by rw[hW0,hg];simp
 have HW0:=zh hW0;have HG:=zh hg;have HBK:=zh hbk;have HB0:=zh hb0
 have q0:((m:Int)==0)=false:=by rw[beq_eq_false_iff_ne];omega
 have q1:¬(n:Int)<0:=by omega
 have q2:¬(m:Int)<0:=by omega
 have HN:=zh hn;have HM:=zh hm;have H0:=zh h0;clear hW0 hg hbk hb0 hn hm h0;go_enter Tryz.func27,Tryz.ntmps27;go_wp2_with fail;rw[<-HW0.out,<-HG.out];refine(rsize_any n _ HN.out).mono ?_;rintro e w1 ⟨rfl,rfl⟩;go_wp2_with fail;refine(rmake_any n _ HN.out).mono ?_;rintro e w1 ⟨u1,rfl,ho1,hb1⟩;have HO1:=zh ho1;have HB1:=zh hb1;clear ho1 hb1;go_wp2_with fail;refine(rsize_any m _ HM.out).mono ?_;rintro e w2 ⟨rfl,rfl⟩;go_wp2_with fail;refine(rmake_any m _ HM.out).mono ?_;rintro e w2 ⟨u2,rfl,ho2,hb2⟩;have HO1:=zh (HO1.out.below hb2);have HO2:=zh ho2;have HB2:=zh (HB1.out.trans (hb2.mono HB1.out.size));clear ho2 hb2;go_wp2_with fail;refine(rlowest_any false u1 u2 n m _ (HO1.out.lsBl (natL_mem HN.out)) (HO2.out.lsBl (natL_mem HM.out)) H0.out).mono ?_;rintro e wf ⟨v,rfl,hf,hb3⟩;obtain⟨vn,vd,rfl,hn,hd⟩:=hf
 obtain⟨An,Ln,cn,rfl⟩:∃A l c,vn=.slice A l c:=by obtain⟨A,c,e,-,-⟩:=hn.form;exact⟨A,_,c,e⟩
 obtain⟨Ad,Ld,cd,rfl⟩:∃A l c,vd=.slice A l c:=by obtain⟨A,c,e,-,-⟩:=hd.form;exact⟨A,_,c,e⟩
 have hcf:=HB2.out.trans (hb3.mono HB2.out.size);have hk:=(hcf.block g hgl).trans HBK.out;obtain⟨k0,k1,k2,f0,f1,f2⟩:=cells3 hk
 have hgw:w.heap.size<=g:=by rw[HG.out];exact zR _
 have hg2:g<w2.heap.size:=zM hgl HB2.out.size;have HCF:=zh (HB0.out.trans (hcf.mono HB0.out.size));have HSW:=zh (Nat.le_trans HB0.out.size HB2.out.size);have HLN:=zh hn;have HLD:=zh hd;clear hn hd hb3 hcf;obtain⟨ng,hng⟩:=zx ((lowF false n m).neg);rw[<-hng];have HNG:=zh hng;clear hng;go_wp2_with fail;have hbf:=below_set3 HCF.out hgw (.bool ng) (.slice An Ln cn) (.slice Ad Ld cd);have hfin:=store3 (x:=.bool ng) (y:=.slice An Ln cn) (z:=.slice Ad Ld cd) hk;have hln:=(HLN.out.keep (kept_set3 wf g (.bool ng) (.slice An Ln cn) (.slice Ad Ld cd) (Fr w2.heap.size wf.heap.size) (fun b hb e=>by have:=hb.1;omega))).mono (R':=Fr w.heap.size wf.heap.size) (fun b hb=>⟨Nat.le_trans HSW.out hb.1,hb.2⟩);have hld:=(HLD.out.keep (kept_set3 wf g (.bool ng) (.slice An Ln cn) (.slice Ad Ld cd) (Fr w2.heap.size wf.heap.size) (fun b hb e=>by have:=hb.1;omega))).mono (R':=Fr w.heap.size wf.heap.size) (fun b hb=>⟨Nat.le_trans HSW.out hb.1,hb.2⟩)
 have hsz:wf.heap.size=(((wf.setCell ⟨g,0,none⟩ (.bool ng)).setCell ⟨g,1,none⟩ (.slice An Ln cn)).setCell ⟨g,2,none⟩ (.slice Ad Ld cd)).heap.size:=by simp
 rw[hsz] at hln hld;obtain⟨Wf,hWf⟩:=zx (((wf.setCell ⟨g,0,none⟩ (.bool ng)).setCell ⟨g,1,none⟩ (.slice An Ln cn)).setCell ⟨g,2,none⟩ (.slice Ad Ld cd));rw[<-hWf] at hbf hfin hln hld ⊢;obtain⟨x0,x1,x2,-,-,-⟩:=cells3 hfin;clear k0 k1 k2 f0 f1 f2;exact bodyPost_ret (v:=.tuple #[.agg #[.bool ng,.slice An Ln cn,.slice Ad Ld cd],.int .i64 0]) (by simp[results,Tryz.results27,go_sem,x0,x1,x2]) rfl ⟨_,rfl,⟨_,_,by rw[<-HNG.out],hln,hld⟩,hbf⟩
theorem frac_any(n m:Nat)(w:World)(hn:n<4294967296)(hm:m<4294967296)(h0:0<m) :
  Calls Tryz.prog 9 #[.int .i64 (n:Int),.int .i64 (m:Int)] w fun e w'=>∃v,e=.returned v/\FrcS w' (Fr w.heap.size w'.heap.size) v (lowF false n m)/\Below w.heap.size w w':=by
 obtain⟨W0,hW0⟩:=zx (w.alloc (.cells #[.bool false,.slice none 0 0,.slice none 0 0] 26));obtain⟨g,hg⟩:=zx w.heap.size
 have hbk:W0.heap[g]?=some (.cells #[.bool false,.slice none 0 0,.slice none 0 0] 26 (0,0)):=by rw[hW0,hg];exact zN _ _
 have hb0:Below w.heap.size w W0:=by rw[hW0];exact(zB _ _).alloc (zR _) _
 have hgl:g<W0.heap.size:=by rw[hW0,hg];simp
 have HW0:=zh hW0;have HG:=zh hg;have HBK:=zh hbk;have HB0:=zh hb0;have HM:=zh (rfrac_any n m W0 hn hm h0);clear hW0 hg hbk hb0 hn hm h0;go_enter Tryz.func9,Tryz.ntmps9;go_wp2_with fail;rw[<-HW0.out,<-HG.out];refine HM.out.mono ?_;rintro e w1 ⟨v,rfl,hf,hb1⟩;obtain⟨vn,vd,rfl,hn,hd⟩:=hf
 obtain⟨An,Ln,cn,rfl⟩:∃A l c,vn=.slice A l c:=by obtain⟨A,c,e,-,-⟩:=hn.form;exact⟨A,_,c,e⟩
 obtain⟨Ad,Ld,cd,rfl⟩:∃A l c,vd=.slice A l c:=by obtain⟨A,c,e,-,-⟩:=hd.form;exact⟨A,_,c,e⟩
 obtain⟨ng,hng⟩:=zx ((lowF false n m).neg);rw[<-hng];have HNG:=zh hng;clear hng;have hk:=(hb1.block g hgl).trans HBK.out;obtain⟨k0,k1,k2,f0,f1,f2⟩:=cells3 hk;have HLN:=zh hn;have HLD:=zh hd;have HB1:=zh hb1;have hgl1:g<w1.heap.size:=zM hgl hb1.size
 have hgn:g≠w1.heap.size:=by omega
 have hgn':w1.heap.size≠g:=by omega
 clear hn hd hb1;go_wp2_with fail
 have hgw:w.heap.size<=g:=by rw[HG.out];exact zR _
 have hcw:=HB0.out.trans (HB1.out.mono HB0.out.size);have hbf:=(below_set3 hcw hgw (.bool ng) (.slice An Ln cn) (.slice Ad Ld cd)).alloc (by simpa using hcw.size) (.cells #[.bool ng,.slice An Ln cn,.slice Ad Ld cd] 26);have hfin:=(zH _ (.cells #[.bool ng,.slice An Ln cn,.slice Ad Ld cd] 26) g (by simpa using hgl1)).trans (store3 (x:=.bool ng) (y:=.slice An Ln cn) (z:=.slice Ad Ld cd) hk)
 have kk:Kept (Fr W0.heap.size w1.heap.size) w1 ((((w1.setCell ⟨g,0,none⟩ (.bool ng)).setCell ⟨g,1,none⟩ (.slice An Ln cn)).setCell ⟨g,2,none⟩ (.slice Ad Ld cd)).alloc (.cells #[.bool ng,.slice An Ln cn,.slice Ad Ld cd] 26)) :=
  (kept_set3 w1 g (.bool ng) (.slice An Ln cn) (.slice Ad Ld cd) _ (fun b hb e=>by have:=hb.1;omega)).trans ((kept_alloc _ _).mono (fun b hb=>by have:=hb.2;simpa[Bl] using this))
 have hln:=(HLN.out.keep kk).mono (R':=Fr w.heap.size w1.heap.size) (fun b hb=>⟨Nat.le_trans HB0.out.size hb.1,hb.2⟩);have hld:=(HLD.out.keep kk).mono (R':=Fr w.heap.size w1.heap.size) (fun b hb=>⟨Nat.le_trans HB0.out.size hb.1,hb.2⟩)
 have hsz:w1.heap.size<=((((w1.setCell ⟨g,0,none⟩ (.bool ng)).setCell ⟨g,1,none⟩ (.slice An Ln cn)).setCell ⟨g,2,none⟩ (.slice Ad Ld cd)).alloc (.cells #[.bool ng,.slice An Ln cn,.slice Ad Ld cd] 26)).heap.size:=by simp
 obtain⟨Wf,hWf⟩:=zx ((((w1.setCell ⟨g,0,none⟩ (.bool ng)).setCell ⟨g,1,none⟩ (.slice An Ln cn)).setCell ⟨g,2,none⟩ (.slice Ad Ld cd)).alloc (.cells #[.bool ng,.slice An Ln cn,.slice Ad Ld cd] 26));rw[<-hWf] at hbf hfin hln hld hsz ⊢;obtain⟨x0,x1,x2,-,-,-⟩:=cells3 hfin;clear k0 k1 k2 f0 f1 f2 kk;exact bodyPost_ret (v:=.agg #[.bool ng,.slice An Ln cn,.slice Ad Ld cd]) (by simp[results,Tryz.results9,go_sem,x0,x1,x2]) rfl ⟨_,rfl,⟨_,_,by rw[<-HNG.out],hln.mono (fun b hb=>⟨hb.1,zM hb.2 hsz⟩),hld.mono (fun b hb=>⟨hb.1,zM hb.2 hsz⟩)⟩,hbf⟩
structure LawM where
 name:ByteArray
 start:List Frc
 rates:List (List Frc)
 exit:List Frc
structure ModM where
 name:ByteArray
 ext:Int
 port:Int
 law:Int
structure DomM where
 name:ByteArray
 level:Int
 parent:Int
 uplink:Int
 shock:Frc
structure DveM where
 name:ByteArray
 model:Int
 machine:Int
structure PolM where
 name:ByteArray
 k:Int
 m:Int
 q:Int
 s3:Int
 s4:Int
 models:List Int
 repair:List Frc
 target:Frc
 horizon:Frc
structure VolM where
 name:ByteArray
 pol:Int
structure FltM where
 ext:Int
 laws:List LawM
 models:List ModM
 doms:List DomM
 dves:List DveM
 pols:List PolM
 vols:List VolM
def FrcK(w:World)(R:Nat->Prop)(cs:List Value)(x:Frc):Prop:=∃vn vd,cs=[.bool x.neg,vn,vd]/\LS w R vn (natL x.num)/\LS w R vd (natL x.den)
def RowFK(w:World)(R:Nat->Prop)(cs:List Value)(l:List Frc):Prop:=∃v,cs=[v]/\SlS 3 FrcK w R v l
def LawK(w:World)(R:Nat->Prop)(cs:List Value)(x:LawM):Prop:=∃vs vr ve,cs=[.string x.name,vs,vr,ve]/\SlS 3 FrcK w R vs x.start/\SlS 1 RowFK w R vr x.rates/\SlS 3 FrcK w R ve x.exit
def ModK(w:World)(R:Nat->Prop)(cs:List Value)(x:ModM):Prop:=cs=[.string x.name,.int .i64 x.ext,.int .i64 x.port,.int .i64 x.law]
def DomK(w:World)(R:Nat->Prop)(cs:List Value)(x:DomM):Prop:=∃vn vd,cs=[.string x.name,.int .i64 x.level,.int .i64 x.parent,.int .i64 x.uplink,.bool x.shock.neg,vn,vd]/\LS w R vn (natL x.shock.num)/\LS w R vd (natL x.shock.den)
def DveK(w:World)(R:Nat->Prop)(cs:List Value)(x:DveM):Prop:=cs=[.string x.name,.int .i64 x.model,.int .i64 x.machine]
def PolK(w:World)(R:Nat->Prop)(cs:List Value)(x:PolM):Prop:=∃vm vr tn td hn hd,cs=[.string x.name,.int .i64 x.k,.int .i64 x.m,.int .i64 x.q,.int .i64 0,.int .i64 0,.int .i64 0,.int .i64 x.s3,.int .i64 x.s4,vm,vr,.bool x.target.neg,tn,td,.bool x.horizon.neg,hn,hd] /\
 IntS w R vm x.models/\SlS 3 FrcK w R vr x.repair/\LS w R tn (natL x.target.num)/\LS w R td (natL x.target.den)/\LS w R hn (natL x.horizon.num)/\LS w R hd (natL x.horizon.den)
def VolK(w:World)(R:Nat->Prop)(cs:List Value)(x:VolM):Prop:=cs=[.string x.name,.int .i64 x.pol]
theorem frcK:Steady FrcK:=⟨fun hk ⟨a,b,e,h1,h2⟩=>⟨a,b,e,h1.keep hk,h2.keep hk⟩,fun hr ⟨a,b,e,h1,h2⟩=>⟨a,b,e,h1.mono hr,h2.mono hr⟩⟩
theorem rowFK:Steady RowFK:=⟨fun hk ⟨v,e,h⟩=>⟨v,e,SlS.keep frcK h hk⟩,fun hr ⟨v,e,h⟩=>⟨v,e,SlS.mono frcK h hr⟩⟩
theorem lawK:Steady LawK:=⟨fun hk ⟨a,b,c,e,h1,h2,h3⟩=>⟨a,b,c,e,SlS.keep frcK h1 hk,SlS.keep rowFK h2 hk,SlS.keep frcK h3 hk⟩,fun hr ⟨a,b,c,e,h1,h2,h3⟩=>⟨a,b,c,e,SlS.mono frcK h1 hr,SlS.mono rowFK h2 hr,SlS.mono frcK h3 hr⟩⟩
theorem modK:Steady ModK:=⟨fun _ h=>h,fun _ h=>h⟩
theorem domK:Steady DomK:=⟨fun hk ⟨a,b,e,h1,h2⟩=>⟨a,b,e,h1.keep hk,h2.keep hk⟩,fun hr ⟨a,b,e,h1,h2⟩=>⟨a,b,e,h1.mono hr,h2.mono hr⟩⟩
theorem dveK:Steady DveK:=⟨fun _ h=>h,fun _ h=>h⟩
theorem polK:Steady PolK:=⟨fun hk ⟨a,b,c,d,f,g,e,h1,h2,h3,h4,h5,h6⟩=>⟨a,b,c,d,f,g,e,h1.keep hk,SlS.keep frcK h2 hk,h3.keep hk,h4.keep hk,h5.keep hk,h6.keep hk⟩,
 fun hr ⟨a,b,c,d,f,g,e,h1,h2,h3,h4,h5,h6⟩=>⟨a,b,c,d,f,g,e,h1.mono hr,SlS.mono frcK h2 hr,h3.mono hr,h4.mono hr,h5.mono hr,h6.mono hr⟩⟩
theorem volK:Steady VolK:=⟨fun _ h=>h,fun _ h=>h⟩
def FleetS(w:World)(R:Nat->Prop)(vl vm vd vv vp vo:Value)(F:FltM):Prop :=
 SlS 4 LawK w R vl F.laws/\SlS 4 ModK w R vm F.models/\SlS 7 DomK w R vd F.doms/\SlS 3 DveK w R vv F.dves/\SlS 17 PolK w R vp F.pols/\SlS 2 VolK w R vo F.vols
theorem FleetS.keep{w w':World}{R:Nat->Prop}{vl vm vd vv vp vo:Value}{F:FltM}(h:FleetS w R vl vm vd vv vp vo F)(hk:Kept R w w'):FleetS w' R vl vm vd vv vp vo F :=
 ⟨SlS.keep lawK h.1 hk,SlS.keep modK h.2.1 hk,SlS.keep domK h.2.2.1 hk,SlS.keep dveK h.2.2.2.1 hk,SlS.keep polK h.2.2.2.2.1 hk,SlS.keep volK h.2.2.2.2.2 hk⟩
theorem FleetS.mono{w:World}{R R':Nat->Prop}{vl vm vd vv vp vo:Value}{F:FltM}(h:FleetS w R vl vm vd vv vp vo F)(hr:∀b,R b->R' b):FleetS w R' vl vm vd vv vp vo F :=
 ⟨SlS.mono lawK h.1 hr,SlS.mono modK h.2.1 hr,SlS.mono domK h.2.2.1 hr,SlS.mono dveK h.2.2.2.1 hr,SlS.mono polK h.2.2.2.2.1 hr,SlS.mono volK h.2.2.2.2.2 hr⟩
theorem FleetS.below{w w':World}{vl vm vd vv vp vo:Value}{F:FltM}(h:FleetS w (Bl w.heap.size) vl vm vd vv vp vo F)(hb:Below w.heap.size w w'):FleetS w' (Bl w'.heap.size) vl vm vd vv vp vo F:=(h.keep (kept_below hb)).mono (Bl.mono hb.size)
def Cold(B:Nat)(w:World)(hot:List (Option Nat))(b:Nat):Prop:=B<=b/\b<w.heap.size/\some b∉hot
def OwnK{α:Type}(size:Nat)(K:World->(Nat->Prop)->List Value->α->Prop)(w:World)(base:Nat)(e:TypeId)(v:Value)(es:List α)(R:Nat->Prop):Prop :=
 ∃cs:List Value,w.ownsRow base e size v es.length cs/\∀k a,es[k]?=some a->∃c,c.length=size/\(∀i u,c[i]?=some u->cs[k*size+i]?=some u)/\K w R c a
theorem OwnK.nil{α:Type}(size:Nat)(K:World->(Nat->Prop)->List Value->α->Prop)(w:World)(base:Nat)(e:TypeId)(R:Nat->Prop):OwnK size K w base e (.slice none 0 0) ([]:List α) R:=⟨[],World.ownsRow_nil _ _ _ _,fun k a h=>by simp at h⟩
theorem OwnK.form{α:Type}{size:Nat}{K:World->(Nat->Prop)->List Value->α->Prop}{w:World}{base:Nat}{e:TypeId}{v:Value}{es:List α}{R:Nat->Prop}(h:OwnK size K w base e v es R):∃A c,v=.slice A es.length c:=by
 obtain⟨cs,h1,-⟩:=h;exact own_form h1
theorem OwnK.lt{α:Type}{size:Nat}{K:World->(Nat->Prop)->List Value->α->Prop}{w:World}{base:Nat}{e:TypeId}{v:Value}{es:List α}{R:Nat->Prop}(h:OwnK size K w base e v es R):∀b,v.ownBlock=some b->base<=b/\b<w.heap.size:=by
 obtain⟨cs,h1,-⟩:=h;exact h1.lt
theorem OwnK.mono{α:Type}{size:Nat}{K:World->(Nat->Prop)->List Value->α->Prop}(hK:Steady K){w:World}{base:Nat}{e:TypeId}{v:Value}{es:List α}{R R':Nat->Prop}(h:OwnK size K w base e v es R)(hr:∀b,R b->R' b):OwnK size K w base e v es R':=by
 obtain⟨cs,h1,h2⟩:=h;refine⟨cs,h1,fun k a ha=>?_⟩;obtain⟨c,g1,g2,g3⟩:=h2 k a ha;exact⟨c,g1,g2,hK.mono hr g3⟩
theorem OwnK.push{α:Type}{size:Nat}{K:World->(Nat->Prop)->List Value->α->Prop}(hK:Steady K){w w':World}{base:Nat}{e:TypeId}{v v':Value}{es:List α}{R R':Nat->Prop}{cs c:List Value}{a:α}
  (h2:∀k x,es[k]?=some x->∃c,c.length=size/\(∀i u,c[i]?=some u->cs[k*size+i]?=some u)/\K w R c x) (hl:cs.length=es.length*size) (ho:w'.ownsRow base e size v' (es.length+1) (cs++c)) (hc:c.length=size) (hk:Kept R w w') (hr:∀b,R b->R' b) (ha:K w' R' c a):OwnK size K w' base e v' (es++[a]) R':=by
 refine⟨cs++c,by rw[zP];exact ho,fun k x hx=>?_⟩;rcases Nat.lt_or_ge k es.length with hlt | hge
 ·rw[List.getElem?_append_left hlt] at hx;obtain⟨c2,g1,g2,g3⟩:=h2 k x hx
  exact⟨c2,g1,fun i u hu=>by
   have h3:=g2 i u hu
   rw[List.getElem?_append_left (zL.1 h3).1];exact h3,hK.mono hr (hK.keep hk g3)⟩
 ·have hke:k=es.length:=by
   have:=(zL.1 hx).1;rw[zP] at this;simp at this;omega
  subst hke;rw[List.getElem?_append_right (zR _),Nat.sub_self] at hx;simp at hx;subst hx;exact⟨c,hc,fun i u hu=>by rw[List.getElem?_append_right (by omega),hl,Nat.add_sub_cancel_left];exact hu,ha⟩
theorem OwnK.slS{α:Type}{size:Nat}{K:World->(Nat->Prop)->List Value->α->Prop}(hK:Steady K){w:World}{base:Nat}{e:TypeId}{v:Value}{es:List α}{R R':Nat->Prop}(h:OwnK size K w base e v es R)(hr:∀b,R b->R' b)(hR:∀b,v.ownBlock=some b->R' b):SlS size K w R' v es:=by
 obtain⟨cs,h1,h2⟩:=h
 have hc:=fun g=>h1.cells (g:=g)
 rcases h1.2 with ⟨rfl,h0⟩ | ⟨g,cap,cur,rfl,_,_,h4,h3,_⟩
 ·unfold SlS;rw[h0];exact Row.nil _ _ _
 ·refine⟨_,cap,rfl,h4,Nat.le_trans h4 h3,fun _=>⟨g,0,rfl,hR g rfl,fun k a ha=>?_⟩⟩;obtain⟨c,g1,g2,g3⟩:=h2 k a ha;refine⟨c,g1,fun i u hu=>?_,hK.mono hr g3⟩
  have e1:∀j,(⟨g,0,none⟩:Addr).add j=⟨g,0+j,none⟩:=fun j=>by unfold Addr.add;split <;> simp_all
  rw[Nat.add_assoc,<-e1];exact hc g rfl _ _ (g2 i u hu)
def nameL(c:UInt8)(n:Nat):List UInt8:=[c,UInt8.ofNat (97+n / 26 % 26),UInt8.ofNat (97+n % 26)]
theorem name_any(c:UInt8)(n:Nat)(w:World)(hn:n<=1000) :
  Calls Tryz.prog 63 #[.int .u8 (c.toNat:Int),.int .i64 (n:Int)] w fun e w'=>e=.returned (.string ⟨(nameL c n).toArray⟩)/\Below w.heap.size w w':=by
 have q0:(0:Int)<=(n:Int):=by omega
 have q1:(n:Int)<=1000:=by omega
 have e1:(((UInt8.ofNat (97+n / 26 % 26)).toNat:Nat):Int)=97+(n:Int) / 26 % 26:=by rw[UInt8.toNat_ofNat',Nat.mod_eq_of_lt (by omega)];omega
 have e2:(((UInt8.ofNat (97+n % 26)).toNat:Nat):Int)=97+(n:Int) % 26:=by rw[UInt8.toNat_ofNat',Nat.mod_eq_of_lt (by omega)];omega
 have hcv:=conv_bytes (ByS.lit w (nameL c n) 5 (by simp[nameL,maxLen]))
 have e3:(bys (nameL c n)).toArray=#[.int .u8 (c.toNat:Int),.int .u8 (97+(n:Int) / 26 % 26),.int .u8 (97+(n:Int) % 26)]:=by simp only[bys,nameL,List.map_cons,List.map_nil,e1,e2]
 rw[e3,show(nameL c n).length=3 from rfl] at hcv;clear e1 e2 e3;go_enter Tryz.func63,Tryz.ntmps63;go_wp2_with fail;go_ret;exact⟨rfl,(zB _ _).alloc (zR _) _⟩
structure HotBy (hot:List (Option Nat)) (w w':World):Prop where
 os:w'.os=w.os
 tape:w'.tape=w.tape
 output:w'.output=w.output
 size:w.heap.size<=w'.heap.size
 block:∀b,b<w.heap.size->some b∉hot->w'.heap[b]?=w.heap[b]?
theorem HotBy.refl(hot:List (Option Nat))(w:World):HotBy hot w w:=⟨rfl,rfl,rfl,zR _,fun _ _ _=>rfl⟩
theorem HotBy.trans{hot:List (Option Nat)}{a b c:World}(h:HotBy hot a b)(k:HotBy hot b c):HotBy hot a c :=
 ⟨k.os.trans h.os,k.tape.trans h.tape,k.output.trans h.output,Nat.le_trans h.size k.size,fun x hx hn=>(k.block x (zM hx h.size) hn).trans (h.block x hx hn)⟩
theorem HotBy.more{hot hot':List (Option Nat)}{a b:World}(h:HotBy hot a b)(hh:∀x,some x∈hot->x<a.heap.size->some x∈hot'):HotBy hot' a b :=
 ⟨h.os,h.tape,h.output,h.size,fun x hx hn=>h.block x hx (fun hm=>hn (hh x hm hx))⟩
theorem HotBy.below{hot:List (Option Nat)}{w w':World}(h:Below w.heap.size w w'):HotBy hot w w':=⟨h.os,h.tape,h.output,h.size,fun b hb _=>h.block b hb⟩
theorem HotBy.grown{hot:List (Option Nat)}{w w':World}{row:Option Nat}(h:w.grownBy w' row)(hr:row∈hot\/row=none):HotBy hot w w' :=
 ⟨h.os,h.tape,h.output,h.size,fun b hb hn=>h.block b hb (fun e=>by
  rcases hr with hr | hr
  ·exact hn (e▸hr)
  ·rw[hr] at e;cases e)⟩
theorem HotBy.setCell(hot:List (Option Nat))(w:World)(a:Addr)(v:Value)(ha:some a.block∈hot):HotBy hot w (w.setCell a v) :=
 ⟨rfl,rfl,rfl,by simp[World.setCell],fun b _ hn=>Below.heap_setCell w a v b (fun e=>hn (e▸ha))⟩
theorem HotBy.alloc(hot:List (Option Nat))(w:World)(o:Obj):HotBy hot w (w.alloc o):=⟨rfl,rfl,rfl,by simp,fun b hb _=>zH w o b hb⟩
theorem HotBy.drew{hot:List (Option Nat)}{a w:World}(h:HotBy hot a w):HotBy hot a w.drew:=⟨h.os,h.tape,h.output,h.size,h.block⟩
def FltB(w:World)(g:Nat)(e:Int)(vl vm vd vv vp vo:Value):Prop:=w.heap[g]?=some (.cells #[.int .i64 e,vl,vm,vd,vv,vp,vo] 35 (0,0))
theorem FltB.cells{w:World}{g:Nat}{e:Int}{vl vm vd vv vp vo:Value}(h:FltB w g e vl vm vd vv vp vo) :
  w.cell? ⟨g,0,none⟩=some (.int .i64 e)/\w.cell? ⟨g,1,none⟩=some vl/\w.cell? ⟨g,2,none⟩=some vm/\w.cell? ⟨g,3,none⟩=some vd/\w.cell? ⟨g,4,none⟩=some vv/\w.cell? ⟨g,5,none⟩=some vp/\w.cell? ⟨g,6,none⟩=some vo/\(∀i,w.frozen? ⟨g,i,none⟩=false) :=
 ⟨by rw[cell_of_row _ _ _ _ _ _ h];rfl,by rw[cell_of_row _ _ _ _ _ _ h];rfl,by rw[cell_of_row _ _ _ _ _ _ h];rfl,by rw[cell_of_row _ _ _ _ _ _ h];rfl,by rw[cell_of_row _ _ _ _ _ _ h];rfl,by rw[cell_of_row _ _ _ _ _ _ h];rfl,by rw[cell_of_row _ _ _ _ _ _ h];rfl,fun i=>frozen_of_row _ _ _ _ _ h⟩
theorem FltB.lt{w:World}{g:Nat}{e:Int}{vl vm vd vv vp vo:Value}(h:FltB w g e vl vm vd vv vp vo):g<w.heap.size:=(zA.1 h).1
theorem frac01(w:World):Calls Tryz.prog 9 #[.int .i64 0,.int .i64 1] w fun e w'=>∃v,e=.returned v/\(∃vn vd,v=.agg #[.bool false,vn,vd]/\LS w' (Fr w.heap.size w'.heap.size) vn (natL 0)/\LS w' (Fr w.heap.size w'.heap.size) vd (natL 1))/\Below w.heap.size w w':=frac_any 0 1 w (by omega) (by omega) (by omega)
theorem FltB.below{w w':World}{g:Nat}{e:Int}{vl vm vd vv vp vo:Value}(h:FltB w g e vl vm vd vv vp vo)(hb:Below w.heap.size w w'):FltB w' g e vl vm vd vv vp vo:=(hb.block g h.lt).trans h
theorem FltB.grown5{w w':World}{o:Obj}{g:Nat}{e:Int}{vl vm vd vv vp vo:Value}{row:Option Nat}(h:FltB w g e vl vm vd vv vp vo)(hg:(w.alloc o).grownBy w' row)(hne:some g≠row):FltB w' g e vl vm vd vv vp vo :=
 (hg.block g (by have:=h.lt;simp;omega) hne).trans ((zH w o g h.lt).trans h)
theorem FltB.set3{w:World}{g:Nat}{e:Int}{vl vm vd vv vp vo:Value}(h:FltB w g e vl vm vd vv vp vo)(u:Value):FltB (w.setCell ⟨g,3,none⟩ u) g e vl vm u vv vp vo:=heap_setCell_same w g 3 _ _ u h
theorem dom_nested{w w2 w3 w5:World}{o:Obj}{vd v u:Value}{l:List Nat}{g gg B n cap:Nat}(h:LS w3 (Fr w2.heap.size w3.heap.size) v l)(h2:w.heap.size<=w2.heap.size)(hg:(w3.alloc o).grownBy w5 vd.ownBlock)(ho:∀b,vd.ownBlock=some b->B<=b/\b<w.heap.size)(hB:g<B)
  (hat:vd.ownBlock=some gg\/gg=w3.heap.size+1) (h3:w.heap.size<=w3.heap.size) (hgl:g<w.heap.size) :
  LS (w5.setCell ⟨g,3,none⟩ u) (fun b=>w.heap.size<=b/\b<(w5.setCell ⟨g,3,none⟩ u).heap.size/\(Value.slice (some ⟨gg,0,none⟩) n cap).ownBlock≠some b) v l:=by
 have hs5:=hg.size
 have hk:Kept (Fr w2.heap.size w3.heap.size) w3 (w5.setCell ⟨g,3,none⟩ u):=fun b hb=>by
  have hlt:=hb.2;have hge:=hb.1;rw[Below.heap_setCell w5 ⟨g,3,none⟩ u b (fun e=>by have e2:b=g:=e;omega)];rw[hg.block b (by simp;omega) (fun e=>by have:=(ho b e.symm).2;omega)];exact zH w3 o b hlt
 refine(h.keep hk).mono (fun b hb=>?_);have hlt:=hb.2;have hge:=hb.1;refine⟨by omega,by simp at hs5 ⊢;omega,fun e=>?_⟩
 have e2:gg=b:=by injection e
 rcases hat with h4 | h4
 ·have:=(ho gg h4).2;omega
 ·omega
theorem info_dom:(Tryz.prog.info? 100).map (fun i=>(i.zero,i.size,i.bytes))=some (some (.agg #[.string ⟨#[]⟩,.int .i64 0,.int .i64 0,.int .i64 0,.bool false,.slice none 0 0,.slice none 0 0]),7,96):=by kernel_rfl
theorem domain_any(g:Nat)(e:Int)(vl vm vd vv vp vo:Value)(n:Nat)(cs:List Value)(B:Nat)(level parent uplink:Int)(w:World)(hF:FltB w g e vl vm vd vv vp vo)(ho:w.ownsRow B 100 7 vd n cs)(hB:g<B)(hBs:B<=w.heap.size)(hn:n<=1000) :
  Calls Tryz.prog 62 #[.pointer (some ⟨g,0,none⟩),.int .i64 level,.int .i64 parent,.int .i64 uplink] w fun r w'=>r=.returned (.int .i64 (n:Int))/\∃vd' vn2 vd2,FltB w' g e vl vm vd' vv vp vo /\
   w'.ownsRow B 100 7 vd' (n+1) (cs++[.string ⟨(nameL 110 n).toArray⟩,.int .i64 level,.int .i64 parent,.int .i64 uplink,.bool false,vn2,vd2])/\LS w' (fun b=>w.heap.size<=b/\b<w'.heap.size/\vd'.ownBlock≠some b) vn2 (natL 0)/\LS w' (fun b=>w.heap.size<=b/\b<w'.heap.size/\vd'.ownBlock≠some b) vd2 (natL 1) /\
   (vd'.ownBlock=vd.ownBlock\/∃x,vd'.ownBlock=some x/\w.heap.size<=x)/\HotBy [some g,vd.ownBlock] w w':=by
 obtain⟨i0,hi0,hz0,hz1,hz2⟩:=info_parts info_dom;obtain⟨A,c,rfl⟩:=own_form ho;obtain⟨k0,k1,k2,k3,k4,k5,k6,kf⟩:=hF.cells;have kf3:=kf 3;have HF:=zh hF;have HO:=zh ho;have hgl:=hF.lt;have HNM:=zh (fun w=>name_any 110 n w hn);have HFR:=zh (fun w=>frac01 w);have HN:=zh hn;have n10:((110:UInt8).toNat:Int)=110:=rfl;rw[n10] at HNM;clear hF ho k0 k1 k2 k4 k5 k6 kf n10 hn;go_enter Tryz.func62,Tryz.ntmps62;go_wp2_with fail;obtain⟨X,hX⟩:∃X:ByteArray,X=⟨(nameL 110 n).toArray⟩:=⟨_,rfl⟩;rw[<-hX] at HNM;have HX:=zh hX;clear hX
 go_region_law (first
  | (refine step_append_lies _ (by rfl) _ _ _ (by rfl) B 100 i0 _ 7 96 Tryz.underlying30 hi0 hz0 hz1 hz2 rfl (by decide) (.slice A n c) n cs (by rfl) (World.ownsRow.alloc ho3 _) ⟨w3.heap.size,0,none⟩ 1 1 [.string X,.int .i64 level,.int .i64 parent,.int .i64 uplink,.bool false,.slice An Ln cn,.slice Aq Lq cq] (by rfl) (by rfl) (World.news_of_block (cs:=#[.string X,.int .i64 level,.int .i64 parent,.int .i64 uplink,.bool false,.slice An Ln cn,.slice Aq Lq cq]) (t:=100) (fr:=(0,0)) (zN w3 _)) (by simp[Value.oneCell']) (by omega) (by have:=HN.out;unfold maxLen;omega) (by have:=HN.out;omega) (by simp;omega) (w3.heap.size+1) (by simp) ?_;intro gg cap w5 hown5 hg5 hat5 hlt5;have hF5:=hF3.grown5 hg5 hne5;have k35:=hF5.cells.2.2.2.1;have f35:=hF5.cells.2.2.2.2.2.2.2 3)
  | (go_simp;go_at_call 63;refine(HNM.out _).mono ?_;rintro e w2 ⟨rfl,hb2⟩;have k32:=((hb2.cell (p:=⟨g,3,none⟩) hgl).trans k3))
  | (go_simp;go_at_call 9;refine(HFR.out _).mono ?_;rintro e w3 ⟨v3,rfl,⟨vn,vq,rfl,hvn,hvq⟩,hb3⟩;obtain⟨An,Ln,cn,rfl⟩:∃A l c,vn=.slice A l c:=(by obtain⟨A,c,e,-,-⟩:=hvn.form;exact⟨A,_,c,e⟩);obtain⟨Aq,Lq,cq,rfl⟩:∃A l c,vq=.slice A l c:=(by obtain⟨A,c,e,-,-⟩:=hvq.form;exact⟨A,_,c,e⟩);have k33:=((hb3.cell (p:=⟨g,3,none⟩) (zM hgl hb2.size)).trans k32);have hb23:Below w.heap.size w w3:=(below_drewL hb2).trans (hb3.mono hb2.size);have ho3:=own_below HO.out hb23;have hs3:=hb23.size;have hF3:=HF.out.below hb23;have hF4:=hF3.below ((zB w3.heap.size w3).alloc (zR _) (.cells #[.string X,.int .i64 level,.int .i64 parent,.int .i64 uplink,.bool false,.slice An Ln cn,.slice Aq Lq cq] 100));have k34:=hF4.cells.2.2.2.1;have hgn3:g≠w3.heap.size:=(by have:=zM hgl hb23.size;omega);have hgn4:w3.heap.size≠g:=(fun e=>hgn3 e.symm);have hne5:some g≠(Value.slice A n c).ownBlock:=(fun e=>by have:=(HO.out.lt g e.symm).1;omega)))
 all_goals
  have HVN:=zh hvn;have HVQ:=zh hvq;have HF5:=zh (hF5.set3 (.slice (some ⟨gg,0,none⟩) (n+1) cap));have HG5:=zh hg5;have HO5:=zh hown5;have HAT:=zh hat5;have HS2:=zh (show w.heap.size<=w2.heap.size from hb2.size);have HB23:=zh hb23;have hggB:B<=gg:=(hown5.lt gg rfl).1
  have hoB:=fun b e=>HO.out.lt b e
  have HOB:=zh hoB;have HNE:=zh hne5;clear hvn hvq hF5 hg5 hown5 hat5 hb2 hb23 hb3 hoB ho3 hF3 hF4 hne5 k35 f35 k34 k33 k32 k3;go_wp2_with fail;go_ret
  have hgg2:gg≠g:=by omega
  have hne2:(Value.slice (some ⟨gg,0,none⟩) (n+1) cap).ownBlock≠some g:=fun e=>hgg2 (Option.some.inj e)
  refine⟨rfl,.slice (some ⟨gg,0,none⟩) (n+1) cap,.slice An Ln cn,.slice Aq Lq cq,HF5.out,by rw[<-HX.out];exact HO5.out.kept (only_set1 _ g 3 _) (.inr hne2),?_,?_,?_,?_⟩
  ·exact dom_nested HVN.out HS2.out HG5.out HOB.out hB HAT.out (by omega) hgl
  ·exact dom_nested HVQ.out HS2.out HG5.out HOB.out hB HAT.out (by omega) hgl
  ·rcases HAT.out with h | h
   ·exact .inl h.symm
   ·exact .inr ⟨gg,rfl,by omega⟩
  ·exact((HotBy.below HB23.out).trans (HotBy.alloc _ _ _)).trans ((HotBy.grown HG5.out (.inl (by simp))).trans (HotBy.setCell _ _ _ _ (by simp)))
theorem next_hot(w0:World)(R:Nat->Prop)(gT:Nat)(vt:Value)(xs:List Int)(hx:IntS w0 R vt xs)(hR:∀b,R b->b<w0.heap.size/\b≠gT)(wr:World)(hh:HotBy [some gT] w0 wr)(I:Nat)(hT:TapeB wr gT vt I)(hI:I<=4611686018427387904)(n:Nat)(h1:1<=n)(h2:n<=4294967296) :
  Calls Tryz.prog 61 #[.pointer (some ⟨gT,0,none⟩),.int .i64 (n:Int)] wr fun e w'=>∃r:Nat,e=.returned (.int .i64 (r:Int))/\r<n/\TapeB w' gT vt (I+1)/\wr.grownBy w' (some gT):=by
 have hx':IntS wr R vt xs:=hx.keep (fun b hb=>hh.block b (hR b hb).1 (by
  intro e;have:=(hR b hb).2;simp at e
  exact this e))
 refine(next_any gT vt xs I (n:Int) wr R hT hx' hI ⟨by omega,by omega⟩).mono ?_;rintro e w' ⟨rfl,hT',hg⟩;have hr:=within_range (tapeX xs I) (n:Int) (by omega);refine⟨(within (tapeX xs I) (n:Int)).toNat,?_,by omega,hT',hg⟩;rw[Int.toNat_of_nonneg hr.1]
structure StatA (w0:World) (R:Nat->Prop) (gT:Nat) (vt:Value) (xs:List Int) (WA:World) (gF:Nat):Prop where
 hx:IntS w0 R vt xs
 hR:∀b,R b->b<w0.heap.size/\b≠gT
 hot:HotBy [some gT] w0 WA
 gT:gT<w0.heap.size
 gF1:w0.heap.size<=gF
 gF2:gF<WA.heap.size
theorem StatA.w0{w0:World}{R:Nat->Prop}{gT:Nat}{vt:Value}{xs:List Int}{WA:World}{gF:Nat}(h:StatA w0 R gT vt xs WA gF){wr:World}(hh:HotBy [some gT,some gF] WA wr):HotBy [some gT] w0 wr:=by
 refine⟨hh.os.trans h.hot.os,hh.tape.trans h.hot.tape,hh.output.trans h.hot.output,Nat.le_trans h.hot.size hh.size,fun b hb hn=>(hh.block b (zM hb h.hot.size) (fun e=>?_)).trans (h.hot.block b hb hn)⟩;simp at e hn;have:=h.gF1;omega
def dveC(x:DveM):List Value:=[.string x.name,.int .i64 x.model,.int .i64 x.machine]
structure InvA (gT:Nat) (vt:Value) (WA:World) (gF:Nat) (ext:Int) (vl vm:Value) (wr:World) (I:Nat) (vd vv:Value) (ds:List DomM) (vs:List DveM):Prop where
 tape:TapeB wr gT vt I
 hot:HotBy [some gT,some gF] WA wr
 flt:FltB wr gF ext vl vm vd vv (.slice none 0 0) (.slice none 0 0)
 dom:OwnK 7 DomK wr WA.heap.size 100 vd ds (Cold WA.heap.size wr [vd.ownBlock,vv.ownBlock])
 dve:wr.ownsRow WA.heap.size 102 3 vv vs.length (vs.flatMap dveC)
 apart:vd.ownBlock=none\/vd.ownBlock≠vv.ownBlock
section
variable {w0 : World} {R : Nat -> Prop} {gT : Nat} {vt : Value} {xs : List Int} {WA : World} {gF : Nat} {ext : Int} {vl vm : Value} {wr : World} {I : Nat} {vd vv : Value} {ds : List DomM} {vs : List DveM}
theorem own_same{w w':World}{base:Nat}{e:TypeId}{s:Nat}{v:Value}{n:Nat}{xs:List Value}(h:w.ownsRow base e s v n xs)(hs:w.heap.size<=w'.heap.size)(hb:∀g,v.ownBlock=some g->w'.heap[g]?=w.heap[g]?):w'.ownsRow base e s v n xs:=by
 refine⟨h.1,?_⟩;rcases h.2 with h0 | ⟨g,cap,cur,rfl,h1,h2,h3,h4,h5⟩
 ·exact .inl h0
 ·exact .inr ⟨g,cap,cur,rfl,h1,(hb g rfl).trans h2,h3,h4,h5⟩
theorem own_hot{w w':World}{hot:List (Option Nat)}{base:Nat}{e:TypeId}{s:Nat}{v:Value}{n:Nat}{xs:List Value}(h:w.ownsRow base e s v n xs)(hh:HotBy hot w w')(hne:∀g,v.ownBlock=some g->some g∉hot):w'.ownsRow base e s v n xs :=
 own_same h hh.size (fun g hg=>hh.block g (h.lt g hg).2 (hne g hg))
theorem Cold.hot{B:Nat}{w w':World}{hot hot2:List (Option Nat)}(hh:HotBy hot2 w w')(hr:∀b,B<=b->b<w.heap.size->some b∈hot2->some b∈hot):Kept (Cold B w hot) w w':=fun b hb=>hh.block b hb.2.1 (fun e=>hb.2.2 (hr b hb.1 hb.2.1 e))
theorem InvA.next_any(S:StatA w0 R gT vt xs WA gF)(h:InvA gT vt WA gF ext vl vm wr I vd vv ds vs)(hI:I<=1000000000)(n:Nat)(h1:1<=n)(h2:n<=1000000) :
  Calls Tryz.prog 61 #[.pointer (some ⟨gT,0,none⟩),.int .i64 (n:Int)] wr fun e w'=>∃r:Nat,e=.returned (.int .i64 (r:Int))/\r<n/\InvA gT vt WA gF ext vl vm w' (I+1) vd vv ds vs:=by
 refine(next_hot w0 R gT vt xs S.hx S.hR wr (S.w0 h.hot) I h.tape (by omega) n h1 (by omega)).mono ?_;rintro e w' ⟨r,rfl,hr,hT,hg⟩;have hh:HotBy [some gT] wr w':=HotBy.grown hg (.inl (by simp));have hTl:gT<WA.heap.size:=zM S.gT S.hot.size
 have hFT:gF≠gT:=by have:=S.gF1;have:=S.gT;omega
 refine⟨r,rfl,hr,hT,h.hot.trans (hh.more (fun x hx _=>by simp at hx ⊢;exact .inl hx)),(hg.block gF h.flt.lt (fun e=>hFT (Option.some.inj e))).trans h.flt,?_,?_,h.apart⟩
 ·obtain⟨cs,c1,c2⟩:=h.dom;refine⟨cs,own_hot c1 hh (fun g hg2 e=>?_),fun k a ha=>?_⟩
  ·have:=(c1.lt g hg2).1;simp at e;omega
  ·obtain⟨c,d1,d2,d3⟩:=c2 k a ha;refine⟨c,d1,d2,domK.mono (fun b hb=>⟨hb.1,zM hb.2.1 hg.size,hb.2.2⟩) (domK.keep (Cold.hot hh (fun b hb _ e=>?_)) d3)⟩;simp at e;omega
 ·exact own_hot h.dve hh (fun g hg2 e=>by
   have:=(h.dve.lt g hg2).1
   simp at e;omega)
def domM(n:Nat)(level parent uplink:Int):DomM:=⟨⟨(nameL 110 n).toArray⟩,level,parent,uplink,⟨false,0,1⟩⟩
theorem InvA.domain_any(S:StatA w0 R gT vt xs WA gF)(h:InvA gT vt WA gF ext vl vm wr I vd vv ds vs)(hd:ds.length<=1000)(level parent uplink:Int) :
  Calls Tryz.prog 62 #[.pointer (some ⟨gF,0,none⟩),.int .i64 level,.int .i64 parent,.int .i64 uplink] wr fun e w'=>e=.returned (.int .i64 (ds.length:Int))/\∃vd',InvA gT vt WA gF ext vl vm w' I vd' vv (ds++[domM ds.length level parent uplink]) vs:=by
 obtain⟨cs,c1,c2⟩:=h.dom;refine(Go.Proofs.YtgfaieppacabjaaGreat.domain_any gF ext vl vm vd vv _ _ ds.length cs WA.heap.size level parent uplink wr h.flt c1 S.gF2 h.hot.size hd).mono ?_;rintro e w' ⟨rfl,vd',vn2,vd2,hF,ho,hn,hd2,hat,hh⟩;have hTl:gT<WA.heap.size:=zM S.gT S.hot.size
 have hFT:gF≠gT:=by have:=S.gF1;have:=S.gT;omega
 have hcl:cs.length=ds.length*7:=c1.1
 have hvd:∀g,vd.ownBlock=some g->WA.heap.size<=g/\g<wr.heap.size:=fun g hg=>c1.lt g hg
 have hvv:∀g,vv.ownBlock=some g->WA.heap.size<=g/\g<wr.heap.size:=fun g hg=>h.dve.lt g hg
 have hgT:some gT∉[some gF,vd.ownBlock]:=fun e=>by
  simp at e;rcases e with e | e
  ·exact hFT e.symm
  ·have:=(hvd gT e.symm).1;omega
 have hot2:HotBy [some gT,some gF] WA w':=⟨hh.os.trans h.hot.os,hh.tape.trans h.hot.tape,hh.output.trans h.hot.output,Nat.le_trans h.hot.size hh.size,fun b hb hn=>(hh.block b (zM hb h.hot.size) (fun e=>by
  simp at e hn;rcases e with e | e
  ·exact hn.2 e
  ·have:=(hvd b e.symm).1;omega)).trans (h.hot.block b hb hn)⟩
 refine⟨rfl,vd',?_,hot2,hF,?_,?_,?_⟩
 ·exact(hh.block gT (zM hTl h.hot.size) hgT).trans h.tape
 ·refine OwnK.push (v:=vd) domK (fun k x hx=>c2 k x hx) hcl ho rfl (Cold.hot hh (fun b hb hlt e=>?_)) (fun b hb=>⟨hb.1,zM hb.2.1 hh.size,fun e=>?_⟩) ⟨vn2,vd2,rfl,hn.mono (fun b hb=>⟨Nat.le_trans h.hot.size hb.1,hb.2.1,fun e=>?_⟩),hd2.mono (fun b hb=>⟨Nat.le_trans h.hot.size hb.1,hb.2.1,fun e=>?_⟩)⟩
  ·simp at e ⊢;rcases e with e | e
   ·have:=S.gF2;omega
   ·exact .inl e
  ·simp at e;rcases e with e | e
   ·rcases hat with h1 | ⟨x,h1,h2⟩
    ·exact hb.2.2 (by rw[e,h1];simp)
    ·rw[h1] at e;injection e with e;have:=hb.2.1;omega
   ·exact hb.2.2 (by rw[e];simp)
  ·simp at e;rcases e with e | e
   ·exact hb.2.2 e.symm
   ·have:=(hvv b e.symm).2;have:=hb.1;omega
  ·simp at e;rcases e with e | e
   ·exact hb.2.2 e.symm
   ·have:=(hvv b e.symm).2;have:=hb.1;omega
 ·refine own_hot h.dve hh (fun g hg e=>?_);simp at e;rcases e with e | e
  ·have:=(hvv g hg).1;have:=S.gF2;omega
  ·rcases h.apart with h1 | h1
   ·rw[h1] at e;cases e
   ·exact h1 (e▸hg.symm▸rfl)
 ·rcases hat with h1 | ⟨x,h1,h2⟩
  ·rw[h1];exact h.apart
  ·right
   rw[h1];intro e;have:=(hvv x e.symm).2;omega
theorem flatMap_snoc{α β:Type}(f:α->List β)(l:List α)(x:α):(l++[x]).flatMap f=l.flatMap f++f x:=by simp
theorem InvA.drive(S:StatA w0 R gT vt xs WA gF)(h:InvA gT vt WA gF ext vl vm wr I vd vv ds vs){w':World}{vv':Value}{x:DveM}(hh:HotBy [some gF,vv.ownBlock] wr w')(hF:FltB w' gF ext vl vm vd vv' (.slice none 0 0) (.slice none 0 0))
  (ho:w'.ownsRow WA.heap.size 102 3 vv' (vs.length+1) (vs.flatMap dveC++dveC x)) (hat:vv'.ownBlock=vv.ownBlock\/∃x,vv'.ownBlock=some x/\wr.heap.size<=x):InvA gT vt WA gF ext vl vm w' I vd vv' ds (vs++[x]):=by
 have hTl:gT<WA.heap.size:=zM S.gT S.hot.size
 have hFT:gF≠gT:=by have:=S.gF1;have:=S.gT;omega
 have hvd:∀g,vd.ownBlock=some g->WA.heap.size<=g/\g<wr.heap.size:=fun g hg=>h.dom.lt g hg
 have hvv:∀g,vv.ownBlock=some g->WA.heap.size<=g/\g<wr.heap.size:=fun g hg=>h.dve.lt g hg
 have hgT:some gT∉[some gF,vv.ownBlock]:=fun e=>by
  simp at e;rcases e with e | e
  ·exact hFT e.symm
  ·have:=(hvv gT e.symm).1;omega
 have hot2:HotBy [some gT,some gF] WA w':=⟨hh.os.trans h.hot.os,hh.tape.trans h.hot.tape,hh.output.trans h.hot.output,Nat.le_trans h.hot.size hh.size,fun b hb hn=>(hh.block b (zM hb h.hot.size) (fun e=>by
  simp at e hn;rcases e with e | e
  ·exact hn.2 e
  ·have:=(hvv b e.symm).1;omega)).trans (h.hot.block b hb hn)⟩
 obtain⟨cs,c1,c2⟩:=h.dom;refine⟨(hh.block gT (zM hTl h.hot.size) hgT).trans h.tape,hot2,hF,⟨cs,own_hot c1 hh (fun g hg e=>?_),fun k a ha=>?_⟩,?_,?_⟩
 ·simp at e;rcases e with e | e
  ·have:=(hvd g hg).1;have:=S.gF2;omega
  ·rcases h.apart with h1 | h1
   ·rw[h1] at hg;cases hg
   ·exact h1 (hg.trans e)
 ·obtain⟨c,d1,d2,d3⟩:=c2 k a ha;refine⟨c,d1,d2,domK.mono (fun b hb=>⟨hb.1,zM hb.2.1 hh.size,fun e=>?_⟩) (domK.keep (Cold.hot hh (fun b hb hlt e=>?_)) d3)⟩
  ·simp at e;rcases e with e | e
   ·exact hb.2.2 (by rw[e];simp)
   ·rcases hat with h1 | ⟨x,h1,h2⟩
    ·exact hb.2.2 (by rw[e,h1];simp)
    ·rw[h1] at e;injection e with e;have:=hb.2.1;omega
  ·simp at e ⊢;rcases e with e | e
   ·have:=S.gF2;omega
   ·exact .inr e
 ·rw[zP,flatMap_snoc];exact ho
 ·rcases hat with h1 | ⟨x,h1,h2⟩
  ·rw[h1];exact h.apart
  ·by_cases e0:vd.ownBlock=none
   ·exact .inl e0
   ·right
    rw[h1];intro e;have:=(hvd x e).2;omega
theorem info_dve:(Tryz.prog.info? 102).map (fun i=>(i.zero,i.size,i.bytes))=some (some (.agg #[.string ⟨#[]⟩,.int .i64 0,.int .i64 0]),3,32):=by kernel_rfl
end
def FrcV(w:World)(R:Nat->Prop)(v:Value)(x:Frc):Prop:=∃An Ln cn Ad Ld cd,v=.agg #[.bool x.neg,.slice An Ln cn,.slice Ad Ld cd]/\LS w R (.slice An Ln cn) (natL x.num)/\LS w R (.slice Ad Ld cd) (natL x.den)
theorem FrcS.v{w:World}{R:Nat->Prop}{v:Value}{x:Frc}(h:FrcS w R v x):FrcV w R v x:=by
 obtain⟨vn,vd,rfl,h1,h2⟩:=h;obtain⟨An,cn,rfl,-,-⟩:=h1.form;obtain⟨Ad,cd,rfl,-,-⟩:=h2.form;exact⟨An,_,cn,Ad,_,cd,rfl,h1,h2⟩
theorem fracV(n m:Nat)(w:World)(hn:n<4294967296)(hm:m<4294967296)(h0:0<m)(x:Frc)(hx:lowF false n m=x)(vn vm:Int)(e1:vn=(n:Int))(e2:vm=(m:Int)) :
  Calls Tryz.prog 9 #[.int .i64 vn,.int .i64 vm] w fun e w'=>∃v,e=.returned v/\FrcV w' (Fr w.heap.size w'.heap.size) v x/\Below w.heap.size w w':=by
 subst e1;subst e2;refine(frac_any n m w hn hm h0).mono ?_;rintro e w' ⟨v,rfl,h1,h2⟩;rw[hx] at h1;exact⟨v,rfl,h1.v,h2⟩
theorem low1(m:Nat):lowF false 1 m=⟨false,1,m⟩:=by simp[lowF]
theorem low_m1(n:Nat)(h:n≠0):lowF false n 1=⟨false,n,1⟩:=by simp[lowF,h]
theorem slS_lit{α:Type}{size:Nat}{K:World->(Nat->Prop)->List Value->α->Prop}(hK:Steady K)(w:World)(cs:List Value)(es:List α)(t:TypeId)(B:Nat)(h:∀k a,es[k]?=some a->∃c,c.length=size/\(∀i u,c[i]?=some u->cs[k*size+i]?=some u)/\K w (Fr B w.heap.size) c a)(hm:es.length<=maxLen)(hB:B<=w.heap.size) :
  SlS size K (w.alloc (.cells cs.toArray t)) (Fr B (w.alloc (.cells cs.toArray t)).heap.size) (.slice (some ⟨w.heap.size,0,none⟩) es.length es.length) es:=by
 refine⟨_,_,rfl,zR _,hm,fun _=>⟨w.heap.size,0,rfl,⟨hB,by simp⟩,fun k a ha=>?_⟩⟩;obtain⟨c,h1,h2,h3⟩:=h k a ha;refine⟨c,h1,fun i u hu=>?_,hK.mono (fun b hb=>⟨hb.1,by have:=hb.2;simp;omega⟩) (hK.keep ((kept_alloc w _).mono (fun b hb=>hb.2)) h3)⟩;rw[Nat.zero_add,cell_of_row _ _ _ _ _ _ (zN w _)]
 simpa using h2 i u hu
theorem slS_lit1{α:Type}{size:Nat}{K:World->(Nat->Prop)->List Value->α->Prop}(hK:Steady K)(w:World)(cs:List Value)(a:α)(t:TypeId)(B:Nat)(hl:cs.length=size)(h:K w (Fr B w.heap.size) cs a)(hB:B<=w.heap.size) :
  SlS size K (w.alloc (.cells cs.toArray t)) (Fr B (w.alloc (.cells cs.toArray t)).heap.size) (.slice (some ⟨w.heap.size,0,none⟩) 1 1) [a] :=
 slS_lit hK w cs [a] t B (fun k x hx=>by
  match k,hx with
  | 0,hx=>simp at hx;subst hx;exact⟨cs,hl,fun i u hu=>by simpa using hu,h⟩) (by unfold maxLen;simp) hB
theorem kept_hot{B:Nat}{hot:List (Option Nat)}{w w':World}(hh:HotBy hot w w')(hb:∀b,some b∈hot->b<B):Kept (Fr B w.heap.size) w w':=fun b hx=>hh.block b hx.2 (fun e=>by have:=hb b e;have:=hx.1;omega)
theorem SlS.hot{α:Type}{size:Nat}{K:World->(Nat->Prop)->List Value->α->Prop}(hK:Steady K){B:Nat}{hot:List (Option Nat)}{w w':World}{v:Value}{es:List α}(h:SlS size K w (Fr B w.heap.size) v es)(hh:HotBy hot w w')(hb:∀b,some b∈hot->b<B):SlS size K w' (Fr B w'.heap.size) v es :=
 SlS.mono hK (SlS.keep hK h (kept_hot hh hb)) (fun b hx=>⟨hx.1,zM hx.2 hh.size⟩)
theorem LS.hot{B:Nat}{hot:List (Option Nat)}{w w':World}{v:Value}{l:List Nat}(h:LS w (Fr B w.heap.size) v l)(hh:HotBy hot w w')(hb:∀b,some b∈hot->b<B):LS w' (Fr B w'.heap.size) v l :=
 (h.keep (kept_hot hh hb)).mono (fun b hx=>⟨hx.1,zM hx.2 hh.size⟩)
theorem LS.fr{w:World}{B B' n:Nat}{v:Value}{l:List Nat}(h:LS w (Fr B n) v l)(hB:B'<=B):LS w (Fr B' n) v l:=h.mono (fun b hx=>⟨Nat.le_trans hB hx.1,hx.2⟩)
structure StF (gT:Nat) (vt:Value) (W2:World) (gF g4:Nat) (wr:World) (I:Nat) (e:Int) (vl vm vd vv vp vo:Value):Prop where
 tape:TapeB wr gT vt I
 flt:FltB wr gF e vl vm vd vv vp vo
 f4:FltB wr g4 0 (.slice none 0 0) (.slice none 0 0) (.slice none 0 0) (.slice none 0 0) (.slice none 0 0) (.slice none 0 0)
 hot:HotBy [some gT,some gF] W2 wr
 neF:gF≠gT
 ne4:g4≠gT
 ne4F:g4≠gF
 lT:gT<W2.heap.size
 lF:gF<W2.heap.size
section
variable {gT : Nat} {vt : Value} {W2 : World} {gF g4 : Nat} {wr w' : World} {I : Nat} {e : Int} {vl vm vd vv vp vo : Value}
theorem TapeB.lt{W:World}{g:Nat}{vl:Value}{I:Nat}(h:TapeB W g vl I):g<W.heap.size:=(zA.1 h).1
theorem StF.below(h:StF gT vt W2 gF g4 wr I e vl vm vd vv vp vo)(hb:Below wr.heap.size wr w'):StF gT vt W2 gF g4 w' I e vl vm vd vv vp vo :=
 ⟨(hb.block gT h.tape.lt).trans h.tape,h.flt.below hb,h.f4.below hb,h.hot.trans (HotBy.below hb),h.neF,h.ne4,h.ne4F,h.lT,h.lF⟩
theorem StF.alloc(h:StF gT vt W2 gF g4 wr I e vl vm vd vv vp vo)(o:Obj):StF gT vt W2 gF g4 (wr.alloc o) I e vl vm vd vv vp vo:=h.below ((zB _ _).alloc (zR _) _)
theorem StF.next(h:StF gT vt W2 gF g4 wr I e vl vm vd vv vp vo)(hg:wr.grownBy w' (some gT)){J:Nat}(hT:TapeB w' gT vt J):StF gT vt W2 gF g4 w' J e vl vm vd vv vp vo :=
 ⟨hT,(hg.block gF h.flt.lt (fun x=>h.neF (Option.some.inj x))).trans h.flt,(hg.block g4 h.f4.lt (fun x=>h.ne4 (Option.some.inj x))).trans h.f4,h.hot.trans (HotBy.grown hg (.inl (by simp))),h.neF,h.ne4,h.ne4F,h.lT,h.lF⟩
theorem StF.set_(h:StF gT vt W2 gF g4 wr I e vl vm vd vv vp vo)(i:Nat)(u:Value){vl' vm' vd' vv' vp' vo':Value}(hF:FltB (wr.setCell ⟨gF,i,none⟩ u) gF e vl' vm' vd' vv' vp' vo'):StF gT vt W2 gF g4 (wr.setCell ⟨gF,i,none⟩ u) I e vl' vm' vd' vv' vp' vo' :=
 ⟨(Below.heap_setCell wr ⟨gF,i,none⟩ u gT (fun x=>h.neF x.symm)).trans h.tape,hF,(Below.heap_setCell wr ⟨gF,i,none⟩ u g4 (fun x=>h.ne4F x)).trans h.f4,h.hot.trans (HotBy.setCell _ _ _ _ (by simp)),h.neF,h.ne4,h.ne4F,h.lT,h.lF⟩
theorem StF.set1(h:StF gT vt W2 gF g4 wr I e vl vm vd vv vp vo)(u:Value):StF gT vt W2 gF g4 (wr.setCell ⟨gF,1,none⟩ u) I e u vm vd vv vp vo:=h.set_ 1 u (heap_setCell_same wr gF 1 _ _ u h.flt)
theorem StF.set2(h:StF gT vt W2 gF g4 wr I e vl vm vd vv vp vo)(u:Value):StF gT vt W2 gF g4 (wr.setCell ⟨gF,2,none⟩ u) I e vl u vd vv vp vo:=h.set_ 2 u (heap_setCell_same wr gF 2 _ _ u h.flt)
theorem StF.set3(h:StF gT vt W2 gF g4 wr I e vl vm vd vv vp vo)(u:Value):StF gT vt W2 gF g4 (wr.setCell ⟨gF,3,none⟩ u) I e vl vm u vv vp vo:=h.set_ 3 u (heap_setCell_same wr gF 3 _ _ u h.flt)
theorem StF.cold(h:StF gT vt W2 gF g4 wr I e vl vm vd vv vp vo):∀b,some b∈[some gT,some gF]->b<W2.heap.size:=fun b x=>by
 simp at x;rcases x with rfl | rfl
 ·exact h.lT
 ·exact h.lF
theorem StF.sl{α:Type}{size:Nat}{K:World->(Nat->Prop)->List Value->α->Prop}(hK:Steady K)(h:StF gT vt W2 gF g4 wr I e vl vm vd vv vp vo){hot:List (Option Nat)}(hh:HotBy hot wr w')(hb:∀b,some b∈hot->some b∈[some gT,some gF]){v:Value}{es:List α}(hs:SlS size K wr (Fr W2.heap.size wr.heap.size) v es):SlS size K w' (Fr W2.heap.size w'.heap.size) v es :=
 SlS.hot hK hs hh (fun b x=>h.cold b (hb b x))
theorem StF.w0(h:StF gT vt W2 gF g4 wr I e vl vm vd vv vp vo){w:World}(h0:HotBy [some gT] w W2)(hF:w.heap.size<=gF):HotBy [some gT] w wr :=
 ⟨h.hot.os.trans h0.os,h.hot.tape.trans h0.tape,h.hot.output.trans h0.output,Nat.le_trans h0.size h.hot.size,fun b hb hn=>(h.hot.block b (zM hb h0.size) (fun x=>by
  simp at x hn
  omega)).trans (h0.block b hb hn)⟩
theorem StF.next_any(h:StF gT vt W2 gF g4 wr I e vl vm vd vv vp vo){w:World}{R:Nat->Prop}{xs:List Int}(h0:HotBy [some gT] w W2)(hF:w.heap.size<=gF)(hx:IntS w R vt xs)(hR:∀b,R b->b<w.heap.size/\b≠gT)(hI:I<=1000000000)(n:Nat)(h1:1<=n)(h2:n<=1000000)(nv:Int)(hn:nv=(n:Int)) :
  Calls Tryz.prog 61 #[.pointer (some ⟨gT,0,none⟩),.int .i64 nv] wr fun r w'=>∃k:Nat,r=.returned (.int .i64 (k:Int))/\k<n/\StF gT vt W2 gF g4 w' (I+1) e vl vm vd vv vp vo/\HotBy [some gT] wr w':=by
 subst hn;refine(next_hot w R gT vt xs hx hR wr (h.w0 h0 hF) I h.tape (by omega) n h1 (by omega)).mono ?_;rintro r w' ⟨k,rfl,hk,hT,hg⟩;exact⟨k,rfl,hk,h.next hg hT,HotBy.grown hg (.inl (by simp))⟩
end
def LevAt(ds:List DomM)(x:Nat)(lv:Int):Prop:=∃d,ds[x]?=some d/\d.level=lv
theorem LevAt.more{ds:List DomM}{x:Nat}{lv:Int}(h:LevAt ds x lv)(d:DomM):LevAt (ds++[d]) x lv:=by
 obtain⟨e,h1,h2⟩:=h;exact⟨e,by rw[List.getElem?_append_left (zL.1 h1).1];exact h1,h2⟩
theorem LevAt.lt{ds:List DomM}{x:Nat}{lv:Int}(h:LevAt ds x lv):x<ds.length:=by
 obtain⟨e,h1,h2⟩:=h;exact(zL.1 h1).1
def rootM:DomM:=⟨{ data:=#[] },0,-1,0,⟨false,0,1⟩⟩
structure DomOk (ds:List DomM):Prop where
 root:ds[0]?=some rootM
 rest:∀i d,ds[i]?=some d->1<=i->d.name=⟨(nameL 110 i).toArray⟩/\1<=d.level/\d.level<=4/\(∃p:Nat,d.parent=(p:Int)/\p<i/\LevAt ds p (d.level-1))/\1<=d.uplink/\d.uplink<=64/\d.shock=⟨false,0,1⟩
theorem DomOk.start:DomOk [rootM]:=⟨rfl,fun i d h h1=>by
 match i,h with
 | 0,h=>omega
 | i+1,h=>simp at h⟩
theorem DomOk.pos{ds:List DomM}(h:DomOk ds):0<ds.length:=(zL.1 h.root).1
theorem DomOk.root0{ds:List DomM}(h:DomOk ds):LevAt ds 0 0:=⟨_,h.root,rfl⟩
theorem DomOk.push{ds:List DomM}(h:DomOk ds){level:Int}{p:Nat}{uplink:Int}(h1:1<=level)(h2:level<=4)(hp:LevAt ds p (level-1))(h3:1<=uplink)(h4:uplink<=64):DomOk (ds++[domM ds.length level (p:Int) uplink]):=by
 refine⟨by rw[List.getElem?_append_left h.pos];exact h.root,fun i d hd hi=>?_⟩;rcases Nat.lt_or_ge i ds.length with hlt | hge
 ·rw[List.getElem?_append_left hlt] at hd;obtain⟨g1,g2,g3,⟨q,g4,g5,g6⟩,g7⟩:=h.rest i d hd hi;exact⟨g1,g2,g3,⟨q,g4,g5,g6.more _⟩,g7⟩
 ·have he:i=ds.length:=by
   have:=(zL.1 hd).1;rw[zP] at this;simp at this;omega
  subst he;rw[List.getElem?_append_right (zR _),Nat.sub_self] at hd;simp at hd;subst hd;exact⟨rfl,h1,h2,⟨p,rfl,hp.lt,hp.more _⟩,h3,h4,rfl⟩
theorem LevAt.last(ds:List DomM)(level parent uplink:Int):LevAt (ds++[domM ds.length level parent uplink]) ds.length level:=⟨domM ds.length level parent uplink,by simp,rfl⟩
def dveM(n:Nat)(model machine:Int):DveM:=⟨⟨(nameL 100 n).toArray⟩,model,machine⟩
def DveOk(vs:List DveM)(ds:List DomM):Prop:=∀(j:Nat) (x:DveM),vs[j]?=some x->x.name=⟨(nameL 100 j).toArray⟩/\(x.model=0\/x.model=1)/\∃m:Nat,x.machine=(m:Int)/\LevAt ds m 4
theorem DveOk.nil(ds:List DomM):DveOk [] ds:=fun j x h=>by simp at h
theorem DveOk.more{vs:List DveM}{ds:List DomM}(h:DveOk vs ds)(d:DomM):DveOk vs (ds++[d]):=fun j x hx=>by
 obtain⟨h1,h2,m,h3,h4⟩:=h j x hx;exact⟨h1,h2,m,h3,h4.more d⟩
theorem DveOk.push{vs:List DveM}{ds:List DomM}(h:DveOk vs ds){model:Int}(hm:model=0\/model=1){m:Nat}(hl:LevAt ds m 4):DveOk (vs++[dveM vs.length model (m:Int)]) ds:=by
 intro j x hx;rcases Nat.lt_or_ge j vs.length with hlt | hge
 ·rw[List.getElem?_append_left hlt] at hx;exact h j x hx
 ·have he:j=vs.length:=by
   have:=(zL.1 hx).1;rw[zP] at this;simp at this;omega
  subst he;rw[List.getElem?_append_right (zR _),Nat.sub_self] at hx;simp at hx;subst hx;exact⟨rfl,hm,m,rfl,hl⟩
end Go.Proofs.YtgfaieppacabjaaGreat
