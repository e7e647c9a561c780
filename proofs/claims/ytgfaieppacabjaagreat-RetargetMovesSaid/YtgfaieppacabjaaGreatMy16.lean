/- Names and fresh names of the reference, walked. -/
import Derived.Test.YtgfaieppacabjaaGreatMy15
import Derived.Test.YtgfaieppacabjaaGreatMy12
set_option linter.unusedSectionVars false
set_option maxRecDepth 100000
set_option maxHeartbeats 12800000
namespace Go.Proofs.YtgfaieppacabjaaGreat
open Go.RowKit
set_option linter.unusedVariables false
set_option linter.unusedSimpArgs false
theorem rletter_any(c:UInt8)(w:World)(h1:97<=c.toNat)(h2:c.toNat<=122):Calls Tryz.prog 167 #[.int .u8 (c.toNat:Int)] w fun e w'=>e=.returned (.bool true)/\w=w':=by
 have q1:(97:Int)<=(c.toNat:Int):=by omega
 have q2:(c.toNat:Int)<=122:=by omega
 go_enter Tryz.func167,Tryz.ntmps167;go_wp2_with fail;go_ret;exact⟨ret_bool (by simp[q1,q2]),rfl⟩
theorem rinner_any(c:UInt8)(w:World)(h1:97<=c.toNat)(h2:c.toNat<=122):Calls Tryz.prog 168 #[.int .u8 (c.toNat:Int)] w fun e w'=>e=.returned (.bool true)/\w=w':=by
 have HL:=zh (rletter_any c w h1 h2);go_enter Tryz.func168,Tryz.ntmps168;go_wp2_with fail;refine HL.out.mono ?_;rintro e w1 ⟨rfl,rfl⟩;go_wp2_with fail;go_ret;exact⟨rfl,rfl⟩
theorem rname_any(s:ByteArray)(w:World)(h:LowN s):Calls Tryz.prog 142 #[.string s] w fun e w'=>e=.returned (.bool true)/\w=w':=by
 obtain⟨h1,h2,h3⟩:=h
 have hE:s.toList.isEmpty=false:=by
  rw[ByteArray.toList_eq]
  cases hl:s.data.toList with
  | nil =>
   have:s.size=0:=by show s.data.size=0;rw[<-Array.length_toList,hl];rfl
   omega
  | cons a l=>rfl
 have HA:=zh h3
 have hel:∀i (hi:i<s.size),97<=(s[i]'hi).toNat/\(s[i]'hi).toNat<=122:=fun i hi=>h3 _ (by rw[<-Array.mem_def];exact Array.getElem_mem hi)
 have HEL:=zh hel
 have q1:(0:Int)<(s.size:Int):=by omega
 have q2:¬((16:Int)<(s.size:Int)):=by omega
 clear h3 hel;go_enter Tryz.func142,Tryz.ntmps142;go_wp2_with fail;refine(rletter_any _ w (HEL.out 0 (by omega)).1 (HEL.out 0 (by omega)).2).mono ?_;rintro e w1 ⟨rfl,rfl⟩;go_wp2_with fail;go_loopg [3] s.size (fun z v3 wr=>w=wr/\∃j:Nat,j<=s.size/\z=s.size-j/\v3=.int .i64 (j:Int))
 case atStart=>exact⟨rfl,0,by omega,rfl,rfl⟩
 case round =>
  obtain⟨rfl,j,hj,rfl,rfl⟩:=hrel;by_cases hlt:j<s.size
  ·go_wp2_with fail;refine(rinner_any _ w (HEL.out j hlt).1 (HEL.out j hlt).2).mono ?_;rintro e w1 ⟨rfl,rfl⟩;go_wp2_with fail;go_roundg (s.size-(j+1))
   case measure=>omega
   case rel=>exact⟨rfl,j+1,by omega,rfl,by go_num⟩
  ·go_wp2_with fail;go_ret;exact⟨rfl,rfl⟩
theorem run_app_old{w:World}(base:Nat)(x0:ByteArray)(v:Value)(n:Nat)(xs:List Value)(ty:TypeId)(hown:w.ownsRow base 9 1 v n xs)(hn:n+1<=16777216)(hbase:base<=w.heap.size) :
  ∃v' w',(Builtin.append_ #[110,110] ty #[v,.slice (some ⟨w.heap.size,0,none⟩) 1 1]).run Tryz.prog (w.alloc (.cells #[.string x0] 9))=.ok v' w'/\w'.ownsRow base 9 1 v' (n+1) (xs++[.string x0])/\(w.alloc (.cells #[.string x0] 9)).grownBy w' v.ownBlock/\w'.ownsRow base 9 1 v n xs:=by
 obtain⟨i0,hi0,hz0,hz1,hz2⟩:=info_parts info_strV;have hown':=hown.alloc (.cells #[.string x0] 9);have hnews:∀j u,[Value.string x0][j]?=some u->(w.alloc (.cells #[.string x0] 9)).cell? ((⟨w.heap.size,0,none⟩:Addr).add j)=some u:=cell_one_new w _ _
 have h1c:∀u∈[Value.string x0],u.oneCell'=true:=by intro u hu;rw[List.mem_singleton.1 hu];rfl
 obtain⟨v',w',hr,h2,h3,h4,h5⟩:=run_append_own_at (P:=Tryz.prog) (w.alloc (.cells #[.string x0] 9)) base 110 ty 9 i0 _ 1 16 Tryz.underlying110 hi0 hz0 hz1 hz2 rfl (by omega) v n xs hown' ⟨w.heap.size,0,none⟩ 1 1 [.string x0] rfl hnews h1c (by unfold maxLen;omega) (by omega) (by simp;omega);refine⟨v',w',hr,h2,h3,?_⟩;rcases hown'.2 with ⟨rfl,rfl⟩ | ⟨g,cap,cur,rfl,hbg,hgc,hnc,hcm,hcs,htk⟩
 ·exact⟨hown.1,.inl ⟨rfl,rfl⟩⟩
 ·by_cases hroom:n+1<=cap
  ·have hr2:=run_append_room (P:=Tryz.prog) (w.alloc (.cells #[.string x0] 9)) 110 ty 9 i0 Tryz.underlying110 hi0 g n cap cur hgc ⟨w.heap.size,0,none⟩ 1 1 [.string x0] (by rw[hz1];rfl) hnews h1c hroom (by rw[hz1];simp;omega);rw[hr] at hr2;injection hr2 with e1 e2;rcases h2.2 with ⟨e3,_⟩ | ⟨g',cap',cur',e3,hbg',hgc',hnc',hcm',hcs',htk'⟩
   ·rw[e1] at e3;cases e3
   ·rw[e1] at e3;injection e3 with e4 e5 e6;injection e4 with e4;injection e4 with e4;subst e4;subst e6;refine⟨hown.1,.inr ⟨g,cap,cur',rfl,hbg,hgc',by omega,hcm',hcs',?_⟩⟩;have:=congrArg (List.take (n*1)) htk';rw[List.take_take,Nat.min_eq_left (by omega),List.take_left' (by rw[hown.1])] at this;exact this
  ·have hr2:=run_append_grow (P:=Tryz.prog) (w.alloc (.cells #[.string x0] 9)) 110 ty 9 i0 _ Tryz.underlying110 hi0 hz0 ⟨g,0,none⟩ n cap xs (by rw[hz1];exact hown.1) (hown'.cells (g:=g) rfl) ⟨w.heap.size,0,none⟩ 1 1 [.string x0] (by rw[hz1];rfl) hnews (by omega) (by omega) (growslice_fits (by omega) (by rw[hz2];omega));rw[hr] at hr2;injection hr2 with e1 e2;have hgl:=(zA.1 hgc).1;refine⟨hown.1,.inr ⟨g,cap,cur,rfl,hbg,?_,hnc,hcm,hcs,htk⟩⟩;rw[e2];exact(zH _ _ g hgl).trans hgc
theorem app_old{ops:Array Oper}{rest:List Oper}{o:Oper}{a:Act}{Q:Exit->Act->World->Prop}{w:World}(x0:ByteArray)(s x:Operand)(hgd:o.guard=none)(ho:o.op=.call { callee:=.builtin .append,args:=#[s,x],argTypes:=#[110,110] })
  (base:Nat) (v:Value) (l:List ByteArray) (hs:a.eval s=v) (hown:OwnS w base v l)
  (hx:a.eval x=.slice (some ⟨w.heap.size,0,none⟩) 1 1) (hn:l.length+1<=16777216) (hbase:base<=w.heap.size)
  (h:∀v' w',OwnS w' base v' (l++[x0])->OwnS w' base v l->w.grownBy w' v.ownBlock->wpList Tryz.prog ops Q rest (a.put o.dst v') w') :
  wpList Tryz.prog ops Q (o :: rest) a (w.alloc (.cells #[.string x0] 9)):=by
 refine wpList_plain hgd fun K hK=>?_
 obtain⟨v',w',hr,h2,h3,h4⟩:=run_app_old base x0 v l.length (l.map Value.string) o.type hown hn hbase;unfold Oper.wp execOp;simp only[ho,resolve,invoke,builtin,Sem.run_bind,Sem.run_pure,Result.andThen_ok,List.map_toArray,List.map_cons,List.map_nil,hs,hx,hr];refine hK _ _ (h v' w' ?_ h4 ⟨h3.os,h3.tape,h3.output,Nat.le_trans (by simp) h3.size,fun k hk hne=>(h3.block k (by simp;omega) hne).trans (zH w _ k hk)⟩);unfold OwnS;rw[zP,List.map_append];exact h2
theorem rfresh_any(base:Nat)(v:Value)(l:List ByteArray)(s:ByteArray)(w:World)(ho:OwnS w base v l)(hbase:base<=w.heap.size)(hs:LowN s)(hnot:s∉l)(hl:l.length<=1000)(hsz:∀x∈l,x.size<=maxLen) :
  Calls Tryz.prog 99 #[v,.string s] w fun e w'=>∃u,e=.returned (.tuple #[u,.bool true])/\OwnS w' base u (l++[s])/\w.grownBy w' v.ownBlock:=by
 obtain⟨A,c,rfl⟩:=ho.form;have HO:=zh ho;have HS:=zh hs;have HN:=zh hnot;have HL:=zh hl;have HB:=zh hbase;have HZ:=zh hsz;clear ho hs hnot hl hbase hsz;go_enter Tryz.func99,Tryz.ntmps99;go_wp2_with (at_builtin;refine app_old s (.tmp 6) (.tmp 8) rfl rfl base (.slice A l.length c) l (by rfl) HO.out (by rfl) (by have:=HL.out;omega) HB.out ?_;intro v5 w5 hown5 hold5 hg5;have HO5:=zh hown5;have HD5:=zh hold5;have HG5:=zh hg5;clear hown5 hold5 hg5);refine(rname_any s w5 HS.out).mono ?_;rintro e w6 ⟨rfl,rfl⟩;go_wp2_with fail;refine(rindex_any _ l s _ w5 (HD5.out.slS HZ.out) HN.out).mono ?_;rintro e w6 ⟨rfl,rfl⟩;go_wp2_with fail;go_ret2;exact⟨_,rfl,HO5.out,HG5.out⟩
theorem rrepairs0_any(v:Value)(w:World)(h:SlS 3 FrcK w (Bl w.heap.size) v (List.replicate 1 ⟨false,1,2⟩)) :
  Calls Tryz.prog 148 #[v,.int .i64 0] w fun e w'=>e=.returned (.bool true)/\Below w.heap.size w w':=by
 have HSM:=zh (rsmalls_any v _ w h (fun x hx=>by rw[List.eq_of_mem_replicate hx];exact⟨rfl,by decide,by decide⟩));obtain⟨A,c,hv,-,-⟩:=h.form;rw[show(List.replicate 1 (⟨false,1,2⟩:Frc)).length=1 from rfl] at hv HSM;subst hv;have HSM:=zh (show Calls Tryz.prog 144 #[.slice A 1 c,.int .i64 1] w fun e w'=>e=.returned (.bool true)/\Below w.heap.size w w' from HSM.out);have HS:=zh (fun(w':World) (hb:Below w.heap.size w w')=>SlS.below frcK h hb);clear h;go_enter Tryz.func148,Tryz.ntmps148;go_wp2_with fail;refine HSM.out.mono ?_;rintro e w1 ⟨rfl,hb1⟩;have HB1:=zh hb1;clear hb1;go_wp2_with fail;go_loopg [5] 1 (fun z v5 wr=>∃j:Nat,j<=1/\z=1-j/\v5=.int .i64 (j:Int)/\Hid (Below w.heap.size w wr))
 case atStart=>exact⟨0,by omega,rfl,rfl,HB1.out⟩
 case round =>
  obtain⟨j,hj,rfl,rfl,HBR⟩:=hrel;by_cases hlt:j<1
  ·obtain⟨p,off,cs,rfl,hR,-,hc,vn,vd,hcs,hvn,hvd⟩:=(HS.out wr HBR.out).at_ (k:=j) (by rw[List.length_replicate];exact hlt);rw[List.getElem_replicate] at hcs hvn hvd;obtain⟨k0,k1,k2⟩:=three hc hcs;obtain⟨A1,N1,d1,rfl⟩:=hvn.frm;obtain⟨A2,N2,d2,rfl⟩:=hvd.frm;have HSG:=zh (rsign_any _ _ 1 2 wr hvn hvd (by omega));rw[show cmpI 1 0=1 from rfl] at HSG;clear hc hcs hvn hvd hR;go_wp2_with fail;refine HSG.out.mono ?_;rintro e w2 ⟨rfl,hb2⟩;have HB2:=zh (HBR.out.trans (hb2.mono HBR.out.size));clear hb2 k0 k1 k2;go_wp2_with fail;go_roundg (1-(j+1))
   case measure=>omega
   case rel=>exact⟨j+1,by omega,rfl,by go_num,HB2.out⟩
  ·go_wp2_with fail;go_ret;exact⟨rfl,HBR.out⟩
theorem rrepairs1_any(v:Value)(w:World)(h:SlS 3 FrcK w (Bl w.heap.size) v (List.replicate 1 ⟨false,1,2⟩)) :
  Calls Tryz.prog 148 #[v,.int .i64 1] w fun e w'=>e=.returned (.bool true)/\Below w.heap.size w w':=by
 have HSM:=zh (rsmalls_any v _ w h (fun x hx=>by rw[List.eq_of_mem_replicate hx];exact⟨rfl,by decide,by decide⟩));obtain⟨A,c,hv,-,-⟩:=h.form;rw[show(List.replicate 1 (⟨false,1,2⟩:Frc)).length=1 from rfl] at hv HSM;subst hv;have HSM:=zh (show Calls Tryz.prog 144 #[.slice A 1 c,.int .i64 1] w fun e w'=>e=.returned (.bool true)/\Below w.heap.size w w' from HSM.out);have HS:=zh (fun(w':World) (hb:Below w.heap.size w w')=>SlS.below frcK h hb);clear h;go_enter Tryz.func148,Tryz.ntmps148;go_wp2_with fail;refine HSM.out.mono ?_;rintro e w1 ⟨rfl,hb1⟩;have HB1:=zh hb1;clear hb1;go_wp2_with fail;go_loopg [5] 1 (fun z v5 wr=>∃j:Nat,j<=1/\z=1-j/\v5=.int .i64 (j:Int)/\Hid (Below w.heap.size w wr))
 case atStart=>exact⟨0,by omega,rfl,rfl,HB1.out⟩
 case round =>
  obtain⟨j,hj,rfl,rfl,HBR⟩:=hrel;by_cases hlt:j<1
  ·obtain⟨p,off,cs,rfl,hR,-,hc,vn,vd,hcs,hvn,hvd⟩:=(HS.out wr HBR.out).at_ (k:=j) (by rw[List.length_replicate];exact hlt);rw[List.getElem_replicate] at hcs hvn hvd;obtain⟨k0,k1,k2⟩:=three hc hcs;obtain⟨A1,N1,d1,rfl⟩:=hvn.frm;obtain⟨A2,N2,d2,rfl⟩:=hvd.frm;have HSG:=zh (rsign_any _ _ 1 2 wr hvn hvd (by omega));rw[show cmpI 1 0=1 from rfl] at HSG;clear hc hcs hvn hvd hR;go_wp2_with fail;refine HSG.out.mono ?_;rintro e w2 ⟨rfl,hb2⟩;have HB2:=zh (HBR.out.trans (hb2.mono HBR.out.size));clear hb2 k0 k1 k2;go_wp2_with fail;go_roundg (1-(j+1))
   case measure=>omega
   case rel=>exact⟨j+1,by omega,rfl,by go_num,HB2.out⟩
  ·go_wp2_with fail;go_ret;exact⟨rfl,HBR.out⟩
theorem rrepairs2_any(v:Value)(w:World)(h:SlS 3 FrcK w (Bl w.heap.size) v (List.replicate 2 ⟨false,1,2⟩)) :
  Calls Tryz.prog 148 #[v,.int .i64 2] w fun e w'=>e=.returned (.bool true)/\Below w.heap.size w w':=by
 have HSM:=zh (rsmalls_any v _ w h (fun x hx=>by rw[List.eq_of_mem_replicate hx];exact⟨rfl,by decide,by decide⟩));obtain⟨A,c,hv,-,-⟩:=h.form;rw[show(List.replicate 2 (⟨false,1,2⟩:Frc)).length=2 from rfl] at hv HSM;subst hv;have HSM:=zh (show Calls Tryz.prog 144 #[.slice A 2 c,.int .i64 2] w fun e w'=>e=.returned (.bool true)/\Below w.heap.size w w' from HSM.out);have HS:=zh (fun(w':World) (hb:Below w.heap.size w w')=>SlS.below frcK h hb);clear h;go_enter Tryz.func148,Tryz.ntmps148;go_wp2_with fail;refine HSM.out.mono ?_;rintro e w1 ⟨rfl,hb1⟩;have HB1:=zh hb1;clear hb1;go_wp2_with fail;go_loopg [5] 2 (fun z v5 wr=>∃j:Nat,j<=2/\z=2-j/\v5=.int .i64 (j:Int)/\Hid (Below w.heap.size w wr))
 case atStart=>exact⟨0,by omega,rfl,rfl,HB1.out⟩
 case round =>
  obtain⟨j,hj,rfl,rfl,HBR⟩:=hrel;by_cases hlt:j<2
  ·obtain⟨p,off,cs,rfl,hR,-,hc,vn,vd,hcs,hvn,hvd⟩:=(HS.out wr HBR.out).at_ (k:=j) (by rw[List.length_replicate];exact hlt);rw[List.getElem_replicate] at hcs hvn hvd;obtain⟨k0,k1,k2⟩:=three hc hcs;obtain⟨A1,N1,d1,rfl⟩:=hvn.frm;obtain⟨A2,N2,d2,rfl⟩:=hvd.frm;have HSG:=zh (rsign_any _ _ 1 2 wr hvn hvd (by omega));rw[show cmpI 1 0=1 from rfl] at HSG;clear hc hcs hvn hvd hR;go_wp2_with fail;refine HSG.out.mono ?_;rintro e w2 ⟨rfl,hb2⟩;have HB2:=zh (HBR.out.trans (hb2.mono HBR.out.size));clear hb2 k0 k1 k2;go_wp2_with fail;go_roundg (2-(j+1))
   case measure=>omega
   case rel=>exact⟨j+1,by omega,rfl,by go_num,HB2.out⟩
  ·go_wp2_with fail;go_ret;exact⟨rfl,HBR.out⟩
theorem rrepairs3_any(v:Value)(w:World)(h:SlS 3 FrcK w (Bl w.heap.size) v (List.replicate 3 ⟨false,1,2⟩)) :
  Calls Tryz.prog 148 #[v,.int .i64 3] w fun e w'=>e=.returned (.bool true)/\Below w.heap.size w w':=by
 have HSM:=zh (rsmalls_any v _ w h (fun x hx=>by rw[List.eq_of_mem_replicate hx];exact⟨rfl,by decide,by decide⟩));obtain⟨A,c,hv,-,-⟩:=h.form;rw[show(List.replicate 3 (⟨false,1,2⟩:Frc)).length=3 from rfl] at hv HSM;subst hv;have HSM:=zh (show Calls Tryz.prog 144 #[.slice A 3 c,.int .i64 3] w fun e w'=>e=.returned (.bool true)/\Below w.heap.size w w' from HSM.out);have HS:=zh (fun(w':World) (hb:Below w.heap.size w w')=>SlS.below frcK h hb);clear h;go_enter Tryz.func148,Tryz.ntmps148;go_wp2_with fail;refine HSM.out.mono ?_;rintro e w1 ⟨rfl,hb1⟩;have HB1:=zh hb1;clear hb1;go_wp2_with fail;go_loopg [5] 3 (fun z v5 wr=>∃j:Nat,j<=3/\z=3-j/\v5=.int .i64 (j:Int)/\Hid (Below w.heap.size w wr))
 case atStart=>exact⟨0,by omega,rfl,rfl,HB1.out⟩
 case round =>
  obtain⟨j,hj,rfl,rfl,HBR⟩:=hrel;by_cases hlt:j<3
  ·obtain⟨p,off,cs,rfl,hR,-,hc,vn,vd,hcs,hvn,hvd⟩:=(HS.out wr HBR.out).at_ (k:=j) (by rw[List.length_replicate];exact hlt);rw[List.getElem_replicate] at hcs hvn hvd;obtain⟨k0,k1,k2⟩:=three hc hcs;obtain⟨A1,N1,d1,rfl⟩:=hvn.frm;obtain⟨A2,N2,d2,rfl⟩:=hvd.frm;have HSG:=zh (rsign_any _ _ 1 2 wr hvn hvd (by omega));rw[show cmpI 1 0=1 from rfl] at HSG;clear hc hcs hvn hvd hR;go_wp2_with fail;refine HSG.out.mono ?_;rintro e w2 ⟨rfl,hb2⟩;have HB2:=zh (HBR.out.trans (hb2.mono HBR.out.size));clear hb2 k0 k1 k2;go_wp2_with fail;go_roundg (3-(j+1))
   case measure=>omega
   case rel=>exact⟨j+1,by omega,rfl,by go_num,HB2.out⟩
  ·go_wp2_with fail;go_ret;exact⟨rfl,HBR.out⟩
theorem rrepairs4_any(v:Value)(w:World)(h:SlS 3 FrcK w (Bl w.heap.size) v (List.replicate 4 ⟨false,1,2⟩)) :
  Calls Tryz.prog 148 #[v,.int .i64 4] w fun e w'=>e=.returned (.bool true)/\Below w.heap.size w w':=by
 have HSM:=zh (rsmalls_any v _ w h (fun x hx=>by rw[List.eq_of_mem_replicate hx];exact⟨rfl,by decide,by decide⟩));obtain⟨A,c,hv,-,-⟩:=h.form;rw[show(List.replicate 4 (⟨false,1,2⟩:Frc)).length=4 from rfl] at hv HSM;subst hv;have HSM:=zh (show Calls Tryz.prog 144 #[.slice A 4 c,.int .i64 4] w fun e w'=>e=.returned (.bool true)/\Below w.heap.size w w' from HSM.out);have HS:=zh (fun(w':World) (hb:Below w.heap.size w w')=>SlS.below frcK h hb);clear h;go_enter Tryz.func148,Tryz.ntmps148;go_wp2_with fail;refine HSM.out.mono ?_;rintro e w1 ⟨rfl,hb1⟩;have HB1:=zh hb1;clear hb1;go_wp2_with fail;go_loopg [5] 4 (fun z v5 wr=>∃j:Nat,j<=4/\z=4-j/\v5=.int .i64 (j:Int)/\Hid (Below w.heap.size w wr))
 case atStart=>exact⟨0,by omega,rfl,rfl,HB1.out⟩
 case round =>
  obtain⟨j,hj,rfl,rfl,HBR⟩:=hrel;by_cases hlt:j<4
  ·obtain⟨p,off,cs,rfl,hR,-,hc,vn,vd,hcs,hvn,hvd⟩:=(HS.out wr HBR.out).at_ (k:=j) (by rw[List.length_replicate];exact hlt);rw[List.getElem_replicate] at hcs hvn hvd;obtain⟨k0,k1,k2⟩:=three hc hcs;obtain⟨A1,N1,d1,rfl⟩:=hvn.frm;obtain⟨A2,N2,d2,rfl⟩:=hvd.frm;have HSG:=zh (rsign_any _ _ 1 2 wr hvn hvd (by omega));rw[show cmpI 1 0=1 from rfl] at HSG;clear hc hcs hvn hvd hR;go_wp2_with fail;refine HSG.out.mono ?_;rintro e w2 ⟨rfl,hb2⟩;have HB2:=zh (HBR.out.trans (hb2.mono HBR.out.size));clear hb2 k0 k1 k2;go_wp2_with fail;go_roundg (4-(j+1))
   case measure=>omega
   case rel=>exact⟨j+1,by omega,rfl,by go_num,HB2.out⟩
  ·go_wp2_with fail;go_ret;exact⟨rfl,HBR.out⟩
theorem rrepairs_any(v:Value)(m:Nat)(hm:m<=4)(w:World)(h:SlS 3 FrcK w (Bl w.heap.size) v (List.replicate (max m 1) ⟨false,1,2⟩)) :
  Calls Tryz.prog 148 #[v,.int .i64 (m:Int)] w fun e w'=>e=.returned (.bool true)/\Below w.heap.size w w':=by
 match m,hm with
 | 0,_=>exact rrepairs0_any v w h
 | 1,_=>exact rrepairs1_any v w h
 | 2,_=>exact rrepairs2_any v w h
 | 3,_=>exact rrepairs3_any v w h
 | 4,_=>exact rrepairs4_any v w h
theorem rnumbers_any(k m q s3 s4:Int)(w:World)(hk:k=1\/k=2)(hm:0<=m/\m<=4)(hq:k<=q/\q<=k+m)(h3:0<=s3/\s3<=3)(h4:0<=s4/\s4<=2) :
  Calls Tryz.prog 103 #[.int .i64 k,.int .i64 m,.int .i64 q,.agg #[.int .i64 0,.int .i64 0,.int .i64 0,.int .i64 s3,.int .i64 s4]] w fun e w'=>e=.returned (.bool true)/\Below w.heap.size w w':=by
 obtain⟨W0,hW0⟩:=zx (w.alloc (.cells #[.int .i64 0,.int .i64 0,.int .i64 0,.int .i64 s3,.int .i64 s4] 52));obtain⟨g,hg⟩:=zx w.heap.size
 have hb0:Below w.heap.size w W0:=by rw[hW0];exact(zB _ _).alloc (zR _) _
 have hgk:W0.heap[g]?=some (.cells #[.int .i64 0,.int .i64 0,.int .i64 0,.int .i64 s3,.int .i64 s4] 52 (0,0)):=by rw[hW0,hg];exact zN _ _
 have c0:W0.cell? ⟨g,0,none⟩=some (.int .i64 0):=by rw[cell_of_row _ _ _ _ _ _ hgk];rfl
 have hat:∀j:Nat,1<=j->j<5->∃x:Int,0<=x/\x<=8/\W0.cell? ⟨g,j,none⟩=some (.int .i64 x):=fun j h1 h5=>by
  rw[cell_of_row _ _ _ _ _ _ hgk]
  match j,h1,h5 with
  | 1,_,_=>exact⟨0,by omega,by omega,rfl⟩
  | 2,_,_=>exact⟨0,by omega,by omega,rfl⟩
  | 3,_,_=>exact⟨s3,by omega,by omega,rfl⟩
  | 4,_,_=>exact⟨s4,by omega,by omega,rfl⟩
 have HAT:=zh hat;have HC:=zh (r07code_any k m W0 (by unfold I64;omega) (by unfold I64;omega));rw[show codeB k m=true from(codeB_iff k m).2 (by omega)] at HC;have H3:=zh (rwithin_any q k (k+m) hq W0);have HW0:=zh hW0;have HG:=zh hg;have HB0:=zh hb0
 have k1:1<=k:=by omega
 have k2:k<=2:=by omega
 have m1:0<=m:=hm.1;have m2:m<=4:=hm.2;clear hk hm hq h3 h4 hW0 hg hb0 hgk hat;go_enter Tryz.func103,Tryz.ntmps103;go_wp2_with fail;rw[<-HW0.out,<-HG.out];refine HC.out.mono ?_;rintro e w1 ⟨rfl,rfl⟩;go_wp2_with fail;refine H3.out.mono ?_;rintro e w1 ⟨rfl,rfl⟩;go_wp2_with fail;go_loopg [9] 4 (fun z v9 wr=>W0=wr/\∃j:Nat,1<=j/\j<=5/\z=5-j/\v9=.int .i64 (j:Int))
 case atStart=>exact⟨rfl,1,by omega,by omega,rfl,rfl⟩
 case round =>
  obtain⟨rfl,j,hj1,hj,rfl,rfl⟩:=hrel;by_cases hlt:j<5
  ·obtain⟨x,hx0,hx8,hxc⟩:=HAT.out j hj1 hlt;have HWI:=zh (rwithin_any x 0 8 ⟨hx0,hx8⟩ W0);clear hx0 hx8;go_wp2_with fail;refine HWI.out.mono ?_;rintro e w1 ⟨rfl,rfl⟩;go_wp2_with fail;go_roundg (5-(j+1))
   case measure=>omega
   case rel=>exact⟨rfl,j+1,by omega,by omega,rfl,by go_num⟩
  ·go_wp2_with fail;go_ret;exact⟨rfl,HB0.out⟩
theorem rdurations_any(v:Value)(m:Nat)(hm:m<=4)(xn xd yn yd:Value)(w:World)(h:SlS 3 FrcK w (Bl w.heap.size) v (List.replicate (max m 1) ⟨false,1,2⟩))(hxn:LS w (Bl w.heap.size) xn (natL 1))(hxd:LS w (Bl w.heap.size) xd (natL 1000))(hyn:LS w (Bl w.heap.size) yn (natL 30))(hyd:LS w (Bl w.heap.size) yd (natL 1)) :
  Calls Tryz.prog 104 #[.int .i64 (m:Int),v,.agg #[.bool false,xn,xd],.agg #[.bool false,yn,yd]] w fun e w'=>e=.returned (.bool true)/\Below w.heap.size w w':=by
 obtain⟨An,Nn,cn,rfl⟩:=hxn.frm;obtain⟨Ad,Nd,cd,rfl⟩:=hxd.frm;obtain⟨Bn,Mn,dn,rfl⟩:=hyn.frm;obtain⟨Bd,Md,dd,rfl⟩:=hyd.frm;have HSL:=zh (fun(w':World) (hb:Below w.heap.size w w')=>SlS.below frcK h hb);obtain⟨W0,hW0⟩:=zx ((w.alloc (.cells #[.bool false,.slice An Nn cn,.slice Ad Nd cd] 26)).alloc (.cells #[.bool false,.slice Bn Mn dn,.slice Bd Md dd] 26));obtain⟨q,hq⟩:=zx w.heap.size;obtain⟨p,hp⟩:=zx (w.heap.size+1)
 have hb0:Below w.heap.size w W0:=by rw[hW0];exact((zB _ _).alloc (zR _) _).alloc (by simp) _
 have hpk:W0.heap[p]?=some (.cells #[.bool false,.slice Bn Mn dn,.slice Bd Md dd] 26 (0,0)):=by
  rw[hW0];exact heap_alloc_at _ _ _ (by rw[hp];simp)
 have hqk:W0.heap[q]?=some (.cells #[.bool false,.slice An Nn cn,.slice Ad Nd cd] 26 (0,0)):=by
  rw[hW0,hq];exact(zH _ _ _ (by simp)).trans (zN w _)
 have hpl:p<W0.heap.size:=(zA.1 hpk).1;have hql:q<W0.heap.size:=(zA.1 hqk).1;obtain⟨c0,c1,c2,-⟩:=cells3 hqk;obtain⟨d0,d1,d2,-⟩:=cells3 hpk;obtain⟨x1,hx1⟩:=zx (Value.slice An Nn cn);obtain⟨x2,hx2⟩:=zx (Value.slice Ad Nd cd);obtain⟨y1,hy1⟩:=zx (Value.slice Bn Mn dn);obtain⟨y2,hy2⟩:=zx (Value.slice Bd Md dd);have H1:=zh (hxn.below hb0);have H2:=zh (hxd.below hb0);have H3:=zh (hyn.below hb0);have H4:=zh (hyd.below hb0);have HW0:=zh hW0;have HQ:=zh (show q=w.heap.size/\p=w.heap.size+1 from⟨hq,hp⟩);have HQP:=zh (show q<W0.heap.size/\p<W0.heap.size from⟨hql,hpl⟩);have HB0:=zh hb0;clear hW0 hq hp hb0 hpk hqk hpl hql hxn hxd hyn hyd;rw[<-hx1] at H1 c1;rw[<-hx2] at H2 c2;rw[<-hy1] at H3 d1;rw[<-hy2] at H4 d2;have HR:=zh (fun W (h:HeldF W0 q p (.bool false) x1 x2 (.bool false) y1 y2 W)=>rrepairs_any v m hm W (HSL.out W (HB0.out.trans (h.bl.mono HB0.out.size))));have HS1:=zh (fun W (h:HeldF W0 q p (.bool false) x1 x2 (.bool false) y1 y2 W)=>rsmall_any x1 x2 1 1000 W (h.ls H1.out) (h.ls H2.out) (by omega) (by decide));have HS2:=zh (fun W (h:HeldF W0 q p (.bool false) x1 x2 (.bool false) y1 y2 W)=>rsmall_any y1 y2 30 1 W (h.ls H3.out) (h.ls H4.out) (by omega) (by decide));have HLE:=zh (fun W un um (h:HeldF W0 q p (.bool false) x1 x2 (.bool false) y1 y2 W) (h3:LS W (Bl W.heap.size) un (natL 1)) (h4:LS W (Bl W.heap.size) um (natL 1))=>rless_any un um x1 x2 1 1 1 1000 W h3 h4 (h.ls H1.out) (h.ls H2.out) (by omega) (by omega) (by omega) (by omega));rw[show decide (cmpI (1*1000) (1*1)<0)=false from by decide] at HLE;have HS0:=zh (show HeldF W0 q p (.bool false) x1 x2 (.bool false) y1 y2 W0.drew from⟨c0,c1,c2,d0,d1,d2,(zB _ _).drew⟩);clear hx1 hx2 hy1 hy2 c0 c1 c2 d0 d1 d2 h;go_enter Tryz.func104,Tryz.ntmps104;go_upto_region 1 with fail;rw[<-HW0.out,<-HQ.out.2,<-HQ.out.1];clear HW0 HQ;refine region_tail (S:=(fun w'=>w'.cell? ⟨q,0,none⟩=some (.bool false)/\w'.cell? ⟨q,1,none⟩=some x1/\w'.cell? ⟨q,2,none⟩=some x2/\w'.cell? ⟨p,0,none⟩=some (.bool false)/\w'.cell? ⟨p,1,none⟩=some y1/\w'.cell? ⟨p,2,none⟩=some y2/\Below W0.heap.size W0 w')) [] (by kernel_rfl) HS0.out (fun hHeld=>?_);refine tk 0 9 ?_;refine tk 1 10 ?_;refine readyT (rs:=[2]) (by kernel_rfl) (by simp) ?_;refine zC rfl (fun K hK=>?_) ?_
 ·go_simp;(go_at_call 148;refine(HR.out _ (by assumption)).mono ?_;rintro e w5 ⟨rfl,hb5⟩);go_wp2_with fail;refine hK.out _ _ ?_ (fun hHeld=>?_)
  ·(first|(with_reducible assumption)|exact HeldF.below (by assumption) hb9 HQP.out.1 HQP.out.2|exact HeldF.below (by assumption) hb8 HQP.out.1 HQP.out.2|exact HeldF.below (by assumption) hb7 HQP.out.1 HQP.out.2|exact HeldF.below (by assumption) hb6 HQP.out.1 HQP.out.2|exact HeldF.below (by assumption) hb5 HQP.out.1 HQP.out.2)
  clear hK K;(try simp only[Act.put,z1,z2,z3]);refine tk 3 12 ?_;refine tk 4 13 ?_;refine readyT (rs:=[5]) (by kernel_rfl) (by simp) ?_;refine zC rfl (fun K hK=>?_) ?_
  ·go_simp;(go_at_call 102;refine(HS1.out _ (by assumption)).mono ?_;rintro e w6 ⟨rfl,hb6⟩);go_wp2_with fail;refine hK.out _ _ ?_ (fun hHeld=>?_)
   ·(first|(with_reducible assumption)|exact HeldF.below (by assumption) hb9 HQP.out.1 HQP.out.2|exact HeldF.below (by assumption) hb8 HQP.out.1 HQP.out.2|exact HeldF.below (by assumption) hb7 HQP.out.1 HQP.out.2|exact HeldF.below (by assumption) hb6 HQP.out.1 HQP.out.2|exact HeldF.below (by assumption) hb5 HQP.out.1 HQP.out.2)
   clear hK K;(try simp only[Act.put,z1,z2,z3]);refine tk 6 15 ?_;refine tk 7 16 ?_;refine tk 9 18 ?_;refine readyT (rs:=[8]) (by kernel_rfl) (by simp) ?_;refine zC rfl (fun K hK=>?_) ?_
   ·go_simp;(go_at_call 146;refine(rint_any 1 _ (by omega)).mono ?_;rintro e w7 ⟨un,um,rfl,hun,hum,hb7⟩);go_wp2_with fail;refine hK.out _ _ ?_ (fun hHeld=>?_)
    ·(first|(with_reducible assumption)|exact HeldF.below (by assumption) hb9 HQP.out.1 HQP.out.2|exact HeldF.below (by assumption) hb8 HQP.out.1 HQP.out.2|exact HeldF.below (by assumption) hb7 HQP.out.1 HQP.out.2|exact HeldF.below (by assumption) hb6 HQP.out.1 HQP.out.2|exact HeldF.below (by assumption) hb5 HQP.out.1 HQP.out.2)
    clear hK K;(try simp only[Act.put,z1,z2,z3]);refine readyT (rs:=[10]) (by kernel_rfl) (by simp) ?_;refine zC rfl (fun K hK=>?_) ?_
    ·go_simp;(go_at_call 149;refine(HLE.out _ _ _ (by assumption) (hun.mono Fr.bl) (hum.mono Fr.bl)).mono ?_;rintro e w8 ⟨rfl,hb8⟩);go_wp2_with fail;refine hK.out _ _ ?_ (fun hHeld=>?_)
     ·(first|(with_reducible assumption)|exact HeldF.below (by assumption) hb9 HQP.out.1 HQP.out.2|exact HeldF.below (by assumption) hb8 HQP.out.1 HQP.out.2|exact HeldF.below (by assumption) hb7 HQP.out.1 HQP.out.2|exact HeldF.below (by assumption) hb6 HQP.out.1 HQP.out.2|exact HeldF.below (by assumption) hb5 HQP.out.1 HQP.out.2)
     clear hK K;(try simp only[Act.put,z1,z2,z3]);refine tk 11 20 ?_;refine tk 12 21 ?_;refine tk 13 22 ?_;refine tk 14 23 ?_;refine readyT (rs:=[15]) (by kernel_rfl) (by simp) ?_;refine zC rfl (fun K hK=>?_) ?_
     ·go_simp;(go_at_call 102;refine(HS2.out _ (by assumption)).mono ?_;rintro e w9 ⟨rfl,hb9⟩);go_wp2_with fail;refine hK.out _ _ ?_ (fun hHeld=>?_)
      ·(first|(with_reducible assumption)|exact HeldF.below (by assumption) hb9 HQP.out.1 HQP.out.2|exact HeldF.below (by assumption) hb8 HQP.out.1 HQP.out.2|exact HeldF.below (by assumption) hb7 HQP.out.1 HQP.out.2|exact HeldF.below (by assumption) hb6 HQP.out.1 HQP.out.2|exact HeldF.below (by assumption) hb5 HQP.out.1 HQP.out.2)
      clear hK K;(try simp only[Act.put,z1,z2,z3]);refine tk 16 25 ?_;refine tk 17 8 ?_;refine doneT (by kernel_rfl) ?_ _;have HBZ:=zh (HeldF.bl (q:=q) (p:=p) (by assumption));clear hHeld hun hum hb5 hb6 hb7 hb8 hb9;go_wp2_with fail;go_ret;exact⟨rfl,HB0.out.trans (HBZ.out.mono HB0.out.size)⟩
     exact zE
    exact zE
   exact zE
  exact zE
 exact zE
def HeldO(W0:World)(p b o:Nat)(x0 x1 x2 y0 y1 y2:Value)(w':World):Prop :=
 w'.cell? ⟨p,0,none⟩=some x0/\w'.cell? ⟨p,1,none⟩=some x1/\w'.cell? ⟨p,2,none⟩=some x2/\w'.cell? ⟨b,o,none⟩=some y0/\w'.cell? ⟨b,o+1,none⟩=some y1/\w'.cell? ⟨b,o+2,none⟩=some y2/\Below W0.heap.size W0 w'
theorem HeldO.below{W0 wc w2:World}{p b o:Nat}{x0 x1 x2 y0 y1 y2:Value}(h:HeldO W0 p b o x0 x1 x2 y0 y1 y2 wc)(hb:Below wc.heap.size wc w2)(hp:p<W0.heap.size)(hbb:b<W0.heap.size):HeldO W0 p b o x0 x1 x2 y0 y1 y2 w2:=by
 obtain⟨d0,d1,d2,e0,e1,e2,hB⟩:=h;have hs:=hB.size
 have m:∀i,w2.cell? ⟨p,i,none⟩=wc.cell? ⟨p,i,none⟩:=fun i=>hb.cell (p:=⟨p,i,none⟩) (zM hp hs)
 have m':∀i,w2.cell? ⟨b,i,none⟩=wc.cell? ⟨b,i,none⟩:=fun i=>hb.cell (p:=⟨b,i,none⟩) (zM hbb hs)
 exact⟨(m _).trans d0,(m _).trans d1,(m _).trans d2,(m' _).trans e0,(m' _).trans e1,(m' _).trans e2,hB.trans (hb.mono hs)⟩
theorem HeldO.bl{W0 wc:World}{p b o:Nat}{x0 x1 x2 y0 y1 y2:Value}(h:HeldO W0 p b o x0 x1 x2 y0 y1 y2 wc):Below W0.heap.size W0 wc:=h.2.2.2.2.2.2
theorem HeldO.ls{W0 wc:World}{p b o:Nat}{x0 x1 x2 y0 y1 y2 v:Value}{l:List Nat}(h:HeldO W0 p b o x0 x1 x2 y0 y1 y2 wc)(hl:LS W0 (Bl W0.heap.size) v l):LS wc (Bl wc.heap.size) v l:=hl.below h.bl
theorem HeldO.set3{W0 wc:World}{p b o y:Nat}{x0 x1 x2 y0 y1 y2 v0 v1 v2:Value}(h:HeldO W0 p b o x0 x1 x2 y0 y1 y2 wc)(hy:W0.heap.size<=y)(hp:p<W0.heap.size)(hbb:b<W0.heap.size):HeldO W0 p b o x0 x1 x2 y0 y1 y2 (((wc.setCell ⟨y,0,none⟩ v0).setCell ⟨y,1,none⟩ v1).setCell ⟨y,2,none⟩ v2):=by
 obtain⟨d0,d1,d2,e0,e1,e2,hB⟩:=h
 have m:∀i,(((wc.setCell ⟨y,0,none⟩ v0).setCell ⟨y,1,none⟩ v1).setCell ⟨y,2,none⟩ v2).cell? ⟨p,i,none⟩=wc.cell? ⟨p,i,none⟩:=fun i=>World.cell?_of_block (a:=⟨p,i,none⟩) (kept_set3 wc y v0 v1 v2 (fun q=>q=p) (fun q e=>by omega) p rfl)
 have m':∀i,(((wc.setCell ⟨y,0,none⟩ v0).setCell ⟨y,1,none⟩ v1).setCell ⟨y,2,none⟩ v2).cell? ⟨b,i,none⟩=wc.cell? ⟨b,i,none⟩:=fun i=>World.cell?_of_block (a:=⟨b,i,none⟩) (kept_set3 wc y v0 v1 v2 (fun q=>q=b) (fun q e=>by omega) b rfl)
 exact⟨(m _).trans d0,(m _).trans d1,(m _).trans d2,(m' _).trans e0,(m' _).trans e1,(m' _).trans e2,below_set3 hB hy v0 v1 v2⟩
theorem rsum1_any(v:Value)(c d:Nat)(w:World)(h:SlS 3 FrcK w (Bl w.heap.size) v [⟨false,c,d⟩])(hc:0<c)(hd:0<d)(hg:Nat.gcd c d=1) :
  Calls Tryz.prog 145 #[v] w fun e w'=>∃un um,e=.returned (.tuple #[.agg #[.bool false,un,um],.int .i64 0])/\LS w' (Fr w.heap.size w'.heap.size) un (natL c)/\LS w' (Fr w.heap.size w'.heap.size) um (natL d)/\Below w.heap.size w w':=by
 obtain⟨b1,o1,c1,vn,vd,rfl,hR,k0,k1,k2,hn,hdd⟩:=one_frc h;have c32:=hn.lt32;have d32:=hdd.lt32;obtain⟨An,Nn,cn,rfl⟩:=hn.frm;obtain⟨Ad,Nd,cd,rfl⟩:=hdd.frm;obtain⟨W0,hW0⟩:=zx (w.alloc (.cells #[.bool false,.slice none 0 0,.slice none 0 0] 26));obtain⟨g,hgq⟩:=zx w.heap.size
 have hb0:Below w.heap.size w W0:=by rw[hW0];exact(zB _ _).alloc (zR _) _
 have hbk:W0.heap[g]?=some (.cells #[.bool false,.slice none 0 0,.slice none 0 0] 26 (0,0)):=by rw[hW0,hgq];exact zN _ _
 have hgl:g<W0.heap.size:=(zA.1 hbk).1;have HM:=zh (rint_any 0 W0 (by omega));have K0:=zh k0;have K1:=zh k1;have K2:=zh k2;have HN:=zh hn;have HD:=zh hdd;have HR:=zh hR;have HW0:=zh hW0;have HGQ:=zh hgq;have HB0:=zh hb0;have HBK:=zh hbk;have HGL:=zh hgl;have HCD:=zh (show 0<c/\0<d/\Nat.gcd c d=1/\c<4294967296/\d<4294967296 from⟨hc,hd,hg,c32,d32⟩);clear h hW0 hgq hb0 hbk hgl k0 k1 k2 hn hdd hR hc hd hg c32 d32;go_enter Tryz.func145,Tryz.ntmps145;go_wp2_with fail;rw[<-HW0.out,<-HGQ.out];refine HM.out.mono ?_;rintro e w1 ⟨u0,u1,rfl,hu0,hu1,hb1⟩;obtain⟨A0,N0,e0,rfl⟩:=hu0.frm;obtain⟨A1,N1,e1,rfl⟩:=hu1.frm;obtain⟨W1,hW1⟩:=zx (w1.alloc (.cells #[.bool false,.slice A0 N0 e0,.slice A1 N1 e1] 26));obtain⟨p,hp⟩:=zx w1.heap.size
 have hb2:Below w1.heap.size w1 W1:=by rw[hW1];exact(zB _ _).alloc (zR _) _
 have hb12:=hb1.trans (hb2.mono hb1.size)
 have hpk:W1.heap[p]?=some (.cells #[.bool false,.slice A0 N0 e0,.slice A1 N1 e1] 26 (0,0)):=by rw[hW1,hp];exact zN _ _
 have hbw:=HB0.out.trans (hb12.mono HB0.out.size);obtain⟨x1,hx1⟩:=zx (Value.slice A0 N0 e0);obtain⟨x2,hx2⟩:=zx (Value.slice A1 N1 e1);obtain⟨y1,hy1⟩:=zx (Value.slice An Nn cn);obtain⟨y2,hy2⟩:=zx (Value.slice Ad Nd cd);have q0:W1.cell? ⟨b1,o1,none⟩=some (.bool false):=(hbw.cell (p:=⟨b1,o1,none⟩) HR.out).trans K0.out
 have q1:W1.cell? ⟨b1,o1+1,none⟩=some y1:=by rw[hy1];exact(hbw.cell (p:=⟨b1,o1+1,none⟩) HR.out).trans K1.out
 have q2:W1.cell? ⟨b1,o1+2,none⟩=some y2:=by rw[hy2];exact(hbw.cell (p:=⟨b1,o1+2,none⟩) HR.out).trans K2.out
 have hu0':=(hu0.mono Fr.bl).below hb2;have hu1':=(hu1.mono Fr.bl).below hb2;have hyn':=HN.out.below hbw;have hyd':=HD.out.below hbw;rw[<-hx1] at hu0' hpk;rw[<-hx2] at hu1' hpk;rw[<-hy1] at hyn';rw[<-hy2] at hyd';obtain⟨l0,l1,l2,lf0,lf1,lf2⟩:=cells3 hpk;have HX1:=zh hu0';have HX2:=zh hu1';have HY1:=zh hyn';have HY2:=zh hyd';have HPK:=zh hpk;have HBW:=zh hbw;have hpl:p<W1.heap.size:=(zA.1 hpk).1;have HQP:=zh (show p<W1.heap.size/\b1<W1.heap.size from⟨hpl,zM HR.out hbw.size⟩)
 have hgp:g≠p/\w.heap.size<=p/\g<W1.heap.size:=by have h1:=HGL.out;have h2:=hb1.size;have h3:=HB0.out.size;have h4:=hb12.size;refine⟨?_,?_,?_⟩ <;> omega
 have HGP:=zh hgp;have HGK:=zh ((hb12.block g HGL.out).trans HBK.out);have HS0:=zh (show HeldO W1 p b1 o1 (.bool false) x1 x2 (.bool false) y1 y2 W1.drew from⟨l0,l1,l2,q0,q1,q2,(zB _ _).drew⟩);have HT:=zh (fun W (h:HeldO W1 p b1 o1 (.bool false) x1 x2 (.bool false) y1 y2 W)=>rfadd0_any x1 x2 y1 y2 1 c d W (h.ls HX1.out) (h.ls HX2.out) (h.ls HY1.out) (h.ls HY2.out) (by omega) HCD.out.1 HCD.out.2.1 (by have:=HCD.out;omega) (by have:=HCD.out;omega) (by rw[Nat.mul_one,Nat.one_mul];exact HCD.out.2.2.1));rw[Nat.mul_one,Nat.one_mul] at HT;have HW1:=zh hW1;have HP:=zh hp;have HPB:=zh (show W0.heap.size<=p from by rw[hp];exact hb1.size);clear hx1 hx2 hy1 hy2;clear hu0 hu1 hu0' hu1' hyn' hyd' hb1 hb2 hb12 hbw hpk hp hW1 hpl hgp q0 q1 q2 l0 l1 l2 lf0 lf1 lf2;go_upto_region 2 with fail;rw[<-HW1.out,<-HP.out];go_wp2_with fail;go_loopg [5,6,7,15] 1 (fun z v5 v6 v7 v15 wr=>(z=1/\v5=.int .i64 0/\W1=wr)\/(z=0/\v5=.int .i64 1/\Hid (Below w.heap.size w wr)/\Hid (wr.heap[g]?=some (.cells #[.bool false,.slice none 0 0,.slice none 0 0] 26 (0,0)))/\Hid (∃un um,wr.heap[p]?=some (.cells #[.bool false,un,um] 26 (0,0))/\LS wr (Fr W1.heap.size wr.heap.size) un (natL c)/\LS wr (Fr W1.heap.size wr.heap.size) um (natL d))))
 case atStart=>exact .inl ⟨rfl,rfl,rfl⟩
 case round =>
  rcases hrel with ⟨rfl,rfl,rfl⟩ | ⟨rfl,rfl,hbr,hgk,hpk⟩
  ·go_upto_region 5 with fail;refine region_tail (S:=(fun w'=>w'.cell? ⟨p,0,none⟩=some (.bool false)/\w'.cell? ⟨p,1,none⟩=some x1/\w'.cell? ⟨p,2,none⟩=some x2/\w'.cell? ⟨b1,o1,none⟩=some (.bool false)/\w'.cell? ⟨b1,o1+1,none⟩=some y1/\w'.cell? ⟨b1,o1+2,none⟩=some y2/\Below W1.heap.size W1 w')) [] (by kernel_rfl) HS0.out (fun hHeld=>?_);refine tk 0 16 ?_;refine tk 1 17 ?_;refine tk 2 18 ?_;refine tk 3 19 ?_;refine tk 4 20 ?_;refine readyT (rs:=[5,9]) (by kernel_rfl) (by simp) ?_;refine zC rfl (fun K hK=>?_) ?_
   ·go_simp;(go_at_call 169;refine(HT.out _ (by assumption)).mono ?_;rintro e w5 ⟨un,um,rfl,hun,hum,hb5⟩);obtain⟨A3,N3,e3,rfl⟩:=hun.frm;obtain⟨A4,N4,e4,rfl⟩:=hum.frm;go_wp2_with fail;refine hK.out _ _ ?_ (fun hHeld=>?_)
    ·(first|(with_reducible assumption)|exact HeldO.set3 (by assumption) hyb HQP.out.1 HQP.out.2|exact HeldO.below (by assumption) hb5 HQP.out.1 HQP.out.2|exact HeldO.below (by assumption) hby HQP.out.1 HQP.out.2)
    clear hK K;(try simp only[Act.put,z1,z2,z3]);refine tk 6 15 ?_;refine tk 7 22 ?_;refine tk 8 23 ?_;refine readyT (rs:=[9]) (by kernel_rfl) (by simp) ?_;refine zC rfl (fun K hK=>?_) ?_
    ·go_simp;obtain⟨y,hy⟩:=zx w5.heap.size;obtain⟨WY,hWY⟩:=zx (w5.alloc (.cells #[.bool false,.slice none 0 0,.slice none 0 0] 26));rw[<-hWY,<-hy]
     have hyk:WY.heap[y]?=some (.cells #[.bool false,.slice none 0 0,.slice none 0 0] 26 (0,0)):=by rw[hWY,hy];exact zN _ _
     have hby:Below (w5).heap.size (w5) WY:=by rw[hWY];exact(show Below (w5).heap.size (w5) ((w5).alloc _) from(zB _ _).alloc (zR _) _)
     have hyl:y<WY.heap.size:=(zA.1 hyk).1
     have hyb:W1.heap.size<=y:=by rw[hy];exact(HeldO.bl (p:=p) (b:=b1) (o:=o1) hHeld).size
     have hun:=hun.keep (fun b hb=>hby.block b hb.2);have hum:=hum.keep (fun b hb=>hby.block b hb.2)
     have hyn:∀b,Fr W1.heap.size w5.heap.size b->b≠y:=fun b hb e=>by have:=hb.2;omega
     have hys:w5.heap.size<=WY.heap.size:=hby.size;clear hWY hy;refine hK.out _ _ ?_ (fun hHeld=>?_)
     ·(first|(with_reducible assumption)|exact HeldO.set3 (by assumption) hyb HQP.out.1 HQP.out.2|exact HeldO.below (by assumption) hb5 HQP.out.1 HQP.out.2|exact HeldO.below (by assumption) hby HQP.out.1 HQP.out.2)
     clear hK K;(try simp only[Act.put,z1,z2,z3]);refine readyT (rs:=[10]) (by kernel_rfl) (by simp) ?_;refine zC rfl (fun K hK=>?_) ?_
     ·obtain⟨z0,z1,z2,zf0,zf1,zf2⟩:=cells3 hyk;go_simp;refine hK.out _ _ ?_ (fun hHeld=>?_)
      ·(first|(with_reducible assumption)|exact HeldO.set3 (by assumption) hyb HQP.out.1 HQP.out.2|exact HeldO.below (by assumption) hb5 HQP.out.1 HQP.out.2|exact HeldO.below (by assumption) hby HQP.out.1 HQP.out.2)
      clear hK K;(try simp only[Act.put,z1,z2,z3]);refine tk 11 7 ?_;refine doneT (by kernel_rfl) ?_ _;have hbX:Below W1.heap.size W1 WY:=HeldO.bl (p:=p) (b:=b1) (o:=o1) (by assumption);have hXY:=box3' hyk hbX hyb (.bool false) (.slice A3 N3 e3) (.slice A4 N4 e4);have hun2:=(hun.keep (kept_set3 WY y (.bool false) (.slice A3 N3 e3) (.slice A4 N4 e4) _ hyn));have hum2:=(hum.keep (kept_set3 WY y (.bool false) (.slice A3 N3 e3) (.slice A4 N4 e4) _ hyn))
      have hsz:(((WY.setCell ⟨y,0,none⟩ (.bool false)).setCell ⟨y,1,none⟩ (.slice A3 N3 e3)).setCell ⟨y,2,none⟩ (.slice A4 N4 e4)).heap.size=WY.heap.size:=by simp
      obtain⟨W4,hW4⟩:=zx (((WY.setCell ⟨y,0,none⟩ (.bool false)).setCell ⟨y,1,none⟩ (.slice A3 N3 e3)).setCell ⟨y,2,none⟩ (.slice A4 N4 e4));rw[<-hW4] at hXY hun2 hum2 hsz ⊢;have HUN:=zh (show LS W4 (Fr W1.heap.size W4.heap.size) (.slice A3 N3 e3) (natL c) from hun2.mono (fun b hb=>⟨hb.1,by rw[hsz];exact zM hb.2 hys⟩));have HUM:=zh (show LS W4 (Fr W1.heap.size W4.heap.size) (.slice A4 N4 e4) (natL d) from hum2.mono (fun b hb=>⟨hb.1,by rw[hsz];exact zM hb.2 hys⟩));have HXY:=zh hXY
      have hyp:y≠p:=by have:=HQP.out.1;omega
      have HYL:=zh (show W1.heap.size<=y from hyb);clear hun hum hun2 hum2 hsz hXY hbX hHeld hyk hyn hys hb5 hby z0 z1 z2 zf0 zf1 zf2 hW4 hyl hyb;obtain⟨z0,z1,z2,-⟩:=cells3 HXY.out.1;have hpk5:=(HXY.out.2.1.block p HQP.out.1).trans HPK.out;obtain⟨l0,l1,l2,lf0,lf1,lf2⟩:=cells3 hpk5;have HPK5:=zh hpk5;clear hpk5;go_wp2_with fail;have hX:=box3' HPK5.out (HBW.out.trans (HXY.out.2.1.mono HBW.out.size)) HGP.out.2.1 (.bool false) (.slice A3 N3 e3) (.slice A4 N4 e4);go_roundg 0
      case measure=>omega
      case rel =>
       refine .inr ⟨rfl,rfl,hX.2.1,?_,⟨_,_,hX.1,?_,?_⟩⟩
       ·exact(hX.2.2 g HGP.out.1).trans ((HXY.out.2.1.block g HGP.out.2.2).trans HGK.out)
       ·exact(HUN.out.keep (kept_set3 W4 p _ _ _ _ (fun b hb e=>by have:=hb.1;have:=HQP.out.1;omega))).mono (Fr.wider (zR _) (by simp))
       ·exact(HUM.out.keep (kept_set3 W4 p _ _ _ _ (fun b hb e=>by have:=hb.1;have:=HQP.out.1;omega))).mono (Fr.wider (zR _) (by simp))
     exact zE
    exact zE
   refine zC rfl (fun K hK=>?_) ?_
   ·go_simp;obtain⟨y,hy⟩:=zx W1.heap.size;obtain⟨WY,hWY⟩:=zx ((W1.alloc (.cells #[.bool false,.slice none 0 0,.slice none 0 0] 26)).drew);rw[<-hWY,<-hy]
    have hyk:WY.heap[y]?=some (.cells #[.bool false,.slice none 0 0,.slice none 0 0] 26 (0,0)):=by rw[hWY,hy];exact zN _ _
    have hby:Below (W1.drew).heap.size (W1.drew) WY:=by rw[hWY];exact(show Below (W1.drew).heap.size (W1.drew) ((W1.drew).alloc _) from(zB _ _).alloc (zR _) _)
    have hyl:y<WY.heap.size:=(zA.1 hyk).1
    have hyb:W1.heap.size<=y:=by rw[hy];exact zR _
    clear hWY hy;refine hK.out _ _ ?_ (fun hHeld=>?_)
    ·(first|(with_reducible assumption)|exact HeldO.set3 (by assumption) hyb HQP.out.1 HQP.out.2|exact HeldO.below (by assumption) hb5 HQP.out.1 HQP.out.2|exact HeldO.below (by assumption) hby HQP.out.1 HQP.out.2)
    clear hK K;(try simp only[Act.put,z1,z2,z3]);refine readyT (rs:=[5]) (by kernel_rfl) (by simp) ?_;refine zC rfl (fun K hK=>?_) ?_
    ·go_simp;(go_at_call 169;refine(HT.out _ (by assumption)).mono ?_;rintro e w5 ⟨un,um,rfl,hun,hum,hb5⟩);obtain⟨A3,N3,e3,rfl⟩:=hun.frm;obtain⟨A4,N4,e4,rfl⟩:=hum.frm;have hyk:=(hb5.block y hyl).trans hyk
     have hyn:∀b,Fr WY.heap.size w5.heap.size b->b≠y:=fun b hb e=>by have:=hb.1;omega
     have hys:WY.heap.size<=w5.heap.size:=hb5.size;have hyl2:=zM hyl hb5.size;go_wp2_with fail;refine hK.out _ _ ?_ (fun hHeld=>?_)
     ·(first|(with_reducible assumption)|exact HeldO.set3 (by assumption) hyb HQP.out.1 HQP.out.2|exact HeldO.below (by assumption) hb5 HQP.out.1 HQP.out.2|exact HeldO.below (by assumption) hby HQP.out.1 HQP.out.2)
     clear hK K;(try simp only[Act.put,z1,z2,z3]);refine tk 6 15 ?_;refine tk 7 22 ?_;refine tk 8 23 ?_;refine readyT (rs:=[10]) (by kernel_rfl) (by simp) ?_;refine zC rfl (fun K hK=>?_) ?_
     ·obtain⟨z0,z1,z2,zf0,zf1,zf2⟩:=cells3 hyk;go_simp;refine hK.out _ _ ?_ (fun hHeld=>?_)
      ·(first|(with_reducible assumption)|exact HeldO.set3 (by assumption) hyb HQP.out.1 HQP.out.2|exact HeldO.below (by assumption) hb5 HQP.out.1 HQP.out.2|exact HeldO.below (by assumption) hby HQP.out.1 HQP.out.2)
      clear hK K;(try simp only[Act.put,z1,z2,z3]);refine tk 11 7 ?_;refine doneT (by kernel_rfl) ?_ _;have hbX:Below W1.heap.size W1 w5:=HeldO.bl (p:=p) (b:=b1) (o:=o1) (by assumption);have hXY:=box3' hyk hbX hyb (.bool false) (.slice A3 N3 e3) (.slice A4 N4 e4);have hun2:=(hun.keep (kept_set3 w5 y (.bool false) (.slice A3 N3 e3) (.slice A4 N4 e4) _ hyn));have hum2:=(hum.keep (kept_set3 w5 y (.bool false) (.slice A3 N3 e3) (.slice A4 N4 e4) _ hyn))
      have hsz:(((w5.setCell ⟨y,0,none⟩ (.bool false)).setCell ⟨y,1,none⟩ (.slice A3 N3 e3)).setCell ⟨y,2,none⟩ (.slice A4 N4 e4)).heap.size=w5.heap.size:=by simp
      obtain⟨W4,hW4⟩:=zx (((w5.setCell ⟨y,0,none⟩ (.bool false)).setCell ⟨y,1,none⟩ (.slice A3 N3 e3)).setCell ⟨y,2,none⟩ (.slice A4 N4 e4));rw[<-hW4] at hXY hun2 hum2 hsz ⊢;have HUN:=zh (show LS W4 (Fr W1.heap.size W4.heap.size) (.slice A3 N3 e3) (natL c) from hun2.mono (fun b hb=>⟨by have:=hb.1;have:=hby.size;exact Nat.le_trans hby.size hb.1,by rw[hsz];exact hb.2⟩));have HUM:=zh (show LS W4 (Fr W1.heap.size W4.heap.size) (.slice A4 N4 e4) (natL d) from hum2.mono (fun b hb=>⟨by have:=hb.1;have:=hby.size;exact Nat.le_trans hby.size hb.1,by rw[hsz];exact hb.2⟩));have HXY:=zh hXY
      have hyp:y≠p:=by have:=HQP.out.1;omega
      have HYL:=zh (show W1.heap.size<=y from hyb);clear hun hum hun2 hum2 hsz hXY hbX hHeld hyk hyn hys hb5 hby hyl2 z0 z1 z2 zf0 zf1 zf2 hW4 hyl hyb;obtain⟨z0,z1,z2,-⟩:=cells3 HXY.out.1;have hpk5:=(HXY.out.2.1.block p HQP.out.1).trans HPK.out;obtain⟨l0,l1,l2,lf0,lf1,lf2⟩:=cells3 hpk5;have HPK5:=zh hpk5;clear hpk5;go_wp2_with fail;have hX:=box3' HPK5.out (HBW.out.trans (HXY.out.2.1.mono HBW.out.size)) HGP.out.2.1 (.bool false) (.slice A3 N3 e3) (.slice A4 N4 e4);go_roundg 0
      case measure=>omega
      case rel =>
       refine .inr ⟨rfl,rfl,hX.2.1,?_,⟨_,_,hX.1,?_,?_⟩⟩
       ·exact(hX.2.2 g HGP.out.1).trans ((HXY.out.2.1.block g HGP.out.2.2).trans HGK.out)
       ·exact(HUN.out.keep (kept_set3 W4 p _ _ _ _ (fun b hb e=>by have:=hb.1;have:=HQP.out.1;omega))).mono (Fr.wider (zR _) (by simp))
       ·exact(HUM.out.keep (kept_set3 W4 p _ _ _ _ (fun b hb e=>by have:=hb.1;have:=HQP.out.1;omega))).mono (Fr.wider (zR _) (by simp))
     exact zE
    exact zE
   exact zE
  ·obtain⟨un,um,hpk2,hun,hum⟩:=hpk.out;obtain⟨A3,N3,e3,rfl⟩:=hun.frm;obtain⟨A4,N4,e4,rfl⟩:=hum.frm;obtain⟨k0,k1,k2,-⟩:=cells3 hpk2;obtain⟨m0,m1,m2,f0,f1,f2⟩:=cells3 hgk.out
   have hgw:w.heap.size<=g:=by rw[HGQ.out];exact zR _
   have hs:=HGP.out.2.2;have hs1:=HBW.out.size;have HX:=zh (box3 hgk.out hbr.out hgw (.bool false) (.slice A3 N3 e3) (.slice A4 N4 e4) hun (fun b hb=>⟨by have:=hb.1;omega,by have:=hb.1;omega,hb.2⟩) hum (fun b hb=>⟨by have:=hb.1;omega,by have:=hb.1;omega,hb.2⟩))
   have hgp:p≠g:=fun e=>HGP.out.1 e.symm
   clear hpk hun hum hpk2 hbr hgk hgw hs hs1;go_wp2_with fail;obtain⟨Wf,hWf⟩:=zx (((wr.setCell ⟨g,0,none⟩ (.bool false)).setCell ⟨g,1,none⟩ (.slice A3 N3 e3)).setCell ⟨g,2,none⟩ (.slice A4 N4 e4));obtain⟨x0,x1',x2',hl1,hl2,hbf⟩:=HX.out Wf hWf;rw[<-hWf];clear hWf m0 m1 m2 k0 k1 k2;exact bodyPost_ret (v:=.tuple #[.agg #[.bool false,.slice A3 N3 e3,.slice A4 N4 e4],.int .i64 0]) (by simp[results,Tryz.results145,go_sem,x0,x1',x2']) rfl ⟨_,_,rfl,hl1,hl2,hbf⟩
theorem rlaw_any(n:ByteArray)(r bs os bl ol be oe br orr cs cl ce cr:Nat)(sn sd rn rd en ed:Value)(w:World)(h:LawE w r bs os bl ol be oe br orr cr sn sd rn rd en ed)(hcs:1<=cs)(hce:1<=ce)(hcr:1<=cr) :
  Calls Tryz.prog 100 #[.agg #[.string n,.slice (some ⟨bs,os,none⟩) 1 cs,.slice (some ⟨bl,ol,none⟩) 1 cl,.slice (some ⟨be,oe,none⟩) 1 ce]] w fun e w'=>e=.returned (.bool true)/\Below w.heap.size w w':=by
 obtain⟨A1,N1,d1,rfl⟩:=h.rN.frm;obtain⟨A2,N2,d2,rfl⟩:=h.rD.frm;obtain⟨A3,N3,d3,rfl⟩:=h.eN.frm;obtain⟨A4,N4,d4,rfl⟩:=h.eD.frm;obtain⟨W0,hW0⟩:=zx (w.alloc (.cells #[.string n,.slice (some ⟨bs,os,none⟩) 1 cs,.slice (some ⟨bl,ol,none⟩) 1 cl,.slice (some ⟨be,oe,none⟩) 1 ce] 96));obtain⟨q,hq⟩:=zx w.heap.size
 have hb0:Below w.heap.size w W0:=by rw[hW0];exact(zB _ _).alloc (zR _) _
 have hqk:W0.heap[q]?=some (.cells #[.string n,.slice (some ⟨bs,os,none⟩) 1 cs,.slice (some ⟨bl,ol,none⟩) 1 cl,.slice (some ⟨be,oe,none⟩) 1 ce] 96 (0,0)):=by rw[hW0,hq];exact zN _ _
 have hql:q<W0.heap.size:=(zA.1 hqk).1;have HF:=zh (fun(w':World) (hb:Below W0.heap.size W0 w')=>cells4 ((hb.block q hql).trans hqk));have HE:=zh (fun(w':World) (hb:Below W0.heap.size W0 w')=>(h.below hb0).below hb);have HS:=zh (fun(w':World) (hb:Below W0.heap.size W0 w')=>(show Calls Tryz.prog 144 #[.slice (some ⟨bs,os,none⟩) 1 cs,.int .i64 1] w' fun e w2=>e=.returned (.bool true)/\Below w'.heap.size w' w2 from rsmalls_any _ [⟨false,1,1⟩] w' (((h.below hb0).below hb).start cs hcs) (fun x hx=>by rw[List.mem_singleton.1 hx];exact⟨rfl,by decide,by decide⟩)));have HX:=zh (fun(w':World) (hb:Below W0.heap.size W0 w')=>(show Calls Tryz.prog 144 #[.slice (some ⟨be,oe,none⟩) 1 ce,.int .i64 1] w' fun e w2=>e=.returned (.bool true)/\Below w'.heap.size w' w2 from rsmalls_any _ [⟨false,1,100+r⟩] w' (((h.below hb0).below hb).exit ce hce) (fun x hx=>by rw[List.mem_singleton.1 hx];exact⟨rfl,by show 0<100+r;omega,Nat.gcd_one_left _⟩)));have HRW:=zh (fun(w':World) (hb:Below W0.heap.size W0 w')=>(show Calls Tryz.prog 144 #[.slice (some ⟨br,orr,none⟩) 1 cr,.int .i64 1] w' fun e w2=>e=.returned (.bool true)/\Below w'.heap.size w' w2 from rsmalls_any _ [⟨false,0,1⟩] w' (((h.below hb0).below hb).row hcr) (fun x hx=>by rw[List.mem_singleton.1 hx];exact⟨rfl,by decide,by decide⟩)));have HSU:=zh (fun(w':World) (hb:Below W0.heap.size W0 w')=>rsum1_any _ 1 1 w' (((h.below hb0).below hb).start cs hcs) (by omega) (by omega) (by decide));have HW0:=zh hW0;have HQ:=zh hq;have HB0:=zh hb0;obtain⟨c0,c1,c2,c3⟩:=HF.out W0 (zB _ _);clear h hW0 hq hb0 hqk hql hcs hce hcr;go_enter Tryz.func100,Tryz.ntmps100;go_wp2_with fail;rw[<-HW0.out,<-HQ.out];refine(HS.out _ (zB _ _)).mono ?_;rintro e w1 ⟨rfl,hb1⟩;have HB1:=zh hb1;clear hb1 c0 c1 c2 c3;obtain⟨c0,c1,c2,c3⟩:=HF.out w1 HB1.out;go_wp2_with fail;refine(HX.out _ HB1.out).mono ?_;rintro e w2 ⟨rfl,hb2⟩;have HB2:=zh (HB1.out.trans (hb2.mono HB1.out.size));clear hb2 c0 c1 c2 c3;obtain⟨c0,c1,c2,c3⟩:=HF.out w2 HB2.out;go_wp2_with fail;clear c0 c1 c2 c3;go_loopg [4] 1 (fun z v4 wr=>Hid (Below W0.heap.size W0 wr)/\((z=1/\v4=.int .i64 0)\/(z=0/\v4=.int .i64 1)))
 case atStart=>exact⟨HB2.out,.inl ⟨rfl,rfl⟩⟩
 case round =>
  obtain⟨HBR,h2⟩:=hrel;rcases h2 with ⟨rfl,rfl⟩ | ⟨rfl,rfl⟩
  ·obtain⟨c0,c1,c2,c3⟩:=HF.out wr HBR.out;have hE:=HE.out wr HBR.out;have m0:=hE.r0;clear hE;go_wp2_with fail;refine(HRW.out _ HBR.out).mono ?_;rintro e w3 ⟨rfl,hb3⟩;have HB3:=zh (HBR.out.trans (hb3.mono HBR.out.size));clear hb3 c0 c1 c2 c3 m0;obtain⟨c0,c1,c2,c3⟩:=HF.out w3 HB3.out;have hE:=HE.out w3 HB3.out;have m0:=hE.r0;have x0:=hE.x0;have x1:=hE.x1;have x2:=hE.x2;have HSG:=zh (rsign_any _ _ 0 1 w3 hE.rN hE.rD (by omega));rw[show cmpI 0 0=0 from rfl] at HSG;clear hE;go_wp2_with fail;refine HSG.out.mono ?_;rintro e w4 ⟨rfl,hb4⟩;have HB4:=zh (HB3.out.trans (hb4.mono HB3.out.size));clear hb4 c0 c1 c2 c3 m0 x0 x1 x2;go_wp2_with fail;go_roundg 0
   case measure=>omega
   case rel=>exact⟨HB4.out,.inr ⟨rfl,rfl⟩⟩
  ·obtain⟨c0,c1,c2,c3⟩:=HF.out wr HBR.out;go_wp2_with fail;refine(HSU.out _ HBR.out).mono ?_;rintro e w4 ⟨un,um,rfl,hun,hum,hb4⟩;obtain⟨B1,M1,f1,rfl⟩:=hun.frm;obtain⟨B2,M2,f2,rfl⟩:=hum.frm;obtain⟨W5,hW5⟩:=zx (w4.alloc (.cells #[.bool false,.slice B1 M1 f1,.slice B2 M2 f2] 26));obtain⟨y,hy⟩:=zx w4.heap.size
   have hb5:Below w4.heap.size w4 W5:=by rw[hW5];exact(zB _ _).alloc (zR _) _
   have hyk:W5.heap[y]?=some (.cells #[.bool false,.slice B1 M1 f1,.slice B2 M2 f2] 26 (0,0)):=by rw[hW5,hy];exact zN _ _
   obtain⟨y1,hy1⟩:=zx (Value.slice B1 M1 f1);obtain⟨y2,hy2⟩:=zx (Value.slice B2 M2 f2);have hu1:=(hun.mono Fr.bl).below hb5;have hu2:=(hum.mono Fr.bl).below hb5;rw[<-hy1] at hu1 hyk;rw[<-hy2] at hu2 hyk;obtain⟨z0,z1,z2,-⟩:=cells3 hyk;have HB5:=zh ((HBR.out.trans (hb4.mono HBR.out.size)).trans (hb5.mono (Nat.le_trans HBR.out.size hb4.size)));have HYL:=zh (zA.1 hyk).1;have HU1:=zh hu1;have HU2:=zh hu2;have HSA:=zh (fun W a b (h:HeldF W5 y y (.bool false) y1 y2 (.bool false) y1 y2 W) (h3:LS W (Bl W.heap.size) a (natL 1)) (h4:LS W (Bl W.heap.size) b (natL 1))=>rsame_any y1 y2 a b 1 1 1 1 W (h.ls HU1.out) (h.ls HU2.out) h3 h4 (by omega) (by omega) (by omega) (by omega));rw[show decide (cmpI (1*1) (1*1)=0)=true from by decide] at HSA;have HS0:=zh (show HeldF W5 y y (.bool false) y1 y2 (.bool false) y1 y2 W5.drew from⟨z0,z1,z2,z0,z1,z2,(zB _ _).drew⟩);have HW5:=zh hW5;have HY:=zh hy;clear hun hum hb4 hb5 hyk hu1 hu2 z0 z1 z2 hW5 hy hy1 hy2 c0 c1 c2 c3;go_upto_region 10 with fail;rw[<-HW5.out,<-HY.out];refine region_tail (S:=(fun w'=>w'.cell? ⟨y,0,none⟩=some (.bool false)/\w'.cell? ⟨y,1,none⟩=some y1/\w'.cell? ⟨y,2,none⟩=some y2/\w'.cell? ⟨y,0,none⟩=some (.bool false)/\w'.cell? ⟨y,1,none⟩=some y1/\w'.cell? ⟨y,2,none⟩=some y2/\Below W5.heap.size W5 w')) [] (by kernel_rfl) HS0.out (fun hHeld=>?_);refine tk 0 73 ?_;refine tk 1 74 ?_;refine tk 2 75 ?_;refine tk 3 76 ?_;refine readyT (rs:=[4]) (by kernel_rfl) (by simp) ?_;refine zC rfl (fun K hK=>?_) ?_
   ·go_simp;(go_at_call 146;refine(rint_any 1 _ (by omega)).mono ?_;rintro e w6 ⟨un,um,rfl,hun,hum,hb6⟩);go_wp2_with fail;refine hK.out _ _ ?_ (fun hHeld=>?_)
    ·(first|(with_reducible assumption)|exact HeldF.below (by assumption) hb7 HYL.out HYL.out|exact HeldF.below (by assumption) hb6 HYL.out HYL.out)
    clear hK K;(try simp only[Act.put,z1,z2,z3]);refine readyT (rs:=[5]) (by kernel_rfl) (by simp) ?_;refine zC rfl (fun K hK=>?_) ?_
    ·go_simp;(go_at_call 87;refine(HSA.out _ _ _ (by assumption) (hun.mono Fr.bl) (hum.mono Fr.bl)).mono ?_;rintro e w7 ⟨rfl,hb7⟩);go_wp2_with fail;refine hK.out _ _ ?_ (fun hHeld=>?_)
     ·(first|(with_reducible assumption)|exact HeldF.below (by assumption) hb7 HYL.out HYL.out|exact HeldF.below (by assumption) hb6 HYL.out HYL.out)
     clear hK K;(try simp only[Act.put,z1,z2,z3]);refine tk 6 79 ?_;refine tk 7 80 ?_;refine doneT (by kernel_rfl) ?_ _;have hBZ:Below W5.heap.size W5 w7:=HeldF.bl (q:=y) (p:=y) (by assumption);have hB07:=HB5.out.trans (hBZ.mono HB5.out.size);have HB7:=zh hB07;clear hHeld hun hum hb6 hb7 hBZ hB07;obtain⟨WG,hWG⟩:=zx (w7.alloc (.cells #[.bool false] 4));obtain⟨g,hg⟩:=zx w7.heap.size
     have hgk:WG.heap[g]?=some (.cells #[.bool false] 4 (0,0)):=by rw[hWG,hg];exact zN _ _
     have HBG:=zh (show Below W0.heap.size W0 WG from by rw[hWG];exact HB7.out.alloc HB7.out.size _);have HGG:=zh (show W0.heap.size<=g from by rw[hg];exact HB7.out.size);have HGK:=zh hgk;have HWG:=zh hWG;have HGE:=zh hg;clear hWG hg hgk;have hmk:=mk_bool1;go_upto_region 13 with fail;rw[<-HWG.out,<-HGE.out];clear hmk;go_wp2_with fail;go_loopg [8,9,10] 1 (fun z v8 v9 v10 wr=>(z=1/\v8=.int .i64 0/\WG=wr)\/(z=0/\v8=.int .i64 1/\Hid (wr.heap[g]?=some (.cells #[.bool true] 4 (0,0)))/\Hid (Below W0.heap.size W0 wr)))
     case atStart=>exact .inl ⟨rfl,rfl,rfl⟩
     case round =>
      rcases hrel with ⟨rfl,rfl,rfl⟩ | ⟨rfl,rfl,hgt,hbt⟩
      ·go_wp2_with fail;go_loopg [9,10] 1 (fun z v9 v10 wr=>(z=1/\v9=.int .i64 0/\WG=wr)\/(z=0/\v9=.int .i64 1/\Hid (wr.heap[g]?=some (.cells #[.bool true] 4 (0,0)))/\Hid (Below W0.heap.size W0 wr)))
       case atStart=>exact .inl ⟨rfl,rfl,rfl⟩
       case round =>
        rcases hrel with ⟨rfl,rfl,rfl⟩ | ⟨rfl,rfl,hgt,hbt⟩
        ·have kg:WG.cell? ⟨g,0,none⟩=some (.bool false):=by rw[cell_of_row _ _ _ _ _ _ HGK.out];rfl
         obtain⟨k0,k1,k2,k3⟩:=HF.out WG HBG.out;have hE:=HE.out WG HBG.out;have m0:=hE.e0;have m1:=hE.e1;have m2:=hE.e2;have HSG:=zh (rsign_any _ _ 1 (100+r) WG hE.eN hE.eD (by omega));rw[show cmpI 1 0=1 from rfl] at HSG;clear hE;go_wp2_with fail;refine HSG.out.mono ?_;rintro e w8 ⟨rfl,hb8⟩;have hgk8:=(hb8.block g (zA.1 HGK.out).1).trans HGK.out
         have kg8:w8.cell? ⟨g,0,none⟩=some (.bool false):=by rw[cell_of_row _ _ _ _ _ _ hgk8];rfl
         have kf8:w8.frozen? ⟨g,0,none⟩=false:=frozen_of_row _ _ _ _ _ hgk8;obtain⟨WX,hWX⟩:=zx (w8.setCell ⟨g,0,none⟩ (.bool true))
         have hgx:WX.heap[g]?=some (.cells #[.bool true] 4 (0,0)):=by rw[hWX];exact heap_setCell_same w8 g 0 _ _ _ hgk8
         have HGX:=zh hgx;have HBX:=zh (show Below W0.heap.size W0 WX from by rw[hWX];exact(HBG.out.trans (hb8.mono HBG.out.size)).setCell HGG.out _);have HWX:=zh hWX;clear hb8 hgk8 hWX hgx kg k0 k1 k2 k3 m0 m1 m2;go_upto_region 20 with fail;rw[<-HWX.out];clear kg8 kf8;go_wp2_with fail;go_loopg [10] 1 (fun z v10 wr=>(z=1/\v10=.int .i64 0/\WX=wr)\/(z=0/\v10=.int .i64 1/\Hid (wr.heap[g]?=some (.cells #[.bool true] 4 (0,0)))/\Hid (Below W0.heap.size W0 wr)))
         case atStart=>exact .inl ⟨rfl,rfl,rfl⟩
         case round =>
          rcases hrel with ⟨rfl,rfl,rfl⟩ | ⟨rfl,rfl,hgt,hbt⟩
          ·have kg:WX.cell? ⟨g,0,none⟩=some (.bool true):=by rw[cell_of_row _ _ _ _ _ _ HGX.out];rfl
           have kf:WX.frozen? ⟨g,0,none⟩=false:=frozen_of_row _ _ _ _ _ HGX.out;go_wp2_with fail;go_roundg 0
           case measure=>omega
           case rel=>exact .inr ⟨rfl,rfl,heap_setCell_same WX g 0 _ _ _ HGX.out,HBX.out.setCell HGG.out _⟩
          ·go_wp2_with fail;go_roundg 0
           case measure=>omega
           case rel=>exact .inr ⟨rfl,rfl,hgt.out,hbt.out⟩
        ·go_wp2_with fail;go_roundg 0
         case measure=>omega
         case rel=>exact .inr ⟨rfl,rfl,hgt.out,hbt.out⟩
      ·go_wp2_with fail;go_loopg [11] 1 (fun z v11 w2=>wr=w2/\((z=1/\v11=.int .i64 0)\/(z=0/\v11=.int .i64 1)))
       case atStart=>exact⟨rfl,.inl ⟨rfl,rfl⟩⟩
       case round =>
        obtain⟨hww,h2⟩:=hrel;subst hww;rcases h2 with ⟨rfl,rfl⟩ | ⟨rfl,rfl⟩
        ·have kg:wr.cell? ⟨g,0,none⟩=some (.bool true):=by rw[cell_of_row _ _ _ _ _ _ hgt.out];rfl
         go_wp2_with fail;go_roundg 0
         case measure=>omega
         case rel=>exact⟨rfl,.inr ⟨rfl,rfl⟩⟩
        ·go_wp2_with fail;go_ret;exact⟨rfl,HB0.out.trans (hbt.out.mono HB0.out.size)⟩
    exact zE
   exact zE
end Go.Proofs.YtgfaieppacabjaaGreat
