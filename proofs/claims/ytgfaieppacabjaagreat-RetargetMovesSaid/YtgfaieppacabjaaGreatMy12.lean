/- Names of lower-case letters; lists of names that differ, walked. -/
import Derived.Test.YtgfaieppacabjaaGreatMy11
set_option linter.unusedSectionVars false
set_option maxRecDepth 100000
set_option maxHeartbeats 12800000
namespace Go.Proofs.YtgfaieppacabjaaGreat
open Go.RowKit
open Go.ChangeMaps Go.MapKept Go.WideShapes
open Go.Maps (Keyed string_keyed)
open Go.WideMaps (keyOf_string_mk)
set_option linter.unusedVariables false
set_option linter.unusedSimpArgs false
def LowN(s:ByteArray):Prop:=1<=s.size/\s.size<=16/\∀x∈s.data.toList,97<=x.toNat/\x.toNat<=122
theorem fletter_any(c:UInt8)(w:World)(h1:97<=c.toNat)(h2:c.toNat<=122):Calls Tryz.prog 140 #[.int .u8 (c.toNat:Int)] w fun e w'=>e=.returned (.bool true)/\w=w':=by
 have q1:(97:Int)<=(c.toNat:Int):=by omega
 have q2:(c.toNat:Int)<=122:=by omega
 go_enter Tryz.func140,Tryz.ntmps140;go_wp2_with fail;go_ret;exact⟨ret_bool (by simp[q1,q2]),rfl⟩
theorem finner_any(c:UInt8)(w:World)(h1:97<=c.toNat)(h2:c.toNat<=122):Calls Tryz.prog 141 #[.int .u8 (c.toNat:Int)] w fun e w'=>e=.returned (.bool true)/\w=w':=by
 have HL:=zh (fletter_any c w h1 h2);go_enter Tryz.func141,Tryz.ntmps141;go_wp2_with fail;refine HL.out.mono ?_;rintro e w1 ⟨rfl,rfl⟩;go_wp2_with fail;go_ret;exact⟨rfl,rfl⟩
theorem fname_any(s:ByteArray)(w:World)(h:LowN s):Calls Tryz.prog 96 #[.string s] w fun e w'=>e=.returned (.bool true)/\w=w':=by
 obtain⟨h1,h2,h3⟩:=h
 have hE:s.toList.isEmpty=false:=by
  rw[ByteArray.toList_eq]
  cases hl:s.data.toList with
  | nil =>
   have:s.size=0:=by show s.data.size=0;rw[<-Array.length_toList,hl];rfl
   omega
  | cons a l=>rfl
 have HA:=zh h3
 have hel:∀i (hi:i<s.size),97<=(s[i]'hi).toNat/\(s[i]'hi).toNat<=122:=fun i hi=>h3 _ (by rw[<-Array.mem_def];exact Array.getElem_mem hi)
 have HEL:=zh hel
 have q1:(0:Int)<(s.size:Int):=by omega
 have q2:¬((16:Int)<(s.size:Int)):=by omega
 clear h3 hel;go_enter Tryz.func96,Tryz.ntmps96;go_wp2_with fail;refine(fletter_any _ w (HEL.out 0 (by omega)).1 (HEL.out 0 (by omega)).2).mono ?_;rintro e w1 ⟨rfl,rfl⟩;go_wp2_with fail;go_loopg [3] s.size (fun z v3 wr=>w=wr/\∃j:Nat,j<=s.size/\z=s.size-j/\v3=.int .i64 (j:Int))
 case atStart=>exact⟨rfl,0,by omega,rfl,rfl⟩
 case round =>
  obtain⟨rfl,j,hj,rfl,rfl⟩:=hrel;by_cases hlt:j<s.size
  ·go_wp2_with fail;refine(finner_any _ w (HEL.out j hlt).1 (HEL.out j hlt).2).mono ?_;rintro e w1 ⟨rfl,rfl⟩;go_wp2_with fail;go_roundg (s.size-(j+1))
   case measure=>omega
   case rel=>exact⟨rfl,j+1,by omega,rfl,by go_num⟩
  ·go_wp2_with fail;go_ret;exact⟨rfl,rfl⟩
def MapSV(w:World)(b n:Nat)(f:ByteArray->Option Value):Prop :=
 ∃D,w.ownsMap Tryz.prog 9 rawR b n D/\∀s l,keyOf Tryz.prog 9 (.string s)=some l->Maps.has D l=(f s).isSome/\∀z,D.atKey l (.held z)=.held ((f s).getD z)
theorem str_law:Keyed Tryz.prog 9:=string_keyed Tryz.underlying9
def updS(f:ByteArray->Option Value)(x:ByteArray)(v:Value):ByteArray->Option Value:=fun a=>if a=x then some v else f a
theorem updS_same(f:ByteArray->Option Value)(x:ByteArray)(v:Value):updS f x v x=some v:=if_pos rfl
theorem updS_other{f:ByteArray->Option Value}{x a:ByteArray}{v:Value}(h:a≠x):updS f x v a=f a:=if_neg h
theorem MapSV.made(w:World):MapSV (w.alloc (.map #[] 0)) w.heap.size 0 (fun _=>none) :=
 ⟨_,World.ownsMap_made w Tryz.prog 9 rawR,fun x l _=>⟨rfl,fun z=>rfl⟩⟩
theorem MapSV.look{w:World}{b n:Nat}{f:ByteArray->Option Value}{t e:TypeId}{z:Value}(h:MapSV w b n f)(ht:Tryz.prog.underlying t=some (.map 9 e))(hz:(zeroValue e).run Tryz.prog w=.ok z w)(s:ByteArray)(hs:s.size<=maxLen) :
  (Instr.lookup t (.map (some b)) (.string s) false).run Tryz.prog w=.ok ((f s).getD z) w:=by
 obtain⟨D,h1,h2⟩:=h;have hl:=keyOf_string_mk (P:=Tryz.prog) Tryz.underlying9 hs;obtain⟨v,ps,hrun,hv⟩:=h1.lookup str_law ht hz (zd:=.held z) (zp:=[]) rfl hl;rw[(h2 s _ hl).2 z] at hv;rw[hrun,held_inj (rawR_inj hv)]
theorem MapSV.store{w:World}{b n:Nat}{f:ByteArray->Option Value}{t e:TypeId}(h:MapSV w b n f)(ht:Tryz.prog.underlying t=some (.map 9 e))(hn:n<maxLen)(s:ByteArray)(hs:s.size<=maxLen)(v:Value) :
  ∃w',(Instr.mapUpdate t (.map (some b)) (.string s) v).run Tryz.prog w=.ok () w'/\MapSV w' b (n+1) (updS f s v)/\w.grownBy w' (some b):=by
 obtain⟨D,h1,h2⟩:=h;have hl:=keyOf_string_mk (P:=Tryz.prog) Tryz.underlying9 hs;obtain⟨w',hrun,r1,r2⟩:=h1.update str_law ht hn hl (d:=.held v) (ps:=[]) rfl;refine⟨w',hrun,⟨_,r1,fun a l' hl'=>?_⟩,r2⟩;by_cases hk:a=s
 ·subst hk;have e:=hl';rw[hl] at e;injection e with e;subst e;rw[updS_same];exact⟨Maps.has_put_same h1.isMap (str_law.key hl') _,fun z=>Maps.atKey_put_same h1.isMap (str_law.key hl') _ _⟩
 ·rw[updS_other hk]
  have hne:l'≠.string s.data.toList:=fun e=>hk (by
   rw[e] at hl';have:=str_law.inj hl' hl
   injection this)
  exact⟨by rw[Maps.has_put_other hne];exact(h2 a l' hl').1,fun z=>by rw[Maps.atKey_put_other hne];exact(h2 a l' hl').2 z⟩
theorem sv_store{w:World}{ops:Array Oper}{rest:List Oper}{o:Oper}{a:Act}{Q:Exit->Act->World->Prop}(hg:o.guard=none)(m xo vo:Operand)(t e:TypeId)(hop:o.op=Op.mapUpdate t m xo vo)(ht:Tryz.prog.underlying t=some (.map 9 e))(b n:Nat)(f:ByteArray->Option Value)(s:ByteArray)(v:Value)
  (hm:a.eval m=.map (some b)) (hxo:a.eval xo=.string s) (hvo:a.eval vo=v) (h:MapSV w b n f) (hn:n<maxLen) (hs:s.size<=maxLen)
  (hK:∀w',MapSV w' b (n+1) (updS f s v)->w.grownBy w' (some b)->wpList Tryz.prog ops Q rest (a.put o.dst undef) w'):wpList Tryz.prog ops Q (o :: rest) a w:=by
 refine wpList_plain hg fun K' hK'=>?_
 obtain⟨w',hrun,r1,r2⟩:=h.store ht hn s hs v;unfold Oper.wp;simp[execOp,hop,hm,hxo,hvo,hrun,Result.andThen];exact hK' _ _ (hK w' r1 r2)
theorem zero_bool(w:World):(zeroValue 4).run Tryz.prog w=.ok (.bool false) w:=by kernel_rfl
theorem funique_any(v:Value)(l:List ByteArray)(w:World)(h:SlS 1 StrK w (Bl w.heap.size) v l)(hl:∀s∈l,LowN s)(hd:l.Nodup)(hn:l.length<=1000) :
  Calls Tryz.prog 46 #[v] w fun e w'=>e=.returned (.bool true)/\Below w.heap.size w w':=by
 obtain⟨A,c,rfl,-,hm⟩:=h.form;unfold maxLen at hm;obtain⟨W0,hW0⟩:=zx (w.alloc (.map #[] 0));obtain⟨b,hb⟩:=zx w.heap.size
 have hb0:Below w.heap.size w W0:=by rw[hW0];exact(zB _ _).alloc (zR _) _
 have HM0:=zh (show MapSV W0 b 0 (fun _=>none) from by rw[hW0,hb];exact MapSV.made w);have HS:=zh (fun(w':World) (hb:Below w.heap.size w w')=>SlS.keep strK h (kept_below hb));have hmm:=@run_makeMap Tryz.prog;have HL:=zh hl;have HD:=zh hd;have HN:=zh hn;have HW0:=zh hW0;have HB:=zh hb;have HB0:=zh hb0;clear h hl hd hn hW0 hb hb0;go_enter Tryz.func46,Tryz.ntmps46;go_wp2_with fail;rw[<-HW0.out,<-HB.out];clear hmm;go_loopg [9] l.length (fun z v9 wr=>∃j:Nat,j<=l.length/\z=l.length-j/\v9=.int .i64 (j:Int)/\Hid (Below w.heap.size w wr)/\Hid (∃f,MapSV wr b j f/\∀s,s∉l.take j->f s=none))
 case atStart=>exact⟨0,by omega,rfl,rfl,HB0.out,⟨_,HM0.out,fun _ _=>rfl⟩⟩
 case round =>
  obtain⟨j,hj,rfl,rfl,HBR,HF⟩:=hrel;by_cases hlt:j<l.length
  ·obtain⟨f,hf,hfn⟩:=HF.out;obtain⟨p,off,cs,rfl,hR,-,hc,hk,hsz⟩:=(HS.out wr HBR.out).at_ hlt;have hcell:=hc 0 (.string l[j]) (by rw[hk];rfl);simp only[Nat.mul_one,Nat.add_zero] at hcell;have hlow:=HL.out l[j] (List.getElem_mem hlt)
   have hnot:l[j]∉l.take j:=fun hm=>by
    obtain⟨i,hi,he⟩:=List.getElem_of_mem hm;rw[List.length_take] at hi;rw[List.getElem_take] at he;exact(List.pairwise_iff_getElem.1 HD.out i j (by omega) hlt (by omega)) he
   have hnx:∀s,s∉l.take (j+1)->s≠l[j]/\s∉l.take j:=fun s hs=>by
    rw[List.take_succ_eq_append_getElem hlt] at hs;exact⟨fun e=>hs (List.mem_append.2 (.inr (by rw[e];exact List.mem_singleton.2 rfl))),fun hm=>hs (List.mem_append.2 (.inl hm))⟩
   have hlk:=hf.look Tryz.underlying159 (zero_bool wr) l[j] hsz;rw[hfn _ hnot] at hlk
   have hj0:j<=1000:=by have:=HN.out;omega
   have hjm:j<maxLen:=by unfold maxLen;omega
   generalize l[j]=x at *;have HNM:=zh (fname_any x wr hlow);have HFF:=zh hf;have HFN:=zh hfn;have HNX:=zh hnx;have HSZ:=zh hsz;have HJM:=zh hjm;have hlk2:(Instr.lookup 159 (.map (some b)) (.string x) false).run Tryz.prog wr=.ok (.bool false) wr:=hlk;clear hc hk hlow hnot hlk hf hfn hnx hsz hjm;go_wp2_with fail;refine HNM.out.mono ?_;rintro e w1 ⟨rfl,rfl⟩;go_wp2_with (at_mapUpdate;refine sv_store rfl _ _ _ _ _ rfl Tryz.underlying159 b j f x (.bool true) (by rfl) (by rfl) (by rfl) HFF.out HJM.out HSZ.out ?_;intro w2 hm2 hg2);have HM2:=zh hm2;have HB2:=zh (show Below w.heap.size w w2 from HBR.out.grown hg2 HBR.out.size (fun q e=>by injection e with e;have:=HB.out;omega));clear hm2 hg2 hcell hlk2;go_wp2_with fail;go_roundg (l.length - (j+1))
   case measure=>omega
   case rel=>exact⟨j+1,by omega,rfl,by go_num,HB2,⟨_,HM2.out,fun s hs=>by rw[updS_other (HNX.out s hs).1];exact HFN.out s (HNX.out s hs).2⟩⟩
  ·go_wp2_with fail;go_ret;exact⟨rfl,HBR.out⟩
theorem fnumk_any(n:Int)(w:World)(h:0<=n/\n<=8):Calls Tryz.prog 137 #[.int .i64 n] w fun e w'=>e=.returned (.bool true)/\w=w':=by
 have HI:=zh (fin_any n 0 8 w);rw[decide_eq_true h] at HI;go_enter Tryz.func137,Tryz.ntmps137;go_wp2_with fail;refine HI.out.mono ?_;rintro e w1 ⟨rfl,rfl⟩;go_wp2_with fail;go_ret;exact⟨rfl,rfl⟩
theorem falli_any(v:Value)(xs:List Int)(w:World)(R:Nat->Prop)(h:IntS w R v xs)(hx:∀x∈xs,0<=x/\x<=8) :
  Calls Tryz.prog 136 #[v,.func (.func 137) #[] #[]] w fun e w'=>e=.returned (.bool true)/\w=w':=by
 obtain⟨A,c,rfl,-,hm⟩:=h.form7;unfold maxLen at hm;have HL:=zh h;have HX:=zh hx;clear h hx;go_enter Tryz.func136,Tryz.ntmps136;go_wp2_with fail;go_loopg [9] xs.length (fun z v9 wr=>w=wr/\∃j:Nat,j<=xs.length/\z=xs.length-j/\v9=.int .i64 (j:Int))
 case atStart=>exact⟨rfl,0,by omega,rfl,rfl⟩
 case round =>
  obtain⟨rfl,j,hj,rfl,rfl⟩:=hrel;by_cases hlt:j<xs.length
  ·obtain⟨b,off,rfl,hR,hc,-⟩:=HL.out.at7 hlt;have HK:=zh (fnumk_any xs[j] w (HX.out _ (List.getElem_mem hlt)));generalize xs[j]=x at *;go_wp2_with fail;refine HK.out.mono ?_;rintro e w1 ⟨rfl,rfl⟩;go_wp2_with fail;go_roundg (xs.length - (j+1))
   case measure=>omega
   case rel=>exact⟨rfl,j+1,by omega,rfl,by go_num⟩
  ·go_wp2_with fail;go_ret;exact⟨rfl,rfl⟩
theorem fnumbers_any(k m q s3 s4:Int)(w:World)(hk:k=1\/k=2)(hm:0<=m/\m<=4)(hq:k<=q/\q<=k+m)(h3:0<=s3/\s3<=3)(h4:0<=s4/\s4<=2) :
  Calls Tryz.prog 94 #[.int .i64 k,.int .i64 m,.int .i64 q,.agg #[.int .i64 0,.int .i64 0,.int .i64 0,.int .i64 s3,.int .i64 s4]] w fun e w'=>e=.returned (.bool true)/\Below w.heap.size w w':=by
 obtain⟨W0,hW0⟩:=zx (w.alloc (.cells #[.int .i64 0,.int .i64 0,.int .i64 0,.int .i64 s3,.int .i64 s4] 52));obtain⟨g,hg⟩:=zx w.heap.size
 have hb0:Below w.heap.size w W0:=by rw[hW0];exact(zB _ _).alloc (zR _) _
 have hgk:W0.heap[g]?=some (.cells #[.int .i64 0,.int .i64 0,.int .i64 0,.int .i64 s3,.int .i64 s4] 52 (0,0)):=by rw[hW0,hg];exact zN _ _
 have c0:W0.cell? ⟨g,0,none⟩=some (.int .i64 0):=by rw[cell_of_row _ _ _ _ _ _ hgk];rfl
 have hint:IntS W0 (Bl W0.heap.size) (.slice (some ⟨g,0,none⟩) 5 5) [0,0,0,s3,s4]:=by
  refine⟨⟨_,5,rfl,zR _,by unfold maxLen;simp,fun _=>⟨g,0,rfl,(zA.1 hgk).1,fun i x hx=>?_⟩⟩,fun x hx=>?_⟩
  ·rw[Nat.zero_add,cell_of_row _ _ _ _ _ _ hgk]
   match i,hx with
   | 0,hx=>simp at hx;subst hx;rfl
   | 1,hx=>simp at hx;subst hx;rfl
   | 2,hx=>simp at hx;subst hx;rfl
   | 3,hx=>simp at hx;subst hx;rfl
   | 4,hx=>simp at hx;subst hx;rfl
   | i+5,hx=>simp at hx
  ·simp at hx;unfold I64;rcases hx with rfl | rfl | rfl <;> omega
 have HA:=zh (falli_any _ _ W0 _ hint (fun x hx=>by simp at hx;rcases hx with rfl | rfl | rfl <;> omega));have H1:=zh (fin_any k 1 6 W0);rw[decide_eq_true (show 1<=k/\k<=6 by omega)] at H1;have H2:=zh (fin_any m 0 4 W0);rw[decide_eq_true (show 0<=m/\m<=4 by omega)] at H2;have H3:=zh (fin_any q k (k+m) W0);rw[decide_eq_true (show k<=q/\q<=k+m from hq)] at H3;have HW0:=zh hW0;have HG:=zh hg;have HB0:=zh hb0
 have k1:1<=k:=by omega
 have k2:k<=2:=by omega
 have m1:0<=m:=hm.1;have m2:m<=4:=hm.2;clear hk hm hq h3 h4 hW0 hg hb0 hgk hint;go_enter Tryz.func94,Tryz.ntmps94;go_wp2_with fail;rw[<-HW0.out,<-HG.out];refine H1.out.mono ?_;rintro e w1 ⟨rfl,rfl⟩;go_wp2_with fail;refine H2.out.mono ?_;rintro e w1 ⟨rfl,rfl⟩;go_wp2_with fail;refine H3.out.mono ?_;rintro e w1 ⟨rfl,rfl⟩;go_wp2_with fail;refine HA.out.mono ?_;rintro e w1 ⟨rfl,rfl⟩;go_wp2_with fail;go_ret;exact⟨rfl,HB0.out⟩
theorem frates_any(m:Int)(vr tn td hn hd:Value)(w:World)(hm:0<=m/\m<=4)(hr:SlS 3 FrcK w (Bl w.heap.size) vr (List.replicate (max m 1).toNat ⟨false,1,2⟩))(htn:LS w (Bl w.heap.size) tn (natL 1))(htd:LS w (Bl w.heap.size) td (natL 1000))(hhn:LS w (Bl w.heap.size) hn (natL 30))(hhd:LS w (Bl w.heap.size) hd (natL 1)) :
  Calls Tryz.prog 95 #[.int .i64 m,vr,.agg #[.bool false,tn,td],.agg #[.bool false,hn,hd]] w fun e w'=>e=.returned (.bool true)/\Below w.heap.size w w':=by
 obtain⟨A1,N1,d1,rfl⟩:=htn.frm;obtain⟨A2,N2,d2,rfl⟩:=htd.frm;obtain⟨A3,N3,d3,rfl⟩:=hhn.frm;obtain⟨A4,N4,d4,rfl⟩:=hhd.frm;obtain⟨Ar,cr,hvr,-,-⟩:=hr.form;obtain⟨M,hM⟩:∃M:Nat,M=(max m 1).toNat:=⟨_,rfl⟩;rw[List.length_replicate,<-hM] at hvr;subst hvr
 have hMm:(M:Int)=max m 1:=by rw[hM];omega
 obtain⟨W0,hW0⟩:=zx ((w.alloc (.cells #[.bool false,.slice A1 N1 d1,.slice A2 N2 d2] 26)).alloc (.cells #[.bool false,.slice A3 N3 d3,.slice A4 N4 d4] 26));obtain⟨q,hq⟩:=zx w.heap.size;obtain⟨p,hp⟩:=zx (w.heap.size+1)
 have hb0:Below w.heap.size w W0:=by rw[hW0];exact((zB _ _).alloc (zR _) _).alloc (by simp) _
 have hpk:W0.heap[p]?=some (.cells #[.bool false,.slice A3 N3 d3,.slice A4 N4 d4] 26 (0,0)):=by
  rw[hW0];exact heap_alloc_at _ _ _ (by rw[hp];simp)
 have hqk:W0.heap[q]?=some (.cells #[.bool false,.slice A1 N1 d1,.slice A2 N2 d2] 26 (0,0)):=by
  rw[hW0,hq];exact(zH _ _ _ (by simp)).trans (zN w _)
 have hpl:p<W0.heap.size:=(zA.1 hpk).1;have hql:q<W0.heap.size:=(zA.1 hqk).1;have HC:=zh (fun(w':World) (hb:Below W0.heap.size W0 w')=>And.intro (cells3 ((hb.block q hql).trans hqk)) (cells3 ((hb.block p hpl).trans hpk)));have H1:=zh (fun(w':World) (hb:Below W0.heap.size W0 w')=>(htn.below hb0).below hb);have H2:=zh (fun(w':World) (hb:Below W0.heap.size W0 w')=>(htd.below hb0).below hb);have H3:=zh (fun(w':World) (hb:Below W0.heap.size W0 w')=>(hhn.below hb0).below hb);have H4:=zh (fun(w':World) (hb:Below W0.heap.size W0 w')=>(hhd.below hb0).below hb);have HR:=zh (fall_rate _ _ W0 (SlS.below frcK hr hb0) (fun W x vn vd hx hn hd=>by rw[(List.mem_replicate.1 hx).2] at hn hd ⊢;exact frate_any vn vd 1 2 W hn hd (by omega) (by omega) (by decide)));have HW0:=zh hW0;have HQ:=zh (show q=w.heap.size/\p=w.heap.size+1 from⟨hq,hp⟩);have HB0:=zh hb0
 have hmx:(if m<=1 then(1:Int) else m)=(M:Int):=by split <;> omega
 have hmx2:(if(1:Int)<m then m else 1)=(M:Int):=by split <;> omega
 have hmx3:(if m<1 then(1:Int) else m)=(M:Int):=by split <;> omega
 have hmx4:max m 1=(M:Int):=hMm.symm;obtain⟨m1,m2⟩:=hm;clear hr htn htd hhn hhd hW0 hq hp hb0 hpk hqk hpl hql hM hMm;go_enter Tryz.func95,Tryz.ntmps95;go_wp2_with fail;rw[<-HW0.out,<-HQ.out.2,<-HQ.out.1];refine HR.out.mono ?_;rintro e w1 ⟨rfl,hb1⟩;obtain⟨⟨c0,c1,c2,-⟩,-⟩:=HC.out w1 hb1;have HL1:=zh (flimits_any _ _ 1 1000 w1 (H1.out w1 hb1) (H2.out w1 hb1) (by omega) (by decide));have HB1:=zh hb1;clear hb1 hmx hmx2 hmx3 hmx4;go_wp2_with fail;refine HL1.out.mono ?_;rintro e w2 ⟨rfl,hb2⟩;have hb02:=HB1.out.trans (hb2.mono HB1.out.size);clear c0 c1 c2;obtain⟨⟨c0,c1,c2,-⟩,-⟩:=HC.out w2 hb02;have HL2:=zh (fone_any _ _ 1 1000 w2 (H1.out w2 hb02) (H2.out w2 hb02) (by omega) (by omega));have HB2:=zh hb02;clear hb2 hb02;go_wp2_with fail;refine HL2.out.mono ?_;rintro e w3 ⟨rfl,hb3⟩;have hb03:=HB2.out.trans (hb3.mono HB2.out.size);clear c0 c1 c2;obtain⟨-,⟨c0,c1,c2,-⟩⟩:=HC.out w3 hb03;have HL3:=zh (flimits_any _ _ 30 1 w3 (H3.out w3 hb03) (H4.out w3 hb03) (by omega) (by decide));have HB3:=zh hb03;clear hb3 hb03;go_wp2_with fail;refine HL3.out.mono ?_;rintro e w4 ⟨rfl,hb4⟩;have HB4:=zh (HB0.out.trans ((HB3.out.trans (hb4.mono HB3.out.size)).mono HB0.out.size));clear hb4 c0 c1 c2;go_wp2_with fail;go_ret;exact⟨rfl,HB4.out⟩
theorem mk_bool2:∀w:World,(Instr.makeSlice 158 (.int .i64 2) (.int .i64 2)).run Tryz.prog w=.ok (.slice (some ⟨w.heap.size,0,none⟩) 2 2) (w.alloc (.cells #[.bool false,.bool false] 4)):=by
 intro w;obtain⟨i0,hi0,hz0,hz1,hz2⟩:=info_parts info_bool;have h:=run_make (P:=Tryz.prog) w 158 4 i0 _ Tryz.underlying158 hi0 hz0 .i64 .i64 (2:Int) (2:Int) (by omega) (by omega) (by rw[hz2];decide) (by omega);rw[hz1] at h;simp[madeCells_one,Value.cells] at h;exact h
theorem bool2_cell{w:World}{g:Nat}{a b:Bool}(h:w.heap[g]?=some (.cells #[.bool a,.bool b] 4 (0,0))):w.cell? ⟨g,0,none⟩=some (.bool a)/\w.cell? ⟨g,1,none⟩=some (.bool b)/\w.frozen? ⟨g,0,none⟩=false/\w.frozen? ⟨g,1,none⟩=false :=
 ⟨by rw[cell_of_row _ _ _ _ _ _ h];rfl,by rw[cell_of_row _ _ _ _ _ _ h];rfl,frozen_of_row _ _ _ _ _ h,frozen_of_row _ _ _ _ _ h⟩
theorem pol_cells{w:World}{g:Nat}{n:ByteArray}{k m q s3 s4:Int}{vm vr tn td hn hd:Value}{T:TypeId}(h:w.heap[g]?=some (.cells #[.string n,.int .i64 k,.int .i64 m,.int .i64 q,.int .i64 0,.int .i64 0,.int .i64 0,.int .i64 s3,.int .i64 s4,vm,vr,.bool false,tn,td,.bool false,hn,hd] T (0,0))) :
  (w.cell? ⟨g,1,none⟩=some (.int .i64 k)/\w.cell? ⟨g,2,none⟩=some (.int .i64 m)/\w.cell? ⟨g,3,none⟩=some (.int .i64 q)/\w.cell? ⟨g,4,none⟩=some (.int .i64 0)/\w.cell? ⟨g,5,none⟩=some (.int .i64 0)/\w.cell? ⟨g,6,none⟩=some (.int .i64 0)/\w.cell? ⟨g,7,none⟩=some (.int .i64 s3)/\w.cell? ⟨g,8,none⟩=some (.int .i64 s4)) /\
  (w.cell? ⟨g,9,none⟩=some vm/\w.cell? ⟨g,10,none⟩=some vr/\w.cell? ⟨g,11,none⟩=some (.bool false)/\w.cell? ⟨g,12,none⟩=some tn/\w.cell? ⟨g,13,none⟩=some td/\w.cell? ⟨g,14,none⟩=some (.bool false)/\w.cell? ⟨g,15,none⟩=some hn/\w.cell? ⟨g,16,none⟩=some hd):=by
 refine⟨⟨?_,?_,?_,?_,?_,?_,?_,?_⟩,?_,?_,?_,?_,?_,?_,?_,?_⟩ <;> (rw[cell_of_row _ _ _ _ _ _ h];rfl)
theorem fpolicy_any(x:PolM)(vm vr tn td hn hd:Value)(w:World)(hw:PolWell x)(hm:IntS w (Bl w.heap.size) vm x.models)(hr:SlS 3 FrcK w (Bl w.heap.size) vr x.repair)(htn:LS w (Bl w.heap.size) tn (natL x.target.num))(htd:LS w (Bl w.heap.size) td (natL x.target.den))(hhn:LS w (Bl w.heap.size) hn (natL x.horizon.num))(hhd:LS w (Bl w.heap.size) hd (natL x.horizon.den)) :
  Calls Tryz.prog 45 #[.agg #[.string x.name,.int .i64 x.k,.int .i64 x.m,.int .i64 x.q,.int .i64 0,.int .i64 0,.int .i64 0,.int .i64 x.s3,.int .i64 x.s4,vm,vr,.bool x.target.neg,tn,td,.bool x.horizon.neg,hn,hd],.int .i64 2] w fun e w'=>e=.returned (.bool true)/\Below w.heap.size w w':=by
 obtain⟨wk,wm1,wm2,wq1,wq2,w31,w32,w41,w42,wmod,wrep,wtar,whor⟩:=hw;obtain⟨name,k,m,q,s3,s4,models,repair,target,horizon⟩:=x;simp only at *;subst wrep wtar whor;obtain⟨A1,N1,d1,rfl⟩:=htn.frm;obtain⟨A2,N2,d2,rfl⟩:=htd.frm;obtain⟨A3,N3,d3,rfl⟩:=hhn.frm;obtain⟨A4,N4,d4,rfl⟩:=hhd.frm;obtain⟨Ar,cr,hvr,-,-⟩:=hr.form;obtain⟨M,hM⟩:∃M:Nat,M=(List.replicate (max m 1).toNat (⟨false,1,2⟩:Frc)).length:=⟨_,rfl⟩;rw[<-hM] at hvr;subst hvr;obtain⟨Am,cm,hvm,-,-⟩:=hm.form7;obtain⟨L,hL⟩:∃L:Nat,L=models.length:=⟨_,rfl⟩;rw[<-hL] at hvm;subst hvm
 have hL12:L=1\/L=2:=by rcases wmod with h | h <;> (rw[hL,h];simp)
 have hmi:∀x∈models,0<=x/\x<=1:=by rcases wmod with h | h <;> (rw[h];intro x hx;simp at hx;omega)
 have hmd:∀i (h:i<models.length),models[i]=(i:Int):=by
  rcases wmod with h | h
  ·subst h;intro i hi;match i,hi with
   | 0,_=>rfl
   | 1,_=>rfl
  ·subst h;intro i hi;match i,hi with
   | 0,_=>rfl
 obtain⟨W0,hW0⟩:=zx (w.alloc (.cells #[.string name,.int .i64 k,.int .i64 m,.int .i64 q,.int .i64 0,.int .i64 0,.int .i64 0,.int .i64 s3,.int .i64 s4,.slice Am L cm,.slice Ar M cr,.bool false,.slice A1 N1 d1,.slice A2 N2 d2,.bool false,.slice A3 N3 d3,.slice A4 N4 d4] 55));obtain⟨p,hp⟩:=zx w.heap.size
 have hb0:Below w.heap.size w W0:=by rw[hW0];exact(zB _ _).alloc (zR _) _
 have hpk:W0.heap[p]?=some (.cells #[.string name,.int .i64 k,.int .i64 m,.int .i64 q,.int .i64 0,.int .i64 0,.int .i64 0,.int .i64 s3,.int .i64 s4,.slice Am L cm,.slice Ar M cr,.bool false,.slice A1 N1 d1,.slice A2 N2 d2,.bool false,.slice A3 N3 d3,.slice A4 N4 d4] 55 (0,0)):=by rw[hW0,hp];exact zN _ _
 have hpl:p<W0.heap.size:=(zA.1 hpk).1;have HC:=zh (fun(w':World) (hb:Below W0.heap.size W0 w')=>pol_cells ((hb.block p hpl).trans hpk));have HNU:=zh (fnumbers_any k m q s3 s4 W0 wk ⟨wm1,wm2⟩ ⟨wq1,wq2⟩ ⟨w31,w32⟩ ⟨w41,w42⟩);have HRA:=zh (fun(w':World) (hb:Below W0.heap.size W0 w')=>frates_any m _ _ _ _ _ w' ⟨wm1,wm2⟩ (SlS.below frcK (SlS.below frcK hr hb0) hb) ((htn.below hb0).below hb) ((htd.below hb0).below hb) ((hhn.below hb0).below hb) ((hhd.below hb0).below hb));have HIN:=zh (fun(w':World) (hb:Below W0.heap.size W0 w')=>((hm.keep (kept_below hb0)).mono (Bl.mono hb0.size)).keep (kept_below hb));have HMD:=zh hmd;have HLL:=zh hL;have HW0:=zh hW0;have HP:=zh hp;have HB0:=zh hb0;obtain⟨⟨c1,c2,c3,c4,c5,c6,c7,c8⟩,-⟩:=HC.out W0 (zB _ _);have hmk:=mk_bool2
 have L1:(1:Int)<=(L:Int):=by omega
 have L2:(L:Int)<=2:=by omega
 have hL0:((L:Int)==0)=false:=by simp;omega
 clear hm hr htn htd hhn hhd hW0 hp hb0 hpk hpl hM hL hL12 hmi hmd wmod wk wm1 wm2 wq1 wq2 w31 w32 w41 w42;go_enter Tryz.func45,Tryz.ntmps45;go_wp2_with fail;rw[<-HW0.out,<-HP.out];refine HNU.out.mono ?_;rintro e w1 ⟨rfl,hb1⟩;have HB1:=zh hb1;clear c1 c2 c3 c4 c5 c6 c7 c8;obtain⟨⟨-,c2,-⟩,c9,c10,c11,c12,c13,c14,c15,c16⟩:=HC.out w1 hb1;have HR1:=zh (HRA.out w1 hb1);clear hb1;go_wp2_with fail;refine HR1.out.mono ?_;rintro e w2 ⟨rfl,hb2⟩;have hb02:=HB1.out.trans (hb2.mono HB1.out.size);obtain⟨W2,hW2⟩:=zx (w2.alloc (.cells #[.bool false,.bool false] 4));obtain⟨g,hg⟩:=zx w2.heap.size
 have hb3:Below w2.heap.size w2 W2:=by rw[hW2];exact(zB _ _).alloc (zR _) _
 have hgk:W2.heap[g]?=some (.cells #[.bool false,.bool false] 4 (0,0)):=by rw[hW2,hg];exact zN _ _
 have hb03:=hb02.trans (hb3.mono hb02.size);have HG:=zh (show W0.heap.size<=g from by rw[hg];exact hb02.size);have HGK:=zh hgk;have HB3:=zh hb03;have HW2:=zh hW2;have HGE:=zh hg;clear c2 c9 c10 c11 c12 c13 c14 c15 c16 hb2 hb02 hb3 hb03 hW2 hg hgk;go_upto_region 4 with fail;rw[<-HW2.out,<-HGE.out];clear hmk;obtain⟨-,c9,-⟩:=HC.out W2 HB3.out;go_wp2_with fail;clear c9;go_loopg [41] L (fun z v41 wr=>∃j:Nat,j<=L/\z=L-j/\v41=.int .i64 (j:Int)/\Hid (Below W0.heap.size W0 wr)/\Hid (wr.heap[g]?=some (.cells #[.bool (decide (0<j)),.bool (decide (1<j))] 4 (0,0))))
 case atStart=>exact⟨0,by omega,rfl,rfl,HB3.out,HGK.out⟩
 case round =>
  obtain⟨j,hj,rfl,rfl,HB,HK⟩:=hrel;by_cases hlt:j<L
  ·obtain⟨b,off,rfl,hR,hc,-⟩:=(HIN.out wr HB.out).at7 (k:=j) (by rw[<-HLL.out];exact hlt);rw[HMD.out j (by rw[<-HLL.out];exact hlt)] at hc;have HF:=zh (fin_any (j:Int) 0 1 wr);rw[decide_eq_true (show(0:Int)<=(j:Int)/\(j:Int)<=1 by omega)] at HF;obtain⟨g0,g1,f0,f1⟩:=bool2_cell HK.out;rcases Nat.eq_zero_or_pos j with h0 | h0
   ·subst h0;have hc0:wr.cell? ⟨b,off,none⟩=some (.int .i64 0):=hc;have HF0:=zh (show Calls Tryz.prog 42 #[.int .i64 0,.int .i64 0,.int .i64 1] wr fun e w'=>e=.returned (.bool true)/\wr=w' from HF.out);clear hc HF;go_wp2_with fail;refine HF0.out.mono ?_;rintro e w4 ⟨rfl,rfl⟩;go_wp2_with fail;go_roundg (L-(0+1))
    case measure=>omega
    case rel=>exact⟨0+1,by omega,rfl,by go_num,HB.out.setCell HG.out _,heap_setCell_same wr g 0 _ _ _ HK.out⟩
   ·obtain rfl:j=1:=by omega
    have hc0:wr.cell? ⟨b,off+1,none⟩=some (.int .i64 1):=hc;have HF0:=zh (show Calls Tryz.prog 42 #[.int .i64 1,.int .i64 0,.int .i64 1] wr fun e w'=>e=.returned (.bool true)/\wr=w' from HF.out);clear hc HF;go_wp2_with fail;refine HF0.out.mono ?_;rintro e w4 ⟨rfl,rfl⟩;go_wp2_with fail;go_roundg (L-(1+1))
    case measure=>omega
    case rel=>exact⟨1+1,by omega,rfl,by go_num,HB.out.setCell HG.out _,heap_setCell_same wr g 1 _ _ _ HK.out⟩
  ·go_wp2_with fail;go_ret;exact⟨rfl,HB0.out.trans (HB.out.mono HB0.out.size)⟩
theorem cells7{W:World}{g:Nat}{a b c d e f h:Value}{t:TypeId}(k:W.heap[g]?=some (.cells #[a,b,c,d,e,f,h] t (0,0))):W.cell? ⟨g,0,none⟩=some a/\W.cell? ⟨g,1,none⟩=some b/\W.cell? ⟨g,2,none⟩=some c/\W.cell? ⟨g,3,none⟩=some d/\W.cell? ⟨g,4,none⟩=some e/\W.cell? ⟨g,5,none⟩=some f/\W.cell? ⟨g,6,none⟩=some h:=by
 refine⟨?_,?_,?_,?_,?_,?_,?_⟩ <;> (rw[cell_of_row _ _ _ _ _ _ k];rfl)
theorem seven_at{cs:List Value}{a b c d e f g:Value}{w:World}{p o:Nat}(h:∀i c,cs[i]?=some c->w.cell? ⟨p,o+i,none⟩=some c)(k:cs=[a,b,c,d,e,f,g]) :
  w.cell? ⟨p,o,none⟩=some a/\w.cell? ⟨p,o+1,none⟩=some b/\w.cell? ⟨p,o+2,none⟩=some c/\w.cell? ⟨p,o+3,none⟩=some d/\w.cell? ⟨p,o+4,none⟩=some e/\w.cell? ⟨p,o+5,none⟩=some f/\w.cell? ⟨p,o+6,none⟩=some g:=by
 subst k;exact⟨h 0 _ rfl,h 1 _ rfl,h 2 _ rfl,h 3 _ rfl,h 4 _ rfl,h 5 _ rfl,h 6 _ rfl⟩
def HeldD(W2:World)(q g b off p n c:Nat)(lev up:Int)(v5 v6:Value)(w':World):Prop :=
 w'.cell? ⟨q,3,none⟩=some (.slice (some ⟨b,off,none⟩) n c)/\w'.cell? ⟨g,1,none⟩=some (.int .i64 lev)/\w'.cell? ⟨g,2,none⟩=some (.int .i64 (p:Int))/\w'.cell? ⟨g,3,none⟩=some (.int .i64 up)/\w'.cell? ⟨g,4,none⟩=some (.bool false)/\w'.cell? ⟨g,5,none⟩=some v5/\w'.cell? ⟨g,6,none⟩=some v6/\w'.cell? ⟨b,off+p*7+1,none⟩=some (.int .i64 (lev-1))/\Below W2.heap.size W2 w'
theorem HeldD.bl{W2 wc:World}{q g b off p n c:Nat}{lev up:Int}{v5 v6:Value}(h:HeldD W2 q g b off p n c lev up v5 v6 wc):Below W2.heap.size W2 wc:=h.2.2.2.2.2.2.2.2
theorem HeldD.below{W2 wc w':World}{q g b off p n c:Nat}{lev up:Int}{v5 v6:Value}(h:HeldD W2 q g b off p n c lev up v5 v6 wc)(hb:Below wc.heap.size wc w')(hq:q<W2.heap.size)(hg:g<W2.heap.size)(hbb:b<W2.heap.size):HeldD W2 q g b off p n c lev up v5 v6 w':=by
 obtain⟨h1,h2,h3,h4,h5,h6,h7,h8,hB⟩:=h;have hs:=hB.size
 have m:∀x i,x<W2.heap.size->w'.cell? ⟨x,i,none⟩=wc.cell? ⟨x,i,none⟩:=fun x i hx=>hb.cell (p:=⟨x,i,none⟩) (zM hx hs)
 exact⟨(m _ _ hq).trans h1,(m _ _ hg).trans h2,(m _ _ hg).trans h3,(m _ _ hg).trans h4,(m _ _ hg).trans h5,(m _ _ hg).trans h6,(m _ _ hg).trans h7,(m _ _ hbb).trans h8,hB.trans (hb.mono hs)⟩
theorem fdomains_any(ext:Int)(vl vm vv vp vo:Value)(vd:Value)(ds:List DomM)(w:World)(hd:SlS 7 DomK w (Bl w.heap.size) vd ds)(hok:DomOk ds)(h1:1<=ds.length)(h21:ds.length<=21)(fl:∃A n c,vl=.slice A n c)(fm:∃A n c,vm=.slice A n c)(fv:∃A n c,vv=.slice A n c)(fp:∃A n c,vp=.slice A n c)(fo:∃A n c,vo=.slice A n c) :
  Calls Tryz.prog 43 #[.agg #[.int .i64 ext,vl,vm,vd,vv,vp,vo]] w fun e w'=>e=.returned (.bool true)/\Below w.heap.size w w':=by
 obtain⟨Al,nl,cl,rfl⟩:=fl;obtain⟨Am,nm,cm,rfl⟩:=fm;obtain⟨Av,nv,cv,rfl⟩:=fv;obtain⟨Ap,np,cp,rfl⟩:=fp;obtain⟨Ao,no,co,rfl⟩:=fo;obtain⟨A,c,hvd,hlc,-⟩:=hd.form;subst hvd;obtain⟨b,off,cs0,rfl,hRb,-,hc0,hk0⟩:=hd.at_ (k:=0) h1
 have hroot:ds[0]=rootM:=by have:=hok.root;rw[zG h1] at this;injection this
 rw[hroot] at hk0;obtain⟨rn,rd,hcs0,hrn,hrd⟩:=hk0;obtain⟨n,hn⟩:=zx ds.length;rw[<-hn] at hd hlc h1 h21 ⊢;obtain⟨W0,hW0⟩:=zx (w.alloc (.cells #[.int .i64 ext,.slice Al nl cl,.slice Am nm cm,.slice (some ⟨b,off,none⟩) n c,.slice Av nv cv,.slice Ap np cp,.slice Ao no co] 35));obtain⟨q,hq⟩:=zx w.heap.size
 have hb0:Below w.heap.size w W0:=by rw[hW0];exact(zB _ _).alloc (zR _) _
 have hqk:W0.heap[q]?=some (.cells #[.int .i64 ext,.slice Al nl cl,.slice Am nm cm,.slice (some ⟨b,off,none⟩) n c,.slice Av nv cv,.slice Ap np cp,.slice Ao no co] 35 (0,0)):=by rw[hW0,hq];exact zN _ _
 have hql:q<W0.heap.size:=(zA.1 hqk).1;have HQ3:=zh (fun(w':World) (hb:Below W0.heap.size W0 w')=>(show w'.cell? ⟨q,3,none⟩=_ from(hb.cell (p:=⟨q,3,none⟩) hql).trans (cells7 hqk).2.2.2.1));have HDS:=zh (fun(w':World) (hb:Below W0.heap.size W0 w')=>SlS.keep domK hd (kept_below (hb0.trans (hb.mono hb0.size))));obtain⟨k0,k1,k2,k3,k4,k5,k6⟩:=seven_at (w:=w) (p:=b) (o:=off) (fun i x hx=>by have:=hc0 i x hx;simpa using this) hcs0;obtain⟨A1,N1,d1,rfl⟩:=hrn.frm;obtain⟨A2,N2,d2,rfl⟩:=hrd.frm
 have mv:∀i x,w.cell? ⟨b,i,none⟩=some x->W0.cell? ⟨b,i,none⟩=some x:=fun i x hx=>(hb0.cell (p:=⟨b,i,none⟩) hRb).trans hx
 have k0:=mv _ _ k0;have k1:=mv _ _ k1;have k2:=mv _ _ k2;have k3:=mv _ _ k3;have k4:=mv _ _ k4;have k5:=mv _ _ k5;have k6:=mv _ _ k6;have HRN:=zh (hrn.below hb0);have HRD:=zh (hrd.below hb0);have HRB:=zh (show b<W0.heap.size from zM hRb hb0.size);have HOK:=zh hok;have HN:=zh hn;have HW0:=zh hW0;have HQ:=zh hq;have HB0:=zh hb0;have HQL:=zh hql;obtain⟨W1,hW1⟩:=zx (W0.alloc (.cells #[.string rootM.name,.int .i64 rootM.level,.int .i64 rootM.parent,.int .i64 rootM.uplink,.bool rootM.shock.neg,.slice A1 N1 d1,.slice A2 N2 d2] 100));obtain⟨g0,hg0⟩:=zx W0.heap.size
 have hb1:Below W0.heap.size W0 W1:=by rw[hW1];exact(zB _ _).alloc (zR _) _
 have hg1:W1.heap[g0]?=some (.cells #[.string ⟨#[]⟩,.int .i64 0,.int .i64 (-1),.int .i64 0,.bool false,.slice A1 N1 d1,.slice A2 N2 d2] 100 (0,0)):=by rw[hW1,hg0];exact zN _ _
 have HG1:=zh (fun(w':World) (hb:Below W1.heap.size W1 w')=>cells7 ((hb.block g0 (zA.1 hg1).1).trans hg1));have HB1:=zh hb1;have HW1:=zh hW1;have HG0:=zh hg0;have c3:=HQ3.out W0 (zB _ _)
 have i0:(0:Int)<(n:Int):=by omega
 have i1:(1:Int)<=(n:Int):=by omega
 have i2:(n:Int)<=(c:Int):=by omega
 have i3:(n:Int)<=21:=by omega
 have i4:((n:Int)==0)=false:=by simp;omega
 clear hd hok hW0 hq hb0 hqk hql hrn hrd hc0 hcs0 hroot hRb mv hW1 hg0 hb1 hg1 hn;go_enter Tryz.func43,Tryz.ntmps43;go_upto_region 1 with fail;rw[<-HW0.out,<-HQ.out];go_upto_region 4 with fail;rw[<-HW1.out,<-HG0.out];clear k0 k1 k2 k3 k4 k5 k6 c3;have HRN1:=zh (HRN.out.below HB1.out);have HRD1:=zh (HRD.out.below HB1.out);obtain⟨l0,l1,l2,l3,l4,l5,l6⟩:=HG1.out W1 (zB _ _);go_wp2_with fail;refine(flimits_any _ _ 0 1 W1 HRN1.out HRD1.out (by omega) (by decide)).mono ?_;rintro e w2 ⟨rfl,hb2⟩;clear l0 l1 l2 l3 l4 l5 l6;obtain⟨l0,l1,l2,l3,l4,l5,l6⟩:=HG1.out w2 hb2;have HA:=zh (fabove_any false _ _ 0 1 w2 (HRN1.out.below hb2) (HRD1.out.below hb2));rw[decide_eq_false (show ¬0<0 by omega)] at HA;have HB2:=zh (HB1.out.trans (hb2.mono HB1.out.size));clear hb2;go_wp2_with fail;refine HA.out.mono ?_;rintro e w3 ⟨rfl,hb3⟩;have hb03:=HB2.out.trans (hb3.mono HB2.out.size);have c3:=HQ3.out w3 hb03;have HB3:=zh hb03;clear hb3 hb03 l0 l1 l2 l3 l4 l5 l6;by_cases hc1:c=1
 ·have hn1:n=1:=by omega
  subst hc1;subst hn1;clear i0 i1 i2 i3 i4 h1 h21 hlc;go_wp2_with fail;clear c3;go_loopg [47] 0 (fun z v47 wr=>w3=wr/\v47=.int .i64 0)
  case atStart=>exact⟨rfl,rfl⟩
  case round =>
   obtain⟨rfl,rfl⟩:=hrel;go_wp2_with fail;go_ret;exact⟨rfl,HB0.out.trans (HB3.out.mono HB0.out.size)⟩
 ·obtain⟨M,hM⟩:∃M,n=M+1:=⟨n-1,by omega⟩;obtain⟨cc,hcc⟩:∃M,c=M+1:=⟨c-1,by omega⟩;subst hM;subst hcc
  have hcz:cc≠0:=by omega
  have hMI:(M:Int)<=20:=by omega
  have j0:(0:Int)<(M:Int)+1:=by omega
  have j1:(1:Int)<=(M:Int)+1:=by omega
  have j2:(M:Int)+1<=(cc:Int)+1:=by omega
  clear hc1 h1 h21 hlc i0 i1 i2 i3;go_wp2_with fail;clear c3;go_loopg [47] M (fun z v47 wr=>∃i:Nat,i<=M/\z=M-i/\v47=.int .i64 (i:Int)/\Hid (Below W0.heap.size W0 wr))
  case atStart=>exact⟨0,by omega,rfl,rfl,HB3.out⟩
  case round =>
   obtain⟨i,hi,rfl,rfl,HB⟩:=hrel;by_cases hlt:i<M
   ·have hil:i+1<ds.length:=by have:=HN.out;omega
    obtain⟨b',off',cs,hAe,hRb,-,hc,vn,vd,hcs,hvn,hvd⟩:=(HDS.out wr HB.out).at_ hil;injection hAe with hAe;injection hAe with hA1 hA2;subst hA1;subst hA2;obtain⟨hname,hl1,hl4,⟨p,hpar,hpi,dp,hdp,hdl⟩,hu1,hu64,hsh⟩:=HOK.out.rest (i+1) ds[i+1] (zG hil) (by omega);have hpl:p<ds.length:=(zL.1 hdp).1;obtain⟨b2,off2,cs2,hAe2,-,-,hcp,vn2,vd2,hcs2,-,-⟩:=(HDS.out wr HB.out).at_ hpl;injection hAe2 with hAe2;injection hAe2 with hA1 hA2;subst hA1;subst hA2;obtain⟨-,q1,-⟩:=seven_at hcp hcs2;rw[show ds[p]=dp from(zL.1 hdp).2,hdl] at q1;obtain⟨k0,k1,k2,k3,k4,k5,k6⟩:=seven_at (w:=wr) (p:=b) (o:=off+7+i*7) (fun t x hx=>by have:=hc t x hx;rw[show off+(i+1)*7+t=off+7+i*7+t by omega] at this;exact this) hcs;rw[hpar] at k2;rw[hsh] at k4 hvn hvd;obtain⟨A1,N1,d1,rfl⟩:=hvn.frm;obtain⟨A2,N2,d2,rfl⟩:=hvd.frm;obtain⟨nm',hnm⟩:=zx (ds[i+1].name);obtain⟨lev,hlev⟩:=zx (ds[i+1].level);obtain⟨up,hup⟩:=zx (ds[i+1].uplink);rw[<-hnm] at k0;rw[<-hlev] at k1 hl1 hl4 q1;rw[<-hup] at k3 hu1 hu64;obtain⟨W2,hW2⟩:=zx (wr.alloc (.cells #[.string nm',.int .i64 lev,.int .i64 (p:Int),.int .i64 up,.bool false,.slice A1 N1 d1,.slice A2 N2 d2] 100));obtain⟨g,hg⟩:=zx wr.heap.size
    have hb4:Below wr.heap.size wr W2:=by rw[hW2];exact(zB _ _).alloc (zR _) _
    have hgk:W2.heap[g]?=some (.cells #[.string nm',.int .i64 lev,.int .i64 (p:Int),.int .i64 up,.bool false,.slice A1 N1 d1,.slice A2 N2 d2] 100 (0,0)):=by rw[hW2,hg];exact zN _ _
    have hb04:=HB.out.trans (hb4.mono HB.out.size);obtain⟨-,m1,m2,m3,m4,m5,m6⟩:=cells7 hgk;have hRb0:=zM HRB.out HB.out.size;have q1':=(hb4.cell (p:=⟨b,off+p*7+1,none⟩) hRb0).trans q1;have HS0:=zh (show HeldD W2 q g b off p (M+1) (cc+1) lev up (.slice A1 N1 d1) (.slice A2 N2 d2) W2.drew from⟨HQ3.out W2 hb04,m1,m2,m3,m4,m5,m6,q1',(zB _ _).drew⟩);have HQG:=zh (show q<W2.heap.size/\g<W2.heap.size/\b<W2.heap.size from⟨zM HQL.out hb04.size,(zA.1 hgk).1,zM HRB.out hb04.size⟩);have HI1:=zh (fun w=>fin_any (p:Int) 0 (i:Int) w);rw[decide_eq_true (show(0:Int)<=(p:Int)/\(p:Int)<=(i:Int) by omega)] at HI1;have HI2:=zh (fun w=>fin_any lev 1 4 w);rw[decide_eq_true (show 1<=lev/\lev<=4 by omega)] at HI2;have HI3:=zh (fun w=>fin_any up 1 64 w);rw[decide_eq_true (show 1<=up/\up<=64 by omega)] at HI3;have HV1:=(hvn.mono (Bl.mono (Nat.le_trans HB0.out.size HB.out.size))).below hb4;have HV2:=(hvd.mono (Bl.mono (Nat.le_trans HB0.out.size HB.out.size))).below hb4;have HLI:=zh (fun w (h:Below W2.heap.size W2 w)=>flimits_any (.slice A1 N1 d1) (.slice A2 N2 d2) 0 1 w (HV1.below h) (HV2.below h) (by omega) (by decide));have HBW2:=zh hb04;have HW2:=zh hW2;have HG:=zh hg;have HIM:=zh (show i+1<=M from hlt)
    have t0:(0:Int)<=(p:Int):=by omega
    have t1:(p:Int)<(M:Int)+1:=by omega
    have t2:1<=lev:=hl1;have t3:lev<=4:=hl4;have t4:IntKind.i64.wrap (lev-1)=lev-1:=zI _ (by omega)
    have t5:(lev-1 != lev-1)=false:=by simp
    clear hc hcs hvn hvd hname hl1 hl4 hpar hpi hdp hdl hu1 hu64 hsh hpl hcp hcs2 q1 hnm hlev hup hb4 hgk hb04 m1 m2 m3 m4 m5 m6 hRb0 q1' HV1 HV2 hW2 hg hRb hil;go_upto_region 9 with fail;rw[<-HW2.out,<-HG.out];clear k0 k1 k2 k3 k4 k5 k6;refine region_tail (S:=(fun w'=>w'.cell? ⟨q,3,none⟩=some (.slice (some ⟨b,off,none⟩) (M+1) (cc+1))/\w'.cell? ⟨g,1,none⟩=some (.int .i64 lev)/\w'.cell? ⟨g,2,none⟩=some (.int .i64 (p:Int))/\w'.cell? ⟨g,3,none⟩=some (.int .i64 up)/\w'.cell? ⟨g,4,none⟩=some (.bool false)/\w'.cell? ⟨g,5,none⟩=some (.slice A1 N1 d1)/\w'.cell? ⟨g,6,none⟩=some (.slice A2 N2 d2)/\w'.cell? ⟨b,off+p*7+1,none⟩=some (.int .i64 (lev-1))/\Below W2.heap.size W2 w')) [] (by kernel_rfl) HS0.out (fun hHeld=>?_);refine tk 0 52 ?_;refine tk 1 53 ?_;refine tk 2 54 ?_;refine readyT (rs:=[3]) (by kernel_rfl) (by simp) ?_;refine zC rfl (fun K hK=>?_) ?_
    ·go_simp;(go_at_call 42;refine(HI1.out _).mono ?_;rintro e w5 ⟨rfl,rfl⟩);go_wp2_with fail;refine hK.out _ _ ?_ (fun hHeld=>?_)
     ·(first|assumption|exact HeldD.below (by assumption) hb6 HQG.out.1 HQG.out.2.1 HQG.out.2.2)
     clear hK K;(try simp only[Act.put,z1,z2,z3]);refine tk 4 56 ?_;refine tk 5 57 ?_;refine tk 6 58 ?_;refine tk 7 59 ?_;refine tk 8 60 ?_;refine tk 9 61 ?_;refine tk 10 62 ?_;refine tk 11 63 ?_;refine tk 12 64 ?_;refine tk 13 65 ?_;refine tk 14 66 ?_;refine tk 15 67 ?_;refine tk 16 68 ?_;refine readyT (rs:=[17]) (by kernel_rfl) (by simp) ?_;refine zC rfl (fun K hK=>?_) ?_
     ·go_simp;refine hK.out _ _ ?_ (fun hHeld=>?_)
      ·(first|assumption|exact HeldD.below (by assumption) hb6 HQG.out.1 HQG.out.2.1 HQG.out.2.2)
      clear hK K;(try simp only[Act.put,z1,z2,z3]);refine tk 18 70 ?_;refine tk 19 71 ?_;refine tk 20 72 ?_;refine readyT (rs:=[21]) (by kernel_rfl) (by simp) ?_;refine zC rfl (fun K hK=>?_) ?_
      ·go_simp;(go_at_call 42;refine(HI2.out _).mono ?_;rintro e w5 ⟨rfl,rfl⟩);go_wp2_with fail;refine hK.out _ _ ?_ (fun hHeld=>?_)
       ·(first|assumption|exact HeldD.below (by assumption) hb6 HQG.out.1 HQG.out.2.1 HQG.out.2.2)
       clear hK K;(try simp only[Act.put,z1,z2,z3]);refine tk 22 74 ?_;refine readyT (rs:=[23]) (by kernel_rfl) (by simp) ?_;refine zC rfl (fun K hK=>?_) ?_
       ·go_simp;refine hK.out _ _ ?_ (fun hHeld=>?_)
        ·(first|assumption|exact HeldD.below (by assumption) hb6 HQG.out.1 HQG.out.2.1 HQG.out.2.2)
        clear hK K;(try simp only[Act.put,z1,z2,z3]);refine tk 24 76 ?_;refine tk 25 77 ?_;refine tk 26 78 ?_;refine readyT (rs:=[27]) (by kernel_rfl) (by simp) ?_;refine zC rfl (fun K hK=>?_) ?_
        ·go_simp;(go_at_call 42;refine(HI3.out _).mono ?_;rintro e w5 ⟨rfl,rfl⟩);go_wp2_with fail;refine hK.out _ _ ?_ (fun hHeld=>?_)
         ·(first|assumption|exact HeldD.below (by assumption) hb6 HQG.out.1 HQG.out.2.1 HQG.out.2.2)
         clear hK K;(try simp only[Act.put,z1,z2,z3]);refine tk 28 80 ?_;refine readyT (rs:=[29]) (by kernel_rfl) (by simp) ?_;refine zC rfl (fun K hK=>?_) ?_
         ·go_simp;refine hK.out _ _ ?_ (fun hHeld=>?_)
          ·(first|assumption|exact HeldD.below (by assumption) hb6 HQG.out.1 HQG.out.2.1 HQG.out.2.2)
          clear hK K;(try simp only[Act.put,z1,z2,z3]);refine tk 30 82 ?_;refine tk 31 83 ?_;refine tk 32 84 ?_;refine readyT (rs:=[33]) (by kernel_rfl) (by simp) ?_;refine zC rfl (fun K hK=>?_) ?_
          ·go_simp;(go_at_call 89;refine(HLI.out _ (HeldD.bl (by assumption))).mono ?_;rintro e w6 ⟨rfl,hb6⟩);go_wp2_with fail;refine hK.out _ _ ?_ (fun hHeld=>?_)
           ·(first|assumption|exact HeldD.below (by assumption) hb6 HQG.out.1 HQG.out.2.1 HQG.out.2.2)
           clear hK K;(try simp only[Act.put,z1,z2,z3]);refine tk 34 86 ?_;refine readyT (rs:=[35]) (by kernel_rfl) (by simp) ?_;refine zC rfl (fun K hK=>?_) ?_
           ·go_simp;refine hK.out _ _ ?_ (fun hHeld=>?_)
            ·(first|assumption|exact HeldD.below (by assumption) hb6 HQG.out.1 HQG.out.2.1 HQG.out.2.2)
            clear hK K;(try simp only[Act.put,z1,z2,z3]);refine doneT (by kernel_rfl) ?_ _;have HBZ:=zh (HeldD.bl hHeld);clear hHeld hb6;go_wp2_with fail;go_roundg (M-(i+1))
            case measure=>have:=HIM.out;omega
            case rel=>exact⟨i+1,HIM.out,rfl,by go_num,HBW2.out.trans (HBZ.out.mono HBW2.out.size)⟩
           exact zE
          exact zE
         exact zE
        exact zE
       exact zE
      exact zE
     exact zE
    exact zE
   ·go_wp2_with fail;go_ret;exact⟨rfl,HB0.out.trans (HB.out.mono HB0.out.size)⟩
theorem nameL_inj{c c':UInt8}{i j:Nat}(hi:i<676)(hj:j<676)(h:(⟨(nameL c i).toArray⟩:ByteArray)=⟨(nameL c' j).toArray⟩):c=c'/\i=j:=by
 have h1:nameL c i=nameL c' j:=by
  have:=congrArg (fun b:ByteArray=>b.data.toList) h
  simpa using this
 unfold nameL at h1;simp only[List.cons.injEq,and_true] at h1;obtain⟨h2,h3,h4⟩:=h1;have h3:=congrArg UInt8.toNat h3;have h4:=congrArg UInt8.toNat h4;rw[UInt8.toNat_ofNat',UInt8.toNat_ofNat'] at h3 h4;exact⟨h2,by omega⟩
theorem nameL_low{c:UInt8}(i:Nat)(h1:97<=c.toNat)(h2:c.toNat<=122):LowN ⟨(nameL c i).toArray⟩:=by
 refine⟨by show 1<=(nameL c i).toArray.size;simp[nameL],by show(nameL c i).toArray.size<=16;simp[nameL],fun x hx=>?_⟩
 have hx:x∈nameL c i:=by simpa using hx
 unfold nameL at hx;simp at hx;rcases hx with rfl | rfl | rfl
 ·exact⟨h1,h2⟩
 ·rw[UInt8.toNat_add,UInt8.toNat_ofNat'];have:((97:UInt8).toNat)=97:=rfl;rw[this];omega
 ·rw[UInt8.toNat_add,UInt8.toNat_ofNat'];have:((97:UInt8).toNat)=97:=rfl;rw[this];omega
theorem nodup_names(L:List ByteArray)(c:Nat->UInt8)(n:Nat->Nat)(h:∀t (ht:t<L.length),L[t]=⟨(nameL (c t) (n t)).toArray⟩/\n t<676)(hinj:∀s t,s<t->t<L.length->c s≠c t\/n s≠n t):L.Nodup:=by
 refine List.pairwise_iff_getElem.2 fun s t hs ht hst e=>?_
 obtain⟨h1,h2⟩:=h s hs;obtain⟨h3,h4⟩:=h t ht;rw[h1,h3] at e;obtain⟨e1,e2⟩:=nameL_inj h2 h4 e;rcases hinj s t hst ht with h5 | h5
 ·exact h5 e1
 ·exact h5 e2
def nodeN(F:FltM):List ByteArray:=(F.doms.drop 1).map (·.name)++F.dves.map (·.name)
theorem nodeN_at{N:Nat}{F:FltM}(hok:FleetOk N F)(t:Nat)(ht:t<(nodeN F).length):(nodeN F)[t]=⟨(nameL (if t<F.doms.length-1 then 110 else 100) (if t<F.doms.length-1 then t+1 else t-(F.doms.length-1))).toArray⟩/\(if t<F.doms.length-1 then t+1 else t-(F.doms.length-1))<676:=by
 have hd:=hok.domN;have hv:=hok.dveN
 have hl:((F.doms.drop 1).map (·.name)).length=F.doms.length-1:=by simp
 have htl:t<(F.doms.length-1)+F.dves.length:=by
  unfold nodeN at ht;rw[zP,hl,List.length_map] at ht;exact ht
 by_cases h:t<F.doms.length-1
 ·rw[if_pos h,if_pos h];refine⟨?_,by omega⟩
  have h1:(nodeN F)[t]=(F.doms[t+1]'(by omega)).name:=by
   have h2:(nodeN F)[t]?=some (F.doms[t+1]'(by omega)).name:=by
    unfold nodeN;rw[List.getElem?_append_left (by rw[hl];exact h),List.getElem?_map,List.getElem?_drop,Nat.add_comm 1 t,zG (by omega)]
    rfl
   exact(zL.1 h2).2
  rw[h1];exact(hok.doms.rest (t+1) F.doms[t+1] (zG (by omega)) (by omega)).1
 ·rw[if_neg h,if_neg h];refine⟨?_,by omega⟩
  have h1:(nodeN F)[t]=(F.dves[t-(F.doms.length-1)]'(by omega)).name:=by
   have h2:(nodeN F)[t]?=some (F.dves[t-(F.doms.length-1)]'(by omega)).name:=by
    unfold nodeN;rw[List.getElem?_append_right (by rw[hl];omega),hl,List.getElem?_map,zG (by omega)]
    rfl
   exact(zL.1 h2).2
  rw[h1];exact(hok.dves (t-(F.doms.length-1)) _ (zG (by omega))).1
theorem nodeN_low{N:Nat}{F:FltM}(hok:FleetOk N F):∀s∈nodeN F,LowN s:=fun s hs=>by
 obtain⟨t,ht,rfl⟩:=List.getElem_of_mem hs;rw[(nodeN_at hok t ht).1];exact nameL_low _ (by split <;> decide) (by split <;> decide)
theorem nodeN_nodup{N:Nat}{F:FltM}(hok:FleetOk N F):(nodeN F).Nodup:=nodup_names _ _ _ (nodeN_at hok) fun s t hst ht=>by
 have hd:=hok.domN;by_cases h1:s<F.doms.length-1
 ·by_cases h2:t<F.doms.length-1
  ·rw[if_pos h1,if_pos h2,if_pos h1,if_pos h2];right;omega
  ·rw[if_pos h1,if_neg h2];left;decide
 ·rw[if_neg h1,if_neg (by omega),if_neg h1,if_neg (by omega)];right;omega
theorem nodeN_length(F:FltM):(nodeN F).length=(F.doms.length-1)+F.dves.length:=by unfold nodeN;simp
theorem polN_at{N:Nat}{F:FltM}(hok:FleetOk N F)(t:Nat)(ht:t<(F.pols.map (·.name)).length):(F.pols.map (·.name))[t]=⟨(nameL 112 (F.pols.length-t)).toArray⟩/\F.pols.length-t<676:=by
 have h2:=hok.polN;rw[List.length_map] at ht;rw[List.getElem_map];exact⟨(hok.pols t _ (zG ht)).2.1,by omega⟩
theorem polN_low{N:Nat}{F:FltM}(hok:FleetOk N F):∀s∈F.pols.map (·.name),LowN s:=fun s hs=>by
 obtain⟨t,ht,rfl⟩:=List.getElem_of_mem hs;rw[(polN_at hok t ht).1];exact nameL_low _ (by decide) (by decide)
theorem polN_nodup{N:Nat}{F:FltM}(hok:FleetOk N F):(F.pols.map (·.name)).Nodup:=nodup_names _ (fun _=>112) (fun t=>F.pols.length-t) (polN_at hok) fun s t hst ht=>by
 rw[List.length_map] at ht
 right;omega
theorem volN_at{N:Nat}{F:FltM}(hN:N<=12)(hok:FleetOk N F)(t:Nat)(ht:t<(F.vols.map (·.name)).length):(F.vols.map (·.name))[t]=⟨(nameL 118 (F.vols.length-t)).toArray⟩/\F.vols.length-t<676:=by
 have h2:=hok.volN;rw[List.length_map] at ht;rw[List.getElem_map];exact⟨(hok.vols t _ (zG ht)).2.1,by omega⟩
theorem volN_low{N:Nat}{F:FltM}(hN:N<=12)(hok:FleetOk N F):∀s∈F.vols.map (·.name),LowN s:=fun s hs=>by
 obtain⟨t,ht,rfl⟩:=List.getElem_of_mem hs;rw[(volN_at hN hok t ht).1];exact nameL_low _ (by decide) (by decide)
theorem volN_nodup{N:Nat}{F:FltM}(hN:N<=12)(hok:FleetOk N F):(F.vols.map (·.name)).Nodup:=nodup_names _ (fun _=>118) (fun t=>F.vols.length-t) (volN_at hN hok) fun s t hst ht=>by
 rw[List.length_map] at ht
 right;omega
theorem lawN_ok{N:Nat}{F:FltM}(hok:FleetOk N F):(∀s∈F.laws.map (·.name),LowN s)/\(F.laws.map (·.name)).Nodup/\F.laws.length=1:=by
 obtain⟨r,-,h⟩:=hok.laws;rw[h];refine⟨fun s hs=>?_,by simp,rfl⟩;simp at hs;subst hs;refine⟨by decide,by decide,fun x hx=>?_⟩;simp at hx;rcases hx with rfl | rfl | rfl | rfl <;> decide
theorem modN_ok{N:Nat}{F:FltM}(hok:FleetOk N F):(∀s∈F.models.map (·.name),LowN s)/\(F.models.map (·.name)).Nodup/\F.models.length=2:=by
 obtain⟨a,b,c,d,-,-,-,-,h⟩:=hok.models;rw[h];refine⟨fun s hs=>?_,by simp,rfl⟩;simp at hs;rcases hs with rfl | rfl
 ·refine⟨by decide,by decide,fun x hx=>?_⟩;simp at hx;rcases hx with rfl | rfl | rfl <;> decide
 ·refine⟨by decide,by decide,fun x hx=>?_⟩;simp at hx;rcases hx with rfl | rfl | rfl <;> decide
theorem modN_at{N:Nat}{F:FltM}(hok:FleetOk N F):∀x∈F.models,1<=x.ext/\x.ext<=16/\1<=x.port/\x.port<=64/\x.law=0:=by
 obtain⟨a,b,c,d,ha,hb,hc,hd,h⟩:=hok.models;rw[h];intro x hx;simp at hx;rcases hx with rfl | rfl <;> (refine⟨?_,?_,?_,?_,rfl⟩ <;> simp only <;> omega)
def OwnS(w:World)(base:Nat)(v:Value)(l:List ByteArray):Prop:=w.ownsRow base 9 1 v l.length (l.map Value.string)
theorem OwnS.nil(w:World)(base:Nat):OwnS w base (.slice none 0 0) []:=World.ownsRow_nil _ _ _ _
theorem OwnS.lt{w:World}{base:Nat}{v:Value}{l:List ByteArray}(h:OwnS w base v l):∀b,v.ownBlock=some b->base<=b/\b<w.heap.size:=World.ownsRow.lt h
theorem OwnS.below{w w2:World}{base:Nat}{v:Value}{l:List ByteArray}(h:OwnS w base v l)(hb:Below w.heap.size w w2):OwnS w2 base v l:=own_below h hb
theorem OwnS.form{w:World}{base:Nat}{v:Value}{l:List ByteArray}(h:OwnS w base v l):∃A c,v=.slice A l.length c:=own_form h
theorem info_strV:(Tryz.prog.info? 9).map (fun i=>(i.zero,i.size,i.bytes))=some (some (.string ⟨#[]⟩),1,16):=by kernel_rfl
theorem OwnS.slS{w:World}{base:Nat}{v:Value}{l:List ByteArray}(h:OwnS w base v l)(hs:∀s∈l,s.size<=maxLen):SlS 1 StrK w (Bl w.heap.size) v l:=by
 refine OwnK.slS (R:=Bl w.heap.size) strK ⟨l.map Value.string,h,fun j s hj=>⟨[.string s],rfl,fun i u hu=>?_,rfl,hs s (List.mem_of_getElem? hj)⟩⟩ (fun _ h=>h) (fun b hb=>(h.lt b hb).2)
 have hi:i=0:=by have:=(zL.1 hu).1;simp at this;exact this
 subst hi;simp at hu;rw[Nat.mul_one,Nat.add_zero,List.getElem?_map,hj,<-hu];rfl
theorem app_s{ops:Array Oper}{rest:List Oper}{o:Oper}{a:Act}{Q:Exit->Act->World->Prop}{w:World}(x0:ByteArray)(s x:Operand)(hgd:o.guard=none)(ho:o.op=.call { callee:=.builtin .append,args:=#[s,x],argTypes:=#[110,110] })
  (base:Nat) (v:Value) (n:Nat) (xs:List ByteArray) (hl:xs.length=n) (hs:a.eval s=v) (hown:w.ownsRow base 9 1 v n (xs.map Value.string))
  (hx:a.eval x=.slice (some ⟨w.heap.size,0,none⟩) 1 1) (hn:n+1<=16777216) (hbase:base<=w.heap.size)
  (h:∀v' w',OwnS w' base v' (xs++[x0])->w.grownBy w' v.ownBlock->(v'.ownBlock=v.ownBlock\/v'.ownBlock=some (w.heap.size+1))->wpList Tryz.prog ops Q rest (a.put o.dst v') w') :
  wpList Tryz.prog ops Q (o :: rest) a (w.alloc (.cells #[.string x0] 9)):=by
 obtain⟨i0,hi0,hz0,hz1,hz2⟩:=info_parts info_strV;refine wpList_append1 hgd s x _ ho base i0 _ 1 16 Tryz.underlying110 hi0 hz0 hz1 hz2 rfl (by omega) (by omega) v n _ hs hown hx rfl (by simp;rfl) hn hbase (fun v' w' h1=>h v' w' ?_);unfold OwnS;rw[zP,hl,List.map_append];exact h1
end Go.Proofs.YtgfaieppacabjaaGreat
