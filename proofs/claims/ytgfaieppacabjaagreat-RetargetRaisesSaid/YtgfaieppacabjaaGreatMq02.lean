/- Parts. -/
import Derived.Test.YtgfaieppacabjaaGreatMq01
import Derived.Deep.DeepCutAuto
import Derived.Deep.RegionHeld3
import Derived.StillTailTactics
import Derived.Laws.CopyOwn
set_option linter.unusedSectionVars false
set_option maxRecDepth 100000
set_option maxHeartbeats 12800000
set_option linter.unusedVariables false
set_option linter.unusedSimpArgs false
namespace Go.Proofs.YtgfaieppacabjaaGreat
open Go.RowKit
theorem mul_any(a b:UInt8)(w:World) :
  Calls Tryz.prog 172 #[.int .u8 (a.toNat:Int),.int .u8 (b.toNat:Int)] w fun e w'=>e=.returned (.int .u8 ((gmul a b).toNat:Int))/\w=w':=by
 have hb8:=b.toNat_lt;go_enter Tryz.func172,Tryz.ntmps172;go_wp2
 go_loop [0,1,5] (fun v0 v1 v5=>∃i:Nat,v0=.int .u8 ((xtK i a).toNat:Int)/\v1=.int .u8 ((b.toNat / 2 ^ i:Nat):Int)/\v5=.int .u8 ((gm i a b).toNat:Int)) (fun _ v1 _=>(intOf v1).toNat)
 case atStart=>exact⟨0,rfl,by simp,rfl⟩
 case round =>
  obtain⟨i,rfl,rfl,rfl⟩:=hrel;obtain⟨n,hn⟩:=zx (b.toNat / 2 ^ i);rw[<-hn]
  have hn8:n<=255:=by
   have:=Nat.div_le_self b.toNat (2 ^ i);omega
  have ha8:=byte_lt (xtK i a);have hg8:=byte_lt (gm i a b);have HN:=zh hn;clear hn;by_cases h0:n=0
  ·subst h0;go_wp2;go_ret;have h:=gm_high a b i HN.out.symm (8-i)
   have h8:gm i a b=gmul a b:=by
    rcases Nat.lt_or_ge i 8 with h1 | h1
    ·rw[<-h,show i+(8-i)=8 from by omega];rfl
    ·have h2:b.toNat / 2 ^ 8=0:=by omega
     have h3:=gm_high a b 8 h2 (i-8);rw[show 8+(i-8)=i from by omega] at h3;exact h3
   rw[h8];exact⟨rfl,rfl⟩
  ·have h1:(0:Int)<(n:Int):=by omega
   have hd:((n:Int) / 2)=((b.toNat / 2 ^ (i+1):Nat):Int):=by
    rw[Nat.pow_succ,<-Nat.div_div_eq_div_mul,<-HN.out];omega
   have HD:=zh hd;clear hd;go_wp2
   ·have ht:(bits .and .u8 (n:Int) 1==1)=true:=by assumption
    have hb:bitU b i=true:=(bit_of (by omega) HN.out.symm).symm.trans ht;refine⟨⟨i+1,?_,?_,?_⟩,by simp[intOf];omega⟩
    ·rw[xt_int];rfl
    ·rw[HD.out]
    ·rw[xor_int];show _=Value.int .u8 ((gm i a b ^^^ (if bitU b i then xtK i a else 0)).toNat:Int);rw[if_pos hb]
   ·have ht:(bits .and .u8 (n:Int) 1==1)=false:=by assumption
    have hb:bitU b i=false:=(bit_of (by omega) HN.out.symm).symm.trans ht;refine⟨⟨i+1,?_,?_,?_⟩,by simp[intOf];omega⟩
    ·rw[xt_int];rfl
    ·rw[HD.out]
    ·show _=Value.int .u8 ((gm i a b ^^^ (if bitU b i then xtK i a else 0)).toNat:Int)
     rw[hb];simp
theorem ofInt_nat(a:Nat)(ha:a<9223372036854775808):(BitVec.ofInt 64 (a:Int)).toNat=a:=by
 rw[BitVec.ofInt_natCast,BitVec.toNat_ofNat];exact Nat.mod_eq_of_lt (by omega)
theorem i64_and_one(a:Nat)(ha:a<9223372036854775808):bits .and .i64 (a:Int) 1=((a % 2:Nat):Int):=by
 show IntKind.i64.wrap ((BitVec.ofInt 64 (a:Int) &&& BitVec.ofInt 64 ((1:Nat):Int)).toNat:Int)=_
 rw[BitVec.toNat_and,ofInt_nat a ha,ofInt_nat 1 (by omega),IntKind.wrap_i64,Nat.and_one_is_mod];omega
theorem pow_step(a:UInt8)(o:UInt8)(n:Nat)(h:n % 2=1):gmul (gmul o a) (gpow (gmul a a) (n / 2))=gmul o (gpow a n):=by
 rw[gpow_sq,gmul_assoc]
 congr 1
 have e:n=1+2*(n / 2):=by omega
 have h1:gpow a 1=a:=one_gmul a;rw[e,gpow_add,h1,show(1+2*(n / 2)) / 2=n / 2 from by omega]
theorem pow_skip(a:UInt8)(o:UInt8)(n:Nat)(h:n % 2=0):gmul o (gpow (gmul a a) (n / 2))=gmul o (gpow a n):=by
 rw[gpow_sq,show 2*(n / 2)=n from by omega]
theorem power_any(a:UInt8)(n:Nat)(w:World)(hn:n<=65536) :
  Calls Tryz.prog 187 #[.int .u8 (a.toNat:Int),.int .i64 (n:Int)] w fun e w'=>e=.returned (.int .u8 ((gpow a n).toNat:Int))/\w=w':=by
 go_enter Tryz.func187,Tryz.ntmps187;go_wp2
 go_loop [0,1,5] (fun v0 v1 v5=>∃(x o:UInt8) (k:Nat),v0=.int .u8 (x.toNat:Int)/\v1=.int .i64 (k:Int)/\v5=.int .u8 (o.toNat:Int)/\k<=n/\Hid (gmul o (gpow x k)=gpow a n)) (fun _ v1 _=>(intOf v1).toNat)
 case atStart=>exact⟨a,1,n,rfl,rfl,rfl,zR _,one_gmul _⟩
 case round =>
  obtain⟨x,o,k,rfl,rfl,rfl,hk,HI⟩:=hrel;by_cases h0:k=0
  ·subst h0;go_wp2;go_ret;have h:=HI.out;rw[show gpow x 0=1 from rfl,gmul_one] at h;rw[h];exact⟨rfl,rfl⟩
  ·have h1:(0:Int)<(k:Int):=by omega
   go_wp2_with (go_at_call 172;refine(mul_any _ _ _).mono ?_;rintro e w' ⟨rfl,rfl⟩)
   ·have ht:(bits .and .i64 (k:Int) 1==1)=true:=by assumption
    rw[i64_and_one k (by omega)] at ht
    have h2:k % 2=1:=by simp at ht;omega
    exact⟨⟨_,_,k / 2,rfl,by go_num,rfl,by omega,(pow_step x o k h2).trans HI.out⟩,by simp[intOf];omega⟩
   ·have ht:(bits .and .i64 (k:Int) 1==1)=false:=by assumption
    rw[i64_and_one k (by omega)] at ht
    have h2:k % 2=0:=by simp at ht;omega
    exact⟨⟨_,_,k / 2,rfl,by go_num,rfl,by omega,(pow_skip x o k h2).trans HI.out⟩,by simp[intOf];omega⟩
def invE(a:UInt8):Int:=if a=0 then 3 else 0
theorem ginv_zero:ginv 0=0:=by decide +kernel
theorem inv_any(a:UInt8)(w:World) :
  Calls Tryz.prog 171 #[.int .u8 (a.toNat:Int)] w fun e w'=>e=.returned (.tuple #[.int .u8 ((ginv a).toNat:Int),.int .i64 (invE a)])/\w=w':=by
 by_cases h:a=0
 ·subst h;rw[ginv_zero,show invE 0=3 from rfl];have h0:((UInt8.toNat 0:Nat):Int)=0:=rfl;rw[h0];go_enter Tryz.func171,Tryz.ntmps171;go_wp2;go_ret2;exact⟨rfl,rfl⟩
 ·have h0:((a.toNat:Int)==0)=false:=by
   rw[beq_eq_false_iff_ne];intro e;apply h;apply UInt8.toNat_inj.1;rw[show(0:UInt8).toNat=0 from rfl];omega
  have he:invE a=0:=if_neg h;rw[he];have HP:=zh (fun W'=>power_any a 254 W' (by omega));clear h he;go_enter Tryz.func171,Tryz.ntmps171;go_wp2_with fail;refine(HP.out _).mono ?_;rintro e w' ⟨rfl,rfl⟩;go_wp2;go_ret2;exact⟨rfl,rfl⟩
theorem info_u8:(Tryz.prog.info? 5).map (fun i=>(i.zero,i.size,i.bytes))=some (some (.int .u8 0),1,1):=by kernel_rfl
theorem info_row:(Tryz.prog.info? 72).map (fun i=>(i.zero,i.size,i.bytes))=some (some (.slice none 0 0),1,24):=by kernel_rfl
theorem madeCells_one(v:Value)(n:Nat):madeCells #[v] n=Array.replicate n v:=by
 apply Array.ext
 ·simp[madeCells]
 ·intro i h1 h2;simp[madeCells,Nat.mod_one]
theorem mk_u8(n:Nat)(hn:n<=1048576):∀w:World,(Instr.makeSlice 72 (.int .i64 (n:Int)) (.int .i64 (n:Int))).run Tryz.prog w=.ok (.slice (some ⟨w.heap.size,0,none⟩) n n) (w.alloc (.cells (Array.replicate n (.int .u8 0)) 5)):=by
 intro w;obtain⟨i0,hi0,hz0,hz1,hz2⟩:=info_parts info_u8;have h:=run_make (P:=Tryz.prog) w 72 5 i0 _ Tryz.underlying72 hi0 hz0 .i64 .i64 (n:Int) (n:Int) (by omega) (by omega) (by rw[hz2];omega) (by omega);rw[hz1] at h
 simpa[madeCells_one,Value.cells] using h
theorem mk_rows(n:Nat)(hn:n<=1048576):∀w:World,(Instr.makeSlice 127 (.int .i64 (n:Int)) (.int .i64 (n:Int))).run Tryz.prog w=.ok (.slice (some ⟨w.heap.size,0,none⟩) n n) (w.alloc (.cells (Array.replicate n (.slice none 0 0)) 72)):=by
 intro w;obtain⟨i0,hi0,hz0,hz1,hz2⟩:=info_parts info_row;have h:=run_make (P:=Tryz.prog) w 127 72 i0 _ Tryz.underlying127 hi0 hz0 .i64 .i64 (n:Int) (n:Int) (by omega) (by omega) (by rw[hz2];omega) (by omega);rw[hz1] at h
 simpa[madeCells_one,Value.cells] using h
def BlkB(W:World)(g:Nat)(l:List UInt8):Prop:=W.heap[g]?=some (.cells (bys l).toArray 5 (0,0))
theorem BlkB.lt{W:World}{g:Nat}{l:List UInt8}(h:BlkB W g l):g<W.heap.size:=by
 unfold BlkB at h;rcases Nat.lt_or_ge g W.heap.size with h1 | h1
 ·exact h1
 ·rw[Array.getElem?_eq_none h1] at h;cases h
theorem BlkB.cell{W:World}{g:Nat}{l:List UInt8}(h:BlkB W g l){j:Nat}(hj:j<l.length):W.cell? ⟨g,j,none⟩=some (.int .u8 (l[j].toNat:Int)):=by
 rw[cell_of_row W g j _ _ _ h];simp[bys,hj]
theorem BlkB.cellD{W:World}{g:Nat}{l:List UInt8}(h:BlkB W g l){j:Nat}(hj:j<l.length):W.cell? ⟨g,j,none⟩=some (.int .u8 ((l.getD j 0).toNat:Int)):=by
 rw[h.cell hj,getD_lt _ _ hj]
theorem BlkB.free{W:World}{g:Nat}{l:List UInt8}(h:BlkB W g l)(j:Nat):W.frozen? ⟨g,j,none⟩=false:=frozen_of_row W g j _ _ h
theorem BlkB.set{W:World}{g:Nat}{l:List UInt8}(h:BlkB W g l)(j:Nat)(y:UInt8):BlkB (W.setCell ⟨g,j,none⟩ (.int .u8 (y.toNat:Int))) g (l.set j y):=by
 unfold BlkB;rw[heap_setCell_same W g j _ _ _ h];simp[bys,List.map_set]
theorem BlkB.other{W:World}{g b j:Nat}{l:List UInt8}(h:BlkB W g l)(hb:g≠b)(v:Value):BlkB (W.setCell ⟨b,j,none⟩ v) g l:=(heap_setCell_other W ⟨b,j,none⟩ g v hb).trans h
theorem BlkB.drewN{W:World}{g:Nat}{l:List UInt8}(h:BlkB W g l)(n:Nat):BlkB (W.drewN n) g l:=h
theorem BlkB.new(W:World)(n:Nat):BlkB (W.alloc (.cells (Array.replicate n (.int .u8 0)) 5)) W.heap.size (List.replicate n 0):=by
 unfold BlkB;rw[zN];simp[bys]
theorem BlkB.byS{W:World}{g c:Nat}{l:List UInt8}(h:BlkB W g l)(hc:l.length<=c)(hm:l.length<=maxLen){R:Nat->Prop}(hR:R g):ByS W R (.slice (some ⟨g,0,none⟩) l.length c) l :=
 ⟨_,c,rfl,hc,hm,fun _=>⟨g,0,rfl,hR,fun k x hk=>by
  have hj:k<l.length:=(zL.1 hk).1;have hx:l[k]=x:=(zL.1 hk).2
  rw[Nat.zero_add,h.cell hj,hx]⟩⟩
theorem ByS.form{w:World}{R:Nat->Prop}{v:Value}{l:List UInt8}(h:ByS w R v l):∃A c,v=.slice A l.length c/\l.length<=c/\l.length<=maxLen:=by
 obtain⟨A',c',e,h1,h2,h3⟩:=h;exact⟨A',c',e,h1,h2⟩
theorem ByS.at_{w:World}{R:Nat->Prop}{A:Option Addr}{n c:Nat}{l:List UInt8}(h:ByS w R (.slice A n c) l){k:Nat}(hk:k<l.length):∃b off,A=some ⟨b,off,none⟩/\R b/\w.cell? ⟨b,off+k,none⟩=some (.int .u8 (l[k].toNat:Int)):=by
 obtain⟨A',c',e,_,_,h3⟩:=h;obtain⟨b,off,e2,hb,hc⟩:=h3 (by omega);injection e with e;exact⟨b,off,e.trans e2,hb,hc k _ (zG hk)⟩
theorem ByS.all{w:World}{R:Nat->Prop}{A:Option Addr}{n c:Nat}{l:List UInt8}(h:ByS w R (.slice A n c) l)(hk:0<l.length):∃b off,A=some ⟨b,off,none⟩/\R b/\∀k (h:k<l.length),w.cell? ⟨b,off+k,none⟩=some (.int .u8 (l[k].toNat:Int)):=by
 obtain⟨A',c',e,_,_,h3⟩:=h;obtain⟨b,off,e2,hb,hc⟩:=h3 hk;injection e with e;exact⟨b,off,e.trans e2,hb,fun k hk=>hc k _ (zG hk)⟩
def MatAt(w:World)(R:Nat->Prop)(t:Mat)(b off:Nat):Prop:=∀k r,t[k]?=some r->∃va,w.cell? ⟨b,off+k,none⟩=some va/\ByS w R va r
def MatS(w:World)(R:Nat->Prop)(v:Value)(t:Mat):Prop:=Row R v t.length (MatAt w R t)
theorem MatS.keep{w w':World}{R:Nat->Prop}{v:Value}{t:Mat}(h:MatS w R v t)(hk:Kept R w w'):MatS w' R v t :=
 h.imp (fun _ hb=>hb) fun b off hb hc k r hr=>by
  obtain⟨va,h1,h2⟩:=hc k r hr;exact⟨va,(hk.cell hb).trans h1,h2.keep hk⟩
theorem MatS.mono{w:World}{R R':Nat->Prop}{v:Value}{t:Mat}(h:MatS w R v t)(hr:∀b,R b->R' b):MatS w R' v t :=
 h.imp hr fun b off hb hc k r hk=>by
  obtain⟨va,h1,h2⟩:=hc k r hk;exact⟨va,h1,h2.mono hr⟩
theorem MatS.form{w:World}{R:Nat->Prop}{v:Value}{t:Mat}(h:MatS w R v t):∃A c,v=.slice A t.length c/\t.length<=c/\t.length<=maxLen:=by
 obtain⟨A',c',e,h1,h2,h3⟩:=h;exact⟨A',c',e,h1,h2⟩
theorem MatS.at_{w:World}{R:Nat->Prop}{A:Option Addr}{n c:Nat}{t:Mat}(h:MatS w R (.slice A n c) t){k:Nat}(hk:k<t.length):∃b off va,A=some ⟨b,off,none⟩/\R b/\w.cell? ⟨b,off+k,none⟩=some va/\ByS w R va t[k]:=by
 obtain⟨A',c',e,_,_,h3⟩:=h;obtain⟨b,off,e2,hb,hc⟩:=h3 (by omega);obtain⟨va,g1,g2⟩:=hc k _ (zG hk);injection e with e;exact⟨b,off,va,e.trans e2,hb,g1,g2⟩
theorem MatS.below{w w':World}{v:Value}{t:Mat}(h:MatS w (Bl w.heap.size) v t)(hb:Below w.heap.size w w'):MatS w' (Bl w'.heap.size) v t:=(h.keep (kept_below hb)).mono (Bl.mono hb.size)
theorem ByS.below{w w':World}{v:Value}{l:List UInt8}(h:ByS w (Bl w.heap.size) v l)(hb:Below w.heap.size w w'):ByS w' (Bl w'.heap.size) v l:=(h.keep (kept_below hb)).mono (Bl.mono hb.size)
theorem MatS.takeS{w:World}{R:Nat->Prop}{A:Option Addr}{n c k:Nat}{t:Mat}(h:MatS w R (.slice A n c) t)(hk:k<=t.length){c':Nat}(hc':k<=c'):MatS w R (.slice A k c') (t.take k):=by
 obtain⟨A',c1,e,h1,h2,h3⟩:=h;injection e with e1 e2 e3;subst e1
 have hl:(t.take k).length=k:=by rw[List.length_take];omega
 refine⟨_,_,by rw[hl],by rw[hl];exact hc',by rw[hl];omega,fun hn=>?_⟩;obtain⟨b,off,e2,hb,hc⟩:=h3 (by omega);refine⟨b,off,e2,hb,fun j r hr=>hc j r ?_⟩;have hj:j<(t.take k).length:=(zL.1 hr).1;rw[hl] at hj
 rwa [List.getElem?_take_of_lt hj] at hr
def Fr(B n:Nat)(b:Nat):Prop:=B<=b/\b<n
theorem Fr.bl{B n:Nat}:∀b,Fr B n b->Bl n b:=fun _ h=>h.2
theorem coef_arg(j i:Nat)(hj:j<64)(hi:i<64):bits .xor .u8 (128+(j:Int)) (i:Int)=((UInt8.ofNat (128+j) ^^^ UInt8.ofNat i).toNat:Int):=by
 have h:=xor_int (UInt8.ofNat (128+j)) (UInt8.ofNat i)
 have h1:(((UInt8.ofNat (128+j)).toNat:Nat):Int)=128+(j:Int):=by rw[UInt8.toNat_ofNat'];omega
 have h2:(((UInt8.ofNat i).toNat:Nat):Int)=(i:Int):=by rw[UInt8.toNat_ofNat'];omega
 rw[h1,h2] at h;exact h
theorem coefficient_any(j i:Nat)(w:World)(hj:j<64)(hi:i<64) :
  Calls Tryz.prog 170 #[.int .i64 (j:Int),.int .i64 (i:Int)] w fun e w'=>e=.returned (.int .u8 ((coef j i).toNat:Int))/\w=w':=by
 obtain⟨c,hc⟩:=zx (UInt8.ofNat (128+j) ^^^ UInt8.ofNat i);have hx:=coef_arg j i hj hi
 have hcf:coef j i=ginv c:=by rw[hc];rfl
 rw[<-hc] at hx;rw[hcf];have HX:=zh hx;clear hc hx hcf;go_enter Tryz.func170,Tryz.ntmps170;go_wp2_with fail;rw[HX.out];refine(inv_any c _).mono ?_;rintro e w' ⟨rfl,rfl⟩;go_wp2;go_ret;exact⟨rfl,rfl⟩
def coefP(k a j:Nat):List UInt8:=(List.range k).map fun i=>if i<j then(coefR k a).getD i 0 else 0
theorem coefP_zero(k a:Nat):coefP k a 0=List.replicate k 0:=by
 apply List.ext_getElem
 ·simp[coefP]
 ·intro i h1 h2;simp[coefP]
theorem coefP_all(k a:Nat):coefP k a k=coefR k a:=by
 apply List.ext_getElem
 ·simp[coefP,coefR]
 ·intro i h1 h2
  have h3:i<k:=by simpa[coefP] using h1
  simp only[coefP,List.getElem_map,List.getElem_range,if_pos h3];exact getD_lt _ _ h2
theorem coefP_step(k a j:Nat)(hj:j<k):(coefP k a j).set j ((coefR k a).getD j 0)=coefP k a (j+1):=by
 apply List.ext_getElem
 ·simp[coefP]
 ·intro i h1 h2;rw[List.getElem_set];simp only[coefP,List.getElem_map,List.getElem_range];by_cases e:j=i
  ·subst e;rw[if_pos rfl,if_pos (by omega)]
  ·rw[if_neg e];by_cases h3:i<j
   ·rw[if_pos h3,if_pos (by omega)]
   ·rw[if_neg h3,if_neg (by omega)]
theorem coefP_length(k a j:Nat):(coefP k a j).length=k:=by simp[coefP]
theorem coef_unit(k a:Nat)(h:a<k):(List.replicate k (0:UInt8)).set a 1=coefR k a:=by
 apply List.ext_getElem
 ·simp[coefR]
 ·intro i h1 h2;rw[List.getElem_set];simp only[coefR,List.getElem_map,List.getElem_range,List.getElem_replicate,if_pos h];by_cases e:a=i
  ·rw[if_pos e,if_pos e.symm]
  ·rw[if_neg e,if_neg (fun h=>e h.symm)]
theorem coefficients_any(k a:Nat)(w:World)(hk:k<64)(ha:a<k+64) :
  Calls Tryz.prog 154 #[.int .i64 (k:Int),.int .i64 (a:Int)] w fun e w'=>∃v,e=.returned v/\ByS w' (Fr w.heap.size w'.heap.size) v (coefR k a)/\Below w.heap.size w w':=by
 have hmk:=mk_u8 k (by omega);have hB:=BlkB.new w k;have hb1:Below w.heap.size w (w.alloc (.cells (Array.replicate k (.int .u8 0)) 5)):=(zB _ _).alloc (zR _) _;by_cases hak:a<k
 ·go_enter Tryz.func154,Tryz.ntmps154
  go_upto_if 11 with fail
  obtain⟨g,hg⟩:=zx w.heap.size;rw[<-hg] at hB ⊢
  have hgw:w.heap.size<=g:=by omega
  generalize w.alloc (.cells (Array.replicate k (.int .u8 0)) 5)=w1 at *;have c0:=hB.cell (j:=a) (by simpa using hak);have f0:=hB.free a;clear hg hmk;go_wp2;go_ret;have hB2:=hB.set a 1;rw[coef_unit k a hak] at hB2;have hby:=hB2.byS (c:=k) (by rw[coefR_length];exact zR _) (by rw[coefR_length];unfold maxLen;omega) (R:=Fr w.heap.size _) ⟨hgw,hB2.lt⟩;rw[coefR_length] at hby;exact⟨_,rfl,hby,hb1.setCell hgw _⟩
 ·go_enter Tryz.func154,Tryz.ntmps154
  go_upto_if 11 with fail
  obtain⟨g,hg⟩:=zx w.heap.size;rw[<-hg] at hB ⊢
  have hgw:w.heap.size<=g:=by omega
  generalize w.alloc (.cells (Array.replicate k (.int .u8 0)) 5)=w1 at *;obtain⟨d,hd⟩:∃d,a=k+d:=⟨a - k,by omega⟩;subst hd;clear hg hak hmk;go_wp2;go_loopg [18] k (fun n v18 wr=>∃j:Nat,j<=k/\n=k - j/\v18=.int .i64 (j:Int)/\BlkB wr g (coefP k (k+d) j)/\Below w.heap.size w wr)
  case atStart=>exact⟨0,by omega,rfl,rfl,by rw[coefP_zero];exact hB,hb1⟩
  case round =>
   clear hB hb1;obtain⟨j,hj,rfl,rfl,hB,hb⟩:=hrel;by_cases hlt:j<k
   ·have c0:=hB.cellD (j:=j) (by rw[coefP_length];exact hlt);have f0:=hB.free j
    have hc:(coefR k (k+d)).getD j 0=coef d j:=by rw[coefR_getD _ _ _ hlt,if_neg (by omega),Nat.add_sub_cancel_left]
    have HC:=zh hc
    have e1:(k:Int)+(d:Int)-(k:Int)=(d:Int):=by omega
    clear hc;go_wp2_with fail;refine(coefficient_any d j _ (by omega) (by omega)).mono ?_;rintro e w' ⟨rfl,rfl⟩;go_wp2;go_roundg (k-(j+1))
    case measure=>omega
    case rel =>
     have hB2:=hB.set j (coef d j);rw[<-HC.out,coefP_step _ _ _ hlt] at hB2;exact⟨j+1,by omega,rfl,by go_num,by rw[<-HC.out];exact hB2,hb.setCell hgw _⟩
   ·obtain rfl:j=k:=by omega
    go_wp2;go_ret;rw[coefP_all] at hB;have hby:=hB.byS (c:=j) (by rw[coefR_length];exact zR _) (by rw[coefR_length];unfold maxLen;omega) (R:=Fr w.heap.size _) ⟨hgw,hB.lt⟩;rw[coefR_length] at hby;exact⟨_,rfl,hby,hb⟩
def combF(cs:List UInt8)(t:Mat)(k i:Nat):UInt8:=gmul (cs.getD i 0) (en t i k)
def combT(cs:List UInt8)(t:Mat)(m:Nat):List UInt8:=(List.range m).map fun k=>lsum (List.range t.length) (combF cs t k)
def combP(cs:List UInt8)(t:Mat)(m r j:Nat):List UInt8:=(List.range m).map fun k=>lsum (List.range (if k<j then r+1 else r)) (combF cs t k)
theorem combP_length(cs:List UInt8)(t:Mat)(m r j:Nat):(combP cs t m r j).length=m:=by simp[combP]
theorem combP_start(cs:List UInt8)(t:Mat)(m:Nat):combP cs t m 0 0=List.replicate m 0:=by
 apply List.ext_getElem
 ·simp[combP]
 ·intro i h1 h2;simp[combP,lsum]
theorem combP_row(cs:List UInt8)(t:Mat)(m r:Nat):combP cs t m r m=combP cs t m (r+1) 0:=by
 apply List.ext_getElem
 ·simp[combP]
 ·intro i h1 h2
  have h3:i<m:=by simpa[combP] using h1
  simp[combP,h3]
theorem combP_end(cs:List UInt8)(t:Mat)(m:Nat):combP cs t m t.length 0=combT cs t m:=by
 unfold combP combT;simp
theorem combP_step(cs:List UInt8)(t:Mat)(m r j:Nat)(hj:j<m):(combP cs t m r j).set j ((combP cs t m r j).getD j 0 ^^^ combF cs t j r)=combP cs t m r (j+1):=by
 apply List.ext_getElem
 ·simp[combP]
 ·intro i h1 h2;rw[List.getElem_set];by_cases e:j=i
  ·subst e;rw[if_pos rfl,getD_lt _ _ (by simpa[combP] using hj)];simp only[combP,List.getElem_map,List.getElem_range];rw[if_neg (by omega),if_pos (by omega),List.range_succ,lsum_append];simp[lsum]
  ·rw[if_neg e];simp only[combP,List.getElem_map,List.getElem_range];by_cases h3:i<j
   ·rw[if_pos h3,if_pos (by omega)]
   ·rw[if_neg h3,if_neg (by omega)]
theorem combT_length(cs:List UInt8)(t:Mat)(m:Nat):(combT cs t m).length=m:=by simp[combT]
theorem Calls.eqw{P:Program}{f:FuncId}{args:Array Value}{w:World}{v:Value}(h:Calls P f args w fun e w'=>e=.returned v/\w=w'):Calls P f args w fun e w'=>e=.returned v/\w'=w:=h.mono fun _ _ ⟨a,b⟩=>⟨a,b.symm⟩
theorem combine_any(vc vt:Value)(cs:List UInt8)(t:Mat)(m:Nat)(w:World)(hc:ByS w (Bl w.heap.size) vc cs)(ht:MatS w (Bl w.heap.size) vt t)(hl:cs.length=t.length)(h0:0<t.length)(hn:t.length<=64)(hw:Wide t m)(hm:m<=65536) :
  Calls Tryz.prog 156 #[vc,vt] w fun e w'=>∃v,e=.returned (.tuple #[v,.int .i64 0])/\ByS w' (Fr w.heap.size w'.heap.size) v (combT cs t m)/\Below w.heap.size w w':=by
 obtain⟨Ac,cc,rfl,-,-⟩:=hc.form;obtain⟨At,ct,rfl,hct,-⟩:=ht.form;obtain⟨bt,ot,va0,rfl,hRt,ca0,hva0⟩:=ht.at_ h0;obtain⟨A0,c0,rfl,-,-⟩:=hva0.form;have hm0:=hw _ (List.getElem_mem h0);rw[hm0,Nat.add_zero] at ca0;rw[hl] at hc ⊢;have HL:=zh hl;have hmk:=mk_u8 m (by omega);have hB:=BlkB.new w m;have hb1:Below w.heap.size w (w.alloc (.cells (Array.replicate m (.int .u8 0)) 5)):=(zB _ _).alloc (zR _) _
 have e0:((t.length:Int)==0)=false:=by rw[beq_eq_false_iff_ne];omega
 have hti:(0:Int)<(t.length:Int):=by omega
 clear hl hm0 hva0;go_enter Tryz.func156,Tryz.ntmps156;go_wp2;obtain⟨g,hg⟩:=zx w.heap.size;rw[<-hg] at hB ⊢
 have hgw:w.heap.size<=g:=by omega
 generalize w.alloc (.cells (Array.replicate m (.int .u8 0)) 5)=w1 at *;clear hg hmk ca0;go_loopg [28] t.length (fun n v28 wr=>∃r:Nat,r<=t.length/\n=t.length - r/\v28=.int .i64 (r:Int)/\BlkB wr g (combP cs t m r 0)/\Below w.heap.size w wr)
 case atStart=>exact⟨0,by omega,rfl,rfl,by rw[combP_start];exact hB,hb1⟩
 case round =>
  clear hB hb1;obtain⟨r,hr,rfl,rfl,hB,hb⟩:=hrel;by_cases hlt:r<t.length
  ·obtain⟨b1,o1,va,hA1,hR1,c1,hva⟩:=ht.at_ hlt
   obtain⟨rfl,rfl⟩:bt=b1/\ot=o1:=by injection hA1 with h;injection h with h1 h2;exact⟨h1,h2⟩
   obtain⟨bc,oc,rfl,hRc,cc1⟩:=hc.at_ (k:=r) (by rw[HL.out];exact hlt);have hmr:=hw _ (List.getElem_mem hlt);have hrow:=getD_lt t [] hlt;generalize t[r]=row at *;obtain⟨A1,c1',rfl,-,-⟩:=hva.form;rw[hmr] at c1 hva;have HROW:=zh hrow;have HMR:=zh hmr;have hcr:=getD_lt cs 0 (i:=r) (by rw[HL.out];exact hlt);rw[<-hcr] at cc1;have c1w:=(hb.cell (p:=⟨bt,ot+r,none⟩) hR1).trans c1;have HC1:=zh cc1;clear hrow hmr hcr hA1 c1 cc1;go_wp2;go_loopg [40] m (fun n v40 wx=>∃j:Nat,j<=m/\n=m - j/\v40=.int .i64 (j:Int)/\BlkB wx g (combP cs t m r j)/\Below w.heap.size w wx)
   case atStart=>exact⟨0,by omega,rfl,rfl,hB,hb⟩
   case round =>
    clear hB hb c1w;obtain⟨j,hj,rfl,rfl,hB,hb⟩:=hrel;by_cases hjt:j<m
    ·obtain⟨b2,o2,rfl,hR2,c2⟩:=hva.at_ (k:=j) (by rw[HMR.out];exact hjt)
     have hen:row[j]'(by rw[HMR.out];exact hjt)=en t r j:=by
      unfold en;rw[HROW.out,getD_lt row 0 (by rw[HMR.out];exact hjt)]
     rw[hen] at c2;have c2w:=(hb.cell (p:=⟨b2,o2+j,none⟩) hR2).trans c2;have cc2:=(hb.cell (p:=⟨bc,oc+r,none⟩) hRc).trans HC1.out;have c0:=hB.cellD (j:=j) (by rw[combP_length];exact hjt);have f0:=hB.free j;obtain⟨y,hy⟩:=zx (en t r j);obtain⟨f,hf⟩:=zx (cs.getD r 0);rw[<-hy] at c2w;rw[<-hf] at cc2;have hstep:=combP_step cs t m r j hjt
     have hcf:combF cs t j r=gmul f y:=by rw[hf,hy];rfl
     rw[hcf] at hstep;generalize (combP cs t m r j).getD j 0=x at *;have HS:=zh hstep;clear hen c2 hy hf hstep hcf;go_wp2_with fail
     go_still_tail 12,(by kernel_rfl)
     still_call (Calls.eqw (mul_any f y _))
     repeat still_step
     refine wpStill_nil ?_
     change wpList _ _ _ _ _ (World.drew _)
     go_wp2;go_roundg (m-(j+1))
     case measure=>omega
     case rel =>
      have hB2:=(hB.set j (x ^^^ gmul f y)).drewN 1;rw[HS.out] at hB2;exact⟨j+1,by omega,rfl,by go_num,by rw[xor_int];exact hB2,(hb.setCell hgw _).drew⟩
    ·obtain rfl:j=m:=by omega
     go_wp2;go_roundg (t.length-(r+1))
     case measure=>omega
     case rel=>exact⟨r+1,by omega,rfl,by go_num,by rw[<-combP_row];exact hB,hb⟩
  ·obtain rfl:r=t.length:=by omega
   go_wp2;go_ret2;rw[combP_end] at hB;have hby:=hB.byS (c:=m) (by rw[combT_length];exact zR _) (by rw[combT_length];unfold maxLen;omega) (R:=Fr w.heap.size _) ⟨hgw,hB.lt⟩;rw[combT_length] at hby;exact⟨_,rfl,hby,hb⟩
def rowV(m q:Nat):Value:=.slice (some ⟨q,0,none⟩) m m
structure MatW (W:World) (B g:Nat) (qs:List Nat) (t:Mat) (m:Nat) (rest:List Value):Prop where
 outer:W.heap[g]?=some (.cells (qs.map (rowV m)++rest).toArray 72 (0,0))
 len:qs.length=t.length
 inj:∀i j,i<t.length->j<t.length->qs.getD i 0=qs.getD j 0->i=j
 inner:∀i,i<t.length->BlkB W (qs.getD i 0) (t.getD i [])
 wide:Wide t m
 base:∀i,i<t.length->B<=qs.getD i 0
 bg:B<=g
 ng:∀i,i<t.length->qs.getD i 0≠g
section
variable {W : World} {B g : Nat} {qs : List Nat} {t : Mat} {m : Nat} {rest : List Value}
theorem MatW.cellO(h:MatW W B g qs t m rest){i:Nat}(hi:i<t.length):W.cell? ⟨g,i,none⟩=some (.slice (some ⟨qs.getD i 0,0,none⟩) m m):=by
 have hl:=h.len;rw[cell_of_row W g i _ _ _ h.outer];rw[List.getElem?_toArray,List.getElem?_append_left (by simp;omega),List.getElem?_map,zG (by omega),getD_lt _ _ (by omega)]
 rfl
theorem MatW.freeO(h:MatW W B g qs t m rest)(i:Nat):W.frozen? ⟨g,i,none⟩=false:=frozen_of_row W g i _ _ h.outer
theorem MatW.ltO(h:MatW W B g qs t m rest):g<W.heap.size:=by
 have h1:=h.outer;rcases Nat.lt_or_ge g W.heap.size with h2 | h2
 ·exact h2
 ·rw[Array.getElem?_eq_none h2] at h1;cases h1
theorem MatW.rowlen(h:MatW W B g qs t m rest){i:Nat}(hi:i<t.length):(t.getD i []).length=m:=h.wide.getD hi
theorem MatW.cellI(h:MatW W B g qs t m rest){i j:Nat}(hi:i<t.length)(hj:j<m):W.cell? ⟨qs.getD i 0,j,none⟩=some (.int .u8 ((en t i j).toNat:Int)) :=
 (h.inner i hi).cellD (by rw[h.rowlen hi];exact hj)
theorem MatW.freeI(h:MatW W B g qs t m rest){i:Nat}(hi:i<t.length)(j:Nat):W.frozen? ⟨qs.getD i 0,j,none⟩=false:=(h.inner i hi).free j
theorem MatW.drewN(h:MatW W B g qs t m rest)(n:Nat):MatW (W.drewN n) B g qs t m rest:=⟨h.outer,h.len,h.inj,h.inner,h.wide,h.base,h.bg,h.ng⟩
theorem set_length(t:Mat)(i:Nat)(r:List UInt8):(t.set i r).length=t.length:=by simp
theorem wide_set{t:Mat}{m:Nat}(h:Wide t m)(i:Nat){r:List UInt8}(hr:r.length=m):Wide (t.set i r) m:=by
 intro x hx;rcases List.mem_or_eq_of_mem_set hx with h1 | h1
 ·exact h x h1
 ·rw[h1];exact hr
theorem MatW.put(h:MatW W B g qs t m rest){i j:Nat}(hi:i<t.length)(y:UInt8):MatW (W.setCell ⟨qs.getD i 0,j,none⟩ (.int .u8 (y.toNat:Int))) B g qs (t.set i ((t.getD i []).set j y)) m rest:=by
 refine⟨?_,by rw[set_length];exact h.len,?_,?_,wide_set h.wide i (by rw[List.length_set];exact h.rowlen hi),?_,h.bg,?_⟩
 ·exact(heap_setCell_other W _ g _ (fun e=>h.ng i hi e.symm)).trans h.outer
 ·intro a b ha hb;rw[set_length] at ha hb;exact h.inj a b ha hb
 ·intro a ha;rw[set_length] at ha;rw[getD_set _ _ _ _ _ hi];by_cases e:a=i
  ·rw[if_pos e,e];exact(h.inner i hi).set j y
  ·rw[if_neg e];exact(h.inner a ha).other (fun e2=>e (h.inj a i ha hi e2)) _
 ·intro a ha;rw[set_length] at ha;exact h.base a ha
 ·intro a ha;rw[set_length] at ha;exact h.ng a ha
def swapQ(qs:List Nat)(i j:Nat):List Nat:=(qs.set i (qs.getD j 0)).set j (qs.getD i 0)
theorem swapQ_getD(qs:List Nat)(a k i:Nat)(ha:a<qs.length)(hk:k<qs.length):(swapQ qs a k).getD i 0=qs.getD (if i=k then a else if i=a then k else i) 0:=by
 unfold swapQ;rw[getD_set _ _ _ _ _ (by simpa using hk),getD_set _ _ _ _ _ ha];by_cases h1:i=k
 ·rw[if_pos h1,if_pos h1]
 ·rw[if_neg h1,if_neg h1];by_cases h2:i=a
  ·rw[if_pos h2,if_pos h2]
  ·rw[if_neg h2,if_neg h2]
theorem MatW.swap(h:MatW W B g qs t m []){a k:Nat}(ha:a<t.length)(hk:k<t.length) :
  MatW ((W.setCell ⟨g,a,none⟩ (rowV m (qs.getD k 0))).setCell ⟨g,k,none⟩ (rowV m (qs.getD a 0))) B g (swapQ qs a k) (swapL t a k) m []:=by
 have hl:=h.len;have hsl:=swapL_length t a k
 have hq:=fun i=>swapQ_getD qs a k i (by omega) (by omega)
 have ht:=fun i=>swapL_getD t a k i ha hk
 have hlt:∀i,i<t.length->(if i=k then a else if i=a then k else i)<t.length:=fun i hi=>by split;exact ha;split;exact hk;exact hi
 refine⟨?_,by simp[swapQ,hl,hsl],?_,?_,?_,?_,h.bg,?_⟩
 ·rw[heap_setCell_same _ g k _ _ _ (heap_setCell_same W g a _ _ _ h.outer)];simp[swapQ,List.map_set]
 ·intro i j hi hj e;rw[hsl] at hi hj;rw[hq,hq] at e;have h2:=h.inj _ _ (hlt i hi) (hlt j hj) e
  revert h2
  split <;> (try split) <;> (try split) <;> (try split) <;> intro h2 <;> omega
 ·intro i hi;rw[hsl] at hi;rw[hq,ht];exact((h.inner _ (hlt i hi)).other (h.ng _ (hlt i hi)) _).other (h.ng _ (hlt i hi)) _
 ·intro r hr;obtain⟨i,hi,rfl⟩:=List.getElem_of_mem hr;have e:=ht i;rw[getD_lt _ _ hi] at e;rw[e];exact h.wide.getD (hlt i (by omega))
 ·intro i hi;rw[hsl] at hi;rw[hq];exact h.base _ (hlt i hi)
 ·intro i hi;rw[hsl] at hi;rw[hq];exact h.ng _ (hlt i hi)
end
section
variable {W : World} {B g : Nat} {qs cs : List Nat} {t : Mat} {m : Nat}
end
theorem map_snoc_rep(qs:List Nat)(m q:Nat)(rest:List Value):((qs.map (rowV m)++.slice none 0 0 :: rest).toArray.setIfInBounds qs.length (rowV m q))=((qs++[q]).map (rowV m)++rest).toArray:=by
 simp[List.set_append]
theorem MatW.push{W:World}{B g:Nat}{qs:List Nat}{t:Mat}{m:Nat}{rest:List Value}(h:MatW W B g qs t m (.slice none 0 0 :: rest))(hB:B<=W.heap.size) :
  MatW ((W.setCell ⟨g,t.length,none⟩ (rowV m W.heap.size)).alloc (.cells (Array.replicate m (.int .u8 0)) 5)) B g (qs++[W.heap.size]) (t++[List.replicate m 0]) m rest:=by
 have hl:=h.len;have hg:=h.ltO
 have hlt:∀i,i<t.length->qs.getD i 0<W.heap.size:=fun i hi=>(h.inner i hi).lt
 have hqn:∀i,i<t.length->(qs++[W.heap.size]).getD i 0=qs.getD i 0:=fun i hi=>by rw[List.getD,List.getElem?_append_left (by omega),List.getD]
 have hqe:(qs++[W.heap.size]).getD t.length 0=W.heap.size:=by rw[List.getD,List.getElem?_append_right (by omega),hl,Nat.sub_self];rfl
 have htn:∀i,i<t.length->(t++[List.replicate m (0:UInt8)]).getD i []=t.getD i []:=fun i hi=>by rw[List.getD,List.getElem?_append_left (by omega),List.getD]
 have hte:(t++[List.replicate m (0:UInt8)]).getD t.length []=List.replicate m 0:=by rw[List.getD,List.getElem?_append_right (by omega),Nat.sub_self];rfl
 have hlen:(t++[List.replicate m (0:UInt8)]).length=t.length+1:=by simp
 refine⟨?_,by simp[hl],?_,?_,?_,?_,h.bg,?_⟩
 ·rw[zH _ _ _ (by simpa using hg),heap_setCell_same W g t.length _ _ _ h.outer,<-hl,map_snoc_rep]
 ·intro i j hi hj e;rw[hlen] at hi hj;by_cases h1:i<t.length
  ·by_cases h2:j<t.length
   ·rw[hqn i h1,hqn j h2] at e;exact h.inj i j h1 h2 e
   ·have h3:j=t.length:=by omega
    rw[hqn i h1,h3,hqe] at e;have:=hlt i h1;omega
  ·have h3:i=t.length:=by omega
   by_cases h2:j<t.length
   ·rw[hqn j h2,h3,hqe] at e;have:=hlt j h2;omega
   ·omega
 ·intro i hi;rw[hlen] at hi;by_cases h1:i<t.length
  ·rw[hqn i h1,htn i h1];have h2:=hlt i h1;exact((zH _ _ _ (by simpa using h2)).trans ((h.inner i h1).other (h.ng i h1) _))
  ·have h3:i=t.length:=by omega
   rw[h3,hqe,hte];have h4:=BlkB.new (W.setCell ⟨g,t.length,none⟩ (rowV m W.heap.size)) m
   have h5:(W.setCell ⟨g,t.length,none⟩ (rowV m W.heap.size)).heap.size=W.heap.size:=by simp
   rw[h5] at h4;exact h4
 ·intro r hr;rcases List.mem_append.1 hr with h1 | h1
  ·exact h.wide r h1
  ·rw[List.mem_singleton.1 h1];simp
 ·intro i hi;rw[hlen] at hi;by_cases h1:i<t.length
  ·rw[hqn i h1];exact h.base i h1
  ·rw[show i=t.length from by omega,hqe];exact hB
 ·intro i hi;rw[hlen] at hi;by_cases h1:i<t.length
  ·rw[hqn i h1];exact h.ng i h1
  ·rw[show i=t.length from by omega,hqe];omega
theorem MatW.putRow{W:World}{B g:Nat}{qs:List Nat}{t:Mat}{m:Nat}{rest:List Value}(h:MatW W B g qs t m rest){i:Nat}(hi:i<t.length){r:List UInt8}(hr:r.length=m):MatW (W.setRow (qs.getD i 0) (bys r).toArray) B g qs (t.set i r) m rest:=by
 have hin:=h.inner i hi;refine⟨?_,by rw[set_length];exact h.len,?_,?_,wide_set h.wide i hr,?_,h.bg,?_⟩
 ·rw[setRow_other W _ g _ (fun e=>h.ng i hi e.symm)];exact h.outer
 ·intro a b ha hb;rw[set_length] at ha hb;exact h.inj a b ha hb
 ·intro a ha;rw[set_length] at ha;rw[getD_set _ _ _ _ _ hi];by_cases e:a=i
  ·rw[if_pos e,e];exact setRow_heap W _ _ _ _ _ hin
  ·rw[if_neg e];exact(setRow_other W _ _ _ (fun e2=>e (h.inj a i ha hi e2))).trans (h.inner a ha)
 ·intro a ha;rw[set_length] at ha;exact h.base a ha
 ·intro a ha;rw[set_length] at ha;exact h.ng a ha
theorem set_last{α:Type}(t:List α)(z x:α)(i:Nat)(h:t.length=i):(t++[z]).set i x=t++[x]:=by
 rw[List.set_append_right _ _ (by omega),h,Nat.sub_self];rfl
theorem getD_last{α:Type}(t:List α)(z d:α)(i:Nat)(h:t.length=i):(t++[z]).getD i d=z:=by
 rw[List.getD,List.getElem?_append_right (by omega),h,Nat.sub_self];rfl
theorem unit_set(row:List UInt8)(n i:Nat)(h:row.length=n)(hi:i<n):(row++List.replicate n (0:UInt8)).set (n+i) 1=row++unitR n i:=by
 rw[List.set_append_right _ _ (by omega),h,Nat.add_sub_cancel_left]
 congr 1
 apply List.ext_getElem
 ·simp[unitR]
 ·intro j h1 h2;rw[List.getElem_set];simp only[unitR,List.getElem_map,List.getElem_range,List.getElem_replicate];by_cases e:i=j
  ·rw[if_pos e,if_pos e.symm]
  ·rw[if_neg e,if_neg (fun h=>e h.symm)]
theorem copy_row(row:List UInt8)(n m:Nat)(h:row.length=n)(hm:m=n+n):(((bys (List.replicate m 0)).toArray:Array Value).toList.take 0++(bys row++((bys (List.replicate m 0)).toArray:Array Value).toList.drop (0+(bys row).length))).toArray=(bys (row++List.replicate n 0)).toArray:=by
 have e:m-row.length=n:=by omega
 simp[bys,e]
theorem aug_take(A:Mat)(t:Mat)(i:Nat)(hi:i<A.length)(ht:t=(augT A).take i)(row:List UInt8)(hr:row=A[i]):t++[row++unitR A.length i]=(augT A).take (i+1):=by
 rw[List.take_succ_eq_append_getElem (by rw[aug_length];exact hi),<-ht];simp[augT,hr]
theorem own_form{w:World}{base:Nat}{e:TypeId}{size:Nat}{v:Value}{n:Nat}{xs:List Value}(h:w.ownsRow base e size v n xs):∃A c,v=.slice A n c:=by
 rcases h.2 with ⟨rfl,rfl⟩ | ⟨g,cap,cur,rfl,_⟩
 ·exact⟨none,0,rfl⟩
 ·exact⟨_,cap,rfl⟩
theorem app_copyB{ops:Array Oper}{rest:List Oper}{o:Oper}{a:Act}{Q:Exit->Act->World->Prop}{w:World}(s x:Operand)(hgd:o.guard=none)(ho:o.op=.call { callee:=.builtin .append,args:=#[s,x],argTypes:=#[72,72] })
  (l:List UInt8) (b off n c:Nat) (hs:a.eval s=.slice none 0 0) (hx:a.eval x=.slice (some ⟨b,off,none⟩) n c) (hnl:l.length=n) (hcell:∀j (h:j<l.length),w.cell? ⟨b,off+j,none⟩=some (.int .u8 (l[j].toNat:Int))) (hn:l.length<=65536)
  (h:∀A c' w',ByS w' (fun b=>w.heap.size<=b/\b<w'.heap.size) (.slice A n c') l->Below w.heap.size w w'->wpList Tryz.prog ops Q rest (a.put o.dst (.slice A n c')) w') :
  wpList Tryz.prog ops Q (o :: rest) a w:=by
 subst hnl;obtain⟨i0,hi0,hz0,hz1,hz2⟩:=info_parts info_u8;refine wpList_append_own_at (P:=Tryz.prog) _ hgd s x _ ho w.heap.size _ i0 _ 1 1 Tryz.underlying72 hi0 hz0 hz1 hz2 rfl (by omega) (.slice none 0 0) 0 [] hs (World.ownsRow_nil _ _ _ _) ⟨b,off,none⟩ l.length c (bys l) hx (by simp[bys]) ?_ ?_ (by unfold maxLen;omega) (by omega) (zR _) ?_
 ·intro j u hj
  have hjl:j<l.length:=by have:=(zL.1 hj).1;simpa[bys] using this
  have e1:(⟨b,off,none⟩:Addr).add j=⟨b,off+j,none⟩:=by unfold Addr.add;split <;> simp_all
  rw[e1,hcell j hjl]
  simpa[bys,hjl] using hj
 ·intro u hu;simp only[bys,List.mem_map] at hu;obtain⟨y,-,rfl⟩:=hu;rfl
 ·intro v' w' h4 h5 _ _;have hb:Below w.heap.size w w':=⟨h5.os,h5.tape,h5.output,h5.size,fun i hi=>h5.block i hi (by simp[Value.ownBlock])⟩;rw[Nat.zero_add,List.nil_append] at h4;obtain⟨A',c',rfl⟩:=own_form h4;exact h A' c' w' (ByS.own h4 (fun b hb=>h4.lt b hb)) hb
theorem invT_getD(A:Mat)(c:Nat)(h:c<A.length):(invT A).getD c []=((gaussN (augT A) A.length).getD c []).drop A.length:=by
 have hl:(gaussN (augT A) A.length).length=A.length:=by rw[gaussN_length,aug_length]
 unfold invT;rw[getD_lt _ _ (by rw[List.length_map,hl];exact h),List.getElem_map,getD_lt _ _ (by rw[hl];exact h)]
theorem snoc_set(vs:List Value)(z v:Value)(rest:List Value)(c:Nat)(h:vs.length=c):((vs++z :: rest).toArray.setIfInBounds c v)=((vs++[v])++rest).toArray:=by
 subst h;simp[List.set_append]
theorem getD_append_lt{α:Type}(l m:List α)(d:α){i:Nat}(h:i<l.length):(l++m).getD i d=l.getD i d:=by
 rw[List.getD,List.getElem?_append_left h,List.getD]
theorem elimR_zero(p r:List UInt8):elimR 0 p r=r:=by
 unfold elimR;apply List.ext_getElem
 ·simp
 ·intro i h1 h2;simp only[List.getElem_mapIdx];rw[zero_gmul,xor_zero]
theorem set_getD_self(s:Mat)(k:Nat):s.set k (s.getD k [])=s:=by
 apply List.ext_getElem
 ·simp
 ·intro i h1 h2;rw[List.getElem_set];by_cases e:k=i
  ·subst e;rw[if_pos rfl,getD_lt _ _ h2]
  ·rw[if_neg e]
end Go.Proofs.YtgfaieppacabjaaGreat
