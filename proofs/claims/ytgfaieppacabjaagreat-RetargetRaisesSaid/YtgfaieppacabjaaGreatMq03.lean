/- Parts. -/
import Derived.Test.YtgfaieppacabjaaGreatMq02
set_option linter.unusedSectionVars false
set_option maxRecDepth 100000
set_option maxHeartbeats 12800000
set_option linter.unusedVariables false
set_option linter.unusedSimpArgs false
namespace Go.Proofs.YtgfaieppacabjaaGreat
open Go.RowKit
theorem invert_any(va:Value)(A:Mat)(w:World)(ha:MatS w (Bl w.heap.size) va A)(h0:0<A.length)(h32:A.length<=32)(hw:Wide A A.length)(hI:Inj A) :
  Calls Tryz.prog 155 #[va] w fun e w'=>∃v,e=.returned (.tuple #[v,.int .i64 0])/\MatS w' (Bl w'.heap.size) v (invT A)/\Below w.heap.size w w':=by
 obtain⟨Aa,ca,rfl,hca,-⟩:=ha.form;obtain⟨n,hn⟩:=zx A.length;rw[<-hn] at h0 h32 hw hca ⊢;have HN:=zh hn;have HI:=zh hI;have HA:=zh ha;rw[<-hn] at HA;obtain⟨ba,oa,va0,rfl,-,-,-⟩:=ha.at_ (k:=0) (by omega);have hmk:=mk_rows n (by omega);obtain⟨m,hm⟩:=zx (n+n)
 have e2:2*(n:Int)=(m:Int):=by omega
 have hm1:m<=n+n:=by omega
 have hm2:n+n<=m:=by omega
 have hmu:=mk_u8 m (by omega);have HM:=zh hm
 have e0:((n:Int)==0)=false:=by rw[beq_eq_false_iff_ne];omega
 clear hn hI ha hm;go_enter Tryz.func155,Tryz.ntmps155;go_wp2;obtain⟨g,hg⟩:=zx w.heap.size
 have hM1:MatW (w.alloc (.cells (Array.replicate n (.slice none 0 0)) 72)) w.heap.size g [] [] m (List.replicate n (.slice none 0 0)):=by
  refine⟨?_,rfl,(fun i j hi=>by cases hi),(fun i hi=>by cases hi),(fun r hr=>by cases hr),(fun i hi=>by cases hi),by omega,(fun i hi=>by cases hi)⟩;rw[hg,zN];simp
 have hb1:Below w.heap.size w (w.alloc (.cells (Array.replicate n (.slice none 0 0)) 72)):=(zB _ _).alloc (zR _) _;rw[<-hg]
 have hgw:w.heap.size<=g:=by omega
 generalize w.alloc (.cells (Array.replicate n (.slice none 0 0)) 72)=w1 at *;clear hg hmk;go_loopg [30] n (fun z v30 wr=>∃(i:Nat) (qs:List Nat),i<=n/\z=n - i/\v30=.int .i64 (i:Int)/\Hid (∃t,t=(augT A).take i/\MatW wr w.heap.size g qs t m (List.replicate (n - i) (.slice none 0 0)))/\Below w.heap.size w wr)
 case atStart=>exact⟨0,[],by omega,rfl,rfl,⟨[],by simp,by simpa using hM1⟩,hb1⟩
 case round =>
  clear hM1 hb1;obtain⟨i,qs,hi,rfl,rfl,HM,hb⟩:=hrel;by_cases hlt:i<n
  ·obtain⟨t,ht,hM⟩:=HM.out
   have htl:t.length=i:=by rw[ht,List.length_take,aug_length,<-HN.out];omega
   have HT:=zh ht;have HTL:=zh htl;clear ht HM;obtain⟨b1,o1,vr,hA1,hR1,c1,hvr⟩:=HA.out.at_ (k:=i) (by rw[<-HN.out];exact hlt)
   obtain⟨rfl,rfl⟩:ba=b1/\oa=o1:=by injection hA1 with h;injection h with h1 h2;exact⟨h1,h2⟩
   have hrl:A[i].length=n:=hw _ (List.getElem_mem _);obtain⟨row,hrow⟩:=zx (A[i]'(by rw[<-HN.out];exact hlt));rw[<-hrow] at hvr hrl;obtain⟨Ar,cr,rfl,hcr,-⟩:=hvr.form;rw[hrl] at c1 hvr hcr;have c1w:=(hb.cell (p:=⟨ba,oa+i,none⟩) hR1).trans c1;have HROW:=zh hrow;have HRL:=zh hrl
   have hrep:List.replicate (n-i) (Value.slice none 0 0)=.slice none 0 0 :: List.replicate (n-(i+1)) (.slice none 0 0):=by
    rw[show n-i=n-(i+1)+1 from by omega,List.replicate_succ]
   rw[hrep] at hM;have hfo:=hM.freeO i
   have hco:wr.cell? ⟨g,i,none⟩=some (.slice none 0 0):=by
    rw[cell_of_row wr g i _ _ _ hM.outer,List.getElem?_toArray,List.getElem?_append_right (by rw[List.length_map,hM.len,htl];exact zR _)];simp[hM.len,htl]
   clear htl hrow hrl hA1 c1 hrep;have hgl:g<wr.heap.size:=hM.ltO;have hnw:=World.new_ne wr ⟨g,i,none⟩ hco;go_upto_region 11 with fail;have hM2:=hM.push (Nat.le_trans hb.size (zR _));have hb2:Below w.heap.size w ((wr.setCell ⟨g,i,none⟩ (.slice (some ⟨wr.heap.size,0,none⟩) m m)).alloc (.cells (Array.replicate m (.int .u8 0)) 5)):=(hb.setCell hgw _).alloc (by simp;exact hb.size) _;rw[HTL.out] at hM2;have hw2:((wr.setCell ⟨g,i,none⟩ (rowV m wr.heap.size)).alloc (.cells (Array.replicate m (.int .u8 0)) 5))=((wr.setCell ⟨g,i,none⟩ (.slice (some ⟨wr.heap.size,0,none⟩) m m)).alloc (.cells (Array.replicate m (.int .u8 0)) 5)):=rfl;rw[hw2] at hM2;clear hw2 hco hfo c1w hgl hnw hM;generalize (wr.setCell ⟨g,i,none⟩ (.slice (some ⟨wr.heap.size,0,none⟩) m m)).alloc (.cells (Array.replicate m (.int .u8 0)) 5)=w2 at *;generalize qs++[wr.heap.size]=qs2 at *
   have hl2:(t++[List.replicate m (0:UInt8)]).length=i+1:=by rw[zP,HTL.out];rfl
   have hc2:=hM2.cellO (i:=i) (by omega);have hB2:=hM2.inner i (by omega);rw[getD_last _ _ _ _ HTL.out] at hB2;have hp2:=hM2.putRow (i:=i) (by omega) (r:=row++List.replicate n 0) (by rw[zP,HRL.out,List.length_replicate,HM.out]);rw[set_last _ _ _ _ HTL.out] at hp2;have hbq:=hM2.base i (by omega);obtain⟨q,hq⟩:=zx (qs2.getD i 0);have HQ:=zh hq;rw[<-hq] at hc2 hB2 hp2 hbq;have HM2:=zh hM2;have HL2:=zh hl2;clear hq hM2 hl2;obtain⟨br,orr,rfl,hRr,hcells⟩:=hvr.all (by rw[HRL.out];exact h0)
   have hsrc:∀j v,(bys row)[j]?=some v->w2.cell? ((⟨br,orr,none⟩:Addr).add j)=some v:=by
    intro j v hj
    have hjl:j<row.length:=by have:=(zL.1 hj).1;simpa[bys] using this
    have e1:(⟨br,orr,none⟩:Addr).add j=⟨br,orr+j,none⟩:=by unfold Addr.add;split <;> simp_all
    rw[e1,(hb2.cell (p:=⟨br,orr+j,none⟩) hRr),hcells j hjl]
    simpa[bys,hjl] using hj
   have HSRC:=zh hsrc;have hB2':w2.heap[q]?=some (.cells (bys (List.replicate m 0)).toArray 5 (0,0)):=hB2;have HB2:=zh hB2';clear hsrc hcells hB2 hB2';go_upto_region 12 with (refine wpList_copy_own rfl (.tmp 48) (.tmp 49) 72 72 (by rfl) 5 Tryz.underlying72 (by kernel_rfl) q 0 m m ⟨br,orr,none⟩ n cr (by rfl) (by rfl) _ _ HB2.out (bys row) ?_ HSRC.out ?_ ?_ ?_)
   ·rw[show Nat.min n m=n from Nat.min_eq_left (by omega)];simp[bys,HRL.out]
   ·simp[bys,HRL.out];omega
   ·intro v hv;simp only[bys,List.mem_map] at hv;obtain⟨x,-,rfl⟩:=hv;rfl
   ·rw[copy_row row n m HRL.out HM.out];have hb3:Below w.heap.size w (w2.setRow q (bys (row++List.replicate n 0)).toArray):=below_setRow hb2 hbq _;clear hc2;generalize w2.setRow q (bys (row++List.replicate n 0)).toArray=w3 at *
    have hl3:(t++[row++List.replicate n (0:UInt8)]).length=i+1:=by rw[zP,HTL.out];rfl
    have c3:=hp2.cellO (i:=i) (by omega);have c4:=hp2.cellI (i:=i) (j:=n+i) (by omega) (by omega);have f4:=hp2.freeI (i:=i) (by omega) (n+i);rw[<-HQ.out] at c3 c4 f4;have hp3:=hp2.put (i:=i) (j:=n+i) (by omega) 1;rw[getD_last _ _ _ _ HTL.out,unit_set _ _ _ HRL.out hlt,set_last _ _ _ _ HTL.out,HN.out,aug_take A t i (by rw[<-HN.out];exact hlt) HT.out row HROW.out,<-HN.out,<-HQ.out] at hp3;have HP3:=zh hp3;clear hp2 hp3 hl3;go_wp2;go_roundg (n-(i+1))
    case measure=>omega
    case rel=>exact⟨i+1,qs2,by omega,rfl,by go_num,⟨_,rfl,HP3.out⟩,hb3.setCell hbq _⟩
  ·obtain rfl:i=n:=by omega
   obtain⟨t,ht,hM⟩:=HM.out;rw[Nat.sub_self] at hM
   have hta:t=augT A:=by rw[ht,HN.out,<-aug_length A,List.take_length]
   have HTA:=zh hta
   have hMa:MatW wr w.heap.size g qs (gaussN (augT A) 0) m []:=by rw[<-show t=gaussN (augT A) 0 from hta];exact hM
   clear hta ht hM hmu;go_wp2;go_loopg [8] i (fun z v8 wx=>∃(k:Nat) (ps:List Nat),k<=i/\z=i-k/\v8=.int .i64 (k:Int)/\MatW wx w.heap.size g ps (gaussN (augT A) k) m []/\Below w.heap.size w wx)
   case atStart=>exact⟨0,qs,by omega,rfl,rfl,hMa,hb⟩
   case round =>
    clear hMa hb HM qs t HTA;obtain⟨k,ps,hk,rfl,rfl,hM,hb⟩:=hrel
    have hgl:(gaussN (augT A) k).length=i:=by rw[gaussN_length,aug_length,<-HN.out]
    by_cases hlt:k<i
    ·-- S3{
     have hgi:=gauss_inv A (by rw[<-HN.out];exact hw) HI.out k (by rw[<-HN.out];exact hk);rw[<-HN.out] at hgi;obtain⟨-,hpv⟩:=hgi;have hpv:=hpv hlt;have hps:=piv_spec (gaussN (augT A) k) k (by omega);have hstep:gaussN (augT A) (k+1)=gstep (gaussN (augT A) k) k:=rfl;have HSTEP:=zh hstep;generalize gaussN (augT A) k=t at *;obtain⟨p1,-,p3,p4⟩:=hps;have p4:=p4 (by omega);obtain⟨p,hp⟩:=zx (piv t k);rw[<-hp] at hpv p1 p3 p4;have HPV:=zh hp;have P3:=zh p3;have P4:=zh p4;have HGL:=zh hgl
     have hc0:=fun(a:Nat) (ha:a<i)=>hM.cellO (i:=a) (by omega)
     have hc1:=fun(a:Nat) (ha:a<i)=>hM.cellI (i:=a) (j:=k) (by omega) (by omega)
     have HC0:=zh hc0;have HC1:=zh hc1;clear hp p3 p4 hgl hstep hc0 hc1;go_wp2_with fail;obtain⟨wo,rfl⟩:=zx (wr:World);go_loopg [9] (i-k) (fun z v9 wy=>∃a:Nat,k<=a/\a<=p/\z=i-a/\v9=.int .i64 (a:Int)/\wo=wy)
     case atStart=>exact⟨k,by omega,p1,rfl,rfl,rfl⟩
     case round =>
      obtain⟨a,ha1,ha2,rfl,rfl,rfl⟩:=hrel;have c0:=HC0.out a (by omega);have c1:=HC1.out a (by omega);generalize ps.getD a 0=q at c0 c1;by_cases hap:a<p
      ·have hz:=P3.out a ha1 hap;have h00:((UInt8.toNat 0:Nat):Int)=0:=rfl;rw[hz,h00] at c1;clear hz h00;go_wp2;go_roundg (i-(a+1))
       case measure=>omega
       case rel=>exact⟨a+1,by omega,by omega,rfl,by go_num,rfl⟩
      ·obtain rfl:a=p:=by omega
       have hne:(((en t a k).toNat:Int)==0)=false:=by
        rw[beq_eq_false_iff_ne];intro e;apply P4.out;apply UInt8.toNat_inj.1;rw[show(0:UInt8).toNat=0 from rfl];omega
       have hai:((a:Int)==(i:Int))=false:=by simp;omega
       go_upto_region 22 with fail;have d0:=hM.cellO (i:=a) (by rw[HGL.out];omega);have d1:=hM.cellO (i:=k) (by rw[HGL.out];omega);have fa:=hM.freeO a;have fk:=hM.freeO k
       have i1:(0:Int)<=(a:Int):=by omega
       have i2:(a:Int)<(i:Int):=by omega
       have i3:(0:Int)<=(k:Int):=by omega
       have i4:(k:Int)<(i:Int):=by omega
       have hsw:=hM.swap (a:=a) (k:=k) (by rw[HGL.out];omega) (by rw[HGL.out];omega)
       have hak2:swapL t a a=t->True:=fun _=>trivial
       clear c0 c1;obtain⟨qa,hqa⟩:=zx (ps.getD a 0);obtain⟨qk,hqk⟩:=zx (ps.getD k 0);rw[<-hqa,<-hqk] at hsw;rw[<-hqa] at d0;rw[<-hqk] at d1;have HSW:=zh hsw;have HQA:=zh hqa;have HQK:=zh hqk;have HM0:=zh hM;clear hsw hqa hqk hak2 hM;go_cut [8,9] from 84 to 97 (fun v8 v9 wc=>v8=.int .i64 (k:Int)/\v9=.int .i64 (a:Int)/\MatW wc w.heap.size g (swapQ ps a k) (swapL t a k) m []/\Below w.heap.size w wc)
       case first =>
        by_cases hak:a=k
        ·have hqq:qa=qk:=by rw[HQA.out,HQK.out,hak]
         subst hak;subst hqq;clear d1 fk i3 i4
         go_region
         all_goals
          go_wp2_with fail;go_meet;exact⟨rfl,rfl,HSW.out.drewN 1,((hb.setCell hgw _).setCell hgw _).drew⟩
        ·have hak1:¬k=a:=fun e=>hak e.symm
         go_region
         all_goals
          go_wp2_with fail;go_meet;exact⟨rfl,rfl,HSW.out.drewN 1,((hb.setCell hgw _).setCell hgw _).drew⟩
       case rest =>
        clear HSW HM0 d0 d1 fa fk hb;obtain⟨rfl,rfl,hM,hb⟩:=hcut
        have hsl:(swapL t a k).length=i:=by rw[swapL_length,HGL.out]
        obtain⟨s,hs⟩:=zx (swapL t a k);rw[<-hs] at hM hsl;have HS:=zh hs;have HSL:=zh hsl;generalize swapQ ps a k=rs at *
        have hki:k<s.length:=by omega
        have hrl:=hM.rowlen hki;have HRL:=zh hrl;clear hs;have c0:=hM.cellO hki;have c1:=hM.cellI (j:=k) hki (by omega);obtain⟨q,hq⟩:=zx (rs.getD k 0);rw[<-hq] at c0 c1;have HQ:=zh hq;obtain⟨x,hx⟩:=zx (en s k k);rw[<-hx] at c1;have HX:=zh hx;clear hq hx hsl hki hrl;go_wp2_with fail;refine(inv_any x _).mono ?_;rintro e w' ⟨rfl,rfl⟩;obtain⟨f,hf⟩:=zx (ginv x);rw[<-hf];have HF:=zh hf;clear hf;go_wp2_with fail;go_loopg [114] m (fun z v114 wr=>∃j:Nat,j<=m/\z=m-j/\v114=.int .i64 (j:Int)/\MatW wr w.heap.size g rs (s.set k ((s.getD k []).mapIdx fun i x=>if i<j then gmul x f else x)) m []/\Below w.heap.size w wr)
        case atStart=>exact⟨0,by omega,rfl,rfl,by rw[mapIdx_zero (fun _ x=>gmul x f),set_getD_self];exact hM,hb⟩
        case round =>
         clear c0 c1 hM hb;obtain⟨j,hj,rfl,rfl,hM,hb⟩:=hrel
         have hki:k<(s.set k ((s.getD k []).mapIdx fun i x=>if i<j then gmul x f else x)).length:=by rw[set_length,HSL.out];omega
         have hki0:k<s.length:=by rw[HSL.out];omega
         by_cases hjm:j<m
         ·-- S2{
          have hjr:j<(s.getD k []).length:=by rw[HRL.out];exact hjm
          have c0:=hM.cellO hki;have c2:=hM.cellI (j:=j) hki hjm;have f2:=hM.freeI hki j;have hp:=hM.put (j:=j) hki (gmul ((s.getD k []).getD j 0) f)
          have he:en (s.set k ((s.getD k []).mapIdx fun i x=>if i<j then gmul x f else x)) k j=(s.getD k []).getD j 0:=by
           unfold en;rw[getD_set _ _ _ _ _ hki0,if_pos rfl,getD_mapIdx _ _ 0 0 hjr,if_neg (by omega)]
          have hpp:(s.set k ((s.getD k []).mapIdx fun i x=>if i<j then gmul x f else x)).set k (((s.set k ((s.getD k []).mapIdx fun i x=>if i<j then gmul x f else x)).getD k []).set j (gmul ((s.getD k []).getD j 0) f))=s.set k ((s.getD k []).mapIdx fun i x=>if i<j+1 then gmul x f else x):=by
           rw[getD_set _ _ _ _ _ hki0,if_pos rfl,List.set_set,getD_lt _ 0 hjr,mapIdx_step (fun _ x=>gmul x f) _ _ hjr]
          rw[hpp] at hp;rw[he] at c2;rw[<-HQ.out] at c0 c2 f2 hp;have hbq:=hM.base k hki;rw[<-HQ.out] at hbq;generalize (s.getD k []).getD j 0=y at *;have HP:=zh hp;clear hp hpp he hki hki0 hjr hM;go_wp2_with fail
          go_still_tail 15,(by kernel_rfl)
          still_call (Calls.eqw (mul_any y f _))
          repeat still_step
          refine wpStill_nil ?_
          change wpList _ _ _ _ _ (World.drew _)
          go_wp2;go_roundg (m-(j+1))
          case measure=>omega
          case rel=>exact⟨j+1,by omega,rfl,by go_num,HP.out.drewN 1,(hb.setCell hbq _).drew⟩
         ·obtain rfl:m=j:=by omega
          rw[mapIdx_all (fun _ x=>gmul x f) _ _ (by rw[HRL.out];exact zR _)] at hM
          have hpr:(s.getD k []).mapIdx (fun _ x=>gmul x f)=rowP s k:=by unfold rowP scaleR;rw[HF.out,HX.out]
          rw[hpr] at hM;obtain⟨p,hp⟩:=zx (rowP s k)
          have hpl:p.length=m:=by rw[hp,<-hpr,List.length_mapIdx,HRL.out]
          obtain⟨t5,ht5⟩:=zx (s.set k p);rw[<-hp,<-ht5] at hM
          have ht5l:t5.length=i:=by rw[ht5,set_length,HSL.out]
          have hk5:t5.getD k []=p:=by rw[ht5,getD_set _ _ _ _ _ hki0,if_pos rfl]
          have hend:elimT t5 k p=gaussN (augT A) (k+1):=by rw[HSTEP.out];show _=elimT ((swapL t (piv t k) k).set k (rowP (swapL t (piv t k) k) k)) k (rowP (swapL t (piv t k) k) k);rw[<-HPV.out,<-HS.out,ht5,hp]
          have HPL:=zh hpl;have HT5:=zh ht5l;have HK5:=zh hk5;have HEND:=zh hend;clear hpr hp ht5 ht5l hk5 hend hpl hki hki0 HSTEP HPV HRL HX HF HGL HC0 HC1 P3 P4;go_wp2_with fail;go_loopg [135] i (fun z v135 wr=>∃c:Nat,c<=i/\z=i-c/\v135=.int .i64 (c:Int)/\MatW wr w.heap.size g rs (t5.mapIdx fun i' r=>if i'<c then(if i'=k then r else elimR (r.getD k 0) p r) else r) m []/\Below w.heap.size w wr)
          case atStart=>exact⟨0,by omega,rfl,rfl,by rw[mapIdx_zero (fun i' r=>if i'=k then r else elimR (r.getD k 0) p r)];exact hM,hb⟩
          case round =>
           clear hM hb;obtain⟨c,hc,rfl,rfl,hM,hb⟩:=hrel
           have hul:(t5.mapIdx fun i' r=>if i'<c then(if i'=k then r else elimR (r.getD k 0) p r) else r).length=i:=by rw[List.length_mapIdx,HT5.out]
           by_cases hci:c<i
           ·have hcu:(t5.mapIdx fun i' r=>if i'<c then(if i'=k then r else elimR (r.getD k 0) p r) else r).getD c []=t5.getD c []:=by
             rw[getD_mapIdx _ _ [] [] (by rw[HT5.out];exact hci),if_neg (by omega)]
            have hku:(t5.mapIdx fun i' r=>if i'<c then(if i'=k then r else elimR (r.getD k 0) p r) else r).getD k []=p:=by
             rw[getD_mapIdx _ _ [] [] (by rw[HT5.out];omega),HK5.out];split <;> simp
            have hnext:=mapIdx_step (fun i' r=>if i'=k then r else elimR (r.getD k 0) p r) t5 c (by rw[HT5.out];exact hci);rw[<-getD_lt t5 [] (by rw[HT5.out];exact hci)] at hnext;generalize (t5.mapIdx fun i' r=>if i'<c then(if i'=k then r else elimR (r.getD k 0) p r) else r)=u at *;have hrl:=hM.rowlen (i:=c) (by omega);have c0:=hM.cellO (i:=c) (by omega);have c1:=hM.cellI (i:=c) (j:=k) (by omega) (by omega)
            have hen:en u c k=(t5.getD c []).getD k 0:=by unfold en;rw[hcu]
            rw[hen] at c1;rw[hcu] at hrl;generalize t5.getD c []=row at *;obtain⟨qc,hqc⟩:=zx (rs.getD c 0);rw[<-hqc] at c0 c1;obtain⟨y,hy⟩:=zx (row.getD k 0);rw[<-hy] at c1 hnext;have HQC:=zh hqc;have HUL:=zh hul;have HCU:=zh hcu;have HKU:=zh hku;have HNX:=zh hnext;have HY:=zh hy;have HRW:=zh hrl;clear hqc hul hcu hku hnext hy hrl hen;by_cases hck:c=k
            ·have hb1:((c:Int) != (k:Int))=false:=by simp[hck]
             have hsame:u.set c row=u:=by rw[<-HCU.out,set_getD_self]
             have hn2:=HNX.out;rw[if_pos hck,hsame] at hn2;have HN2:=zh hn2;clear hck hn2 hsame;go_wp2;go_roundg (i-(c+1))
             case measure=>omega
             case rel=>exact⟨c+1,by omega,rfl,by go_num,by rw[<-HN2.out];exact hM,hb⟩
            ·have hb1:((c:Int) != (k:Int))=true:=by simp;omega
             have hn2:=HNX.out;rw[if_neg hck] at hn2;by_cases hy0:y=0
             ·have hb2:((y.toNat:Int) != 0)=false:=by simp[hy0]
              have hsame:u.set c (elimR y p row)=u:=by rw[hy0,elimR_zero,<-HCU.out,set_getD_self]
              rw[hsame] at hn2;have HN2:=zh hn2;clear hck hn2 hsame hy0;go_wp2;go_roundg (i-(c+1))
              case measure=>omega
              case rel=>exact⟨c+1,by omega,rfl,by go_num,by rw[<-HN2.out];exact hM,hb⟩
             ·have hb2:((y.toNat:Int) != 0)=true:=by
               rw[bne_iff_ne];intro e;apply hy0;apply UInt8.toNat_inj.1;rw[show(0:UInt8).toNat=0 from rfl];omega
              have HN2:=zh hn2;have HCK:=zh hck;clear hck hn2 hy0;go_wp2_with fail;go_loopg [157] m (fun z v157 wr=>∃j:Nat,j<=m/\z=m-j/\v157=.int .i64 (j:Int)/\MatW wr w.heap.size g rs (u.set c (row.mapIdx fun i x=>if i<j then x ^^^ gmul y (p.getD i 0) else x)) m []/\Below w.heap.size w wr)
              case atStart=>exact⟨0,by omega,rfl,rfl,by rw[mapIdx_zero (fun i x=>x ^^^ gmul y (p.getD i 0)),<-HCU.out,set_getD_self];exact hM,hb⟩
              case round =>
               clear c0 c1 hM hb;obtain⟨j,hj,rfl,rfl,hM,hb⟩:=hrel
               have hcu0:c<u.length:=by rw[HUL.out];omega
               have hci2:c<(u.set c (row.mapIdx fun i x=>if i<j then x ^^^ gmul y (p.getD i 0) else x)).length:=by rw[set_length];exact hcu0
               have hki2:k<(u.set c (row.mapIdx fun i x=>if i<j then x ^^^ gmul y (p.getD i 0) else x)).length:=by rw[set_length,HUL.out];omega
               by_cases hjm:j<m
               ·have hjr:j<row.length:=by rw[HRW.out];exact hjm
                have c0:=hM.cellO hci2;have ck:=hM.cellO hki2;have c2:=hM.cellI (j:=j) hci2 hjm;have c3:=hM.cellI (j:=j) hki2 hjm;have f2:=hM.freeI hci2 j;have hp:=hM.put (j:=j) hci2 (row.getD j 0 ^^^ gmul y (p.getD j 0))
                have he:en (u.set c (row.mapIdx fun i x=>if i<j then x ^^^ gmul y (p.getD i 0) else x)) c j=row.getD j 0:=by
                 unfold en;rw[getD_set _ _ _ _ _ hcu0,if_pos rfl,getD_mapIdx _ _ 0 0 hjr,if_neg (by omega)]
                have he2:en (u.set c (row.mapIdx fun i x=>if i<j then x ^^^ gmul y (p.getD i 0) else x)) k j=p.getD j 0:=by
                 unfold en;rw[getD_set _ _ _ _ _ hcu0,if_neg (fun e=>HCK.out e.symm),HKU.out]
                have hpp:(u.set c (row.mapIdx fun i x=>if i<j then x ^^^ gmul y (p.getD i 0) else x)).set c (((u.set c (row.mapIdx fun i x=>if i<j then x ^^^ gmul y (p.getD i 0) else x)).getD c []).set j (row.getD j 0 ^^^ gmul y (p.getD j 0)))=u.set c (row.mapIdx fun i x=>if i<j+1 then x ^^^ gmul y (p.getD i 0) else x):=by
                 rw[getD_set _ _ _ _ _ hcu0,if_pos rfl,List.set_set,getD_lt row 0 hjr,mapIdx_step (fun i x=>x ^^^ gmul y (p.getD i 0)) _ _ hjr]
                rw[hpp] at hp;rw[he] at c2;rw[he2] at c3;have hbq:=hM.base c hci2;rw[<-HQC.out] at c0 c2 f2 hp hbq;generalize rs.getD k 0=qk at *;generalize row.getD j 0=z1 at *;generalize p.getD j 0=z2 at *;have HP:=zh hp;clear hp hpp he he2 hci2 hki2 hjr hM hcu0;go_wp2_with fail
                go_still_tail 18,(by kernel_rfl)
                still_call (Calls.eqw (mul_any y z2 _))
                repeat still_step
                refine wpStill_nil ?_
                change wpList _ _ _ _ _ (World.drew _)
                go_wp2;go_roundg (m-(j+1))
                case measure=>omega
                case rel=>exact⟨j+1,by omega,rfl,by go_num,by rw[xor_int];exact HP.out.drewN 1,(hb.setCell hbq _).drew⟩
               ·obtain rfl:m=j:=by omega
                rw[mapIdx_all (fun i x=>x ^^^ gmul y (p.getD i 0)) _ _ (by rw[HRW.out];exact zR _)] at hM;have hM3:MatW wr w.heap.size g rs (u.set c (elimR y p row)) m []:=hM;rw[HN2.out] at hM3;have HM3:=zh hM3;clear hM hM3;go_wp2;go_roundg (i-(c+1))
                case measure=>omega
                case rel=>exact⟨c+1,by omega,rfl,by go_num,HM3.out,hb⟩
           ·obtain rfl:c=i:=by omega
            rw[mapIdx_all (fun i' r=>if i'=k then r else elimR (r.getD k 0) p r) _ _ (by rw[HT5.out];exact zR _)] at hM;go_wp2;go_roundg (c-(k+1))
            case measure=>omega
            case rel =>
             have hM2:MatW wr w.heap.size g rs (elimT t5 k p) m []:=hM;rw[HEND.out] at hM2;exact⟨k+1,rs,by omega,rfl,by go_num,hM2,hb⟩
    ·obtain rfl:i=k:=by omega
     have hmk:=mk_rows i (by omega);have HMW:=zh hM;have HGL:=zh hgl;have hgW:=hM.ltO;clear hM hgl;go_wp2_with fail;obtain⟨wo,rfl⟩:=zx (wr:World);obtain⟨h,hh⟩:=zx wo.heap.size
     have hB1:(wo.alloc (.cells (Array.replicate i (.slice none 0 0)) 72)).heap[h]?=some (.cells (([]:List Value)++List.replicate (i-0) (Value.slice none 0 0)).toArray 72 (0,0)):=by rw[hh,zN];simp
     have hb1:Below h wo (wo.alloc (.cells (Array.replicate i (.slice none 0 0)) 72)):=by rw[hh];exact(zB _ _).alloc (zR _) _
     have hwh:w.heap.size<=h:=by rw[hh];exact hb.size
     have hho:h<=wo.heap.size:=by omega
     have hoh:wo.heap.size<=h:=by omega
     rw[<-hh];clear hh hmk;generalize wo.alloc (.cells (Array.replicate i (.slice none 0 0)) 72)=w2 at *;go_loopg [184] i (fun z v184 wr=>∃(c:Nat) (vs:List Value),c<=i/\z=i - c/\v184=.int .i64 (c:Int)/\vs.length=c/\Hid (wr.heap[h]?=some (.cells (vs++List.replicate (i - c) (Value.slice none 0 0)).toArray 72 (0,0)))/\Hid (∀j,j<c->ByS wr (fun b=>b<wr.heap.size/\b≠h) (vs.getD j undef) ((invT A).getD j []))/\Below h wo wr)
     case atStart=>exact⟨0,[],by omega,rfl,rfl,rfl,hB1,fun j hj=>by omega,hb1⟩
     case round =>
      clear hB1 hb1;obtain⟨c,vs,hc,rfl,rfl,hvl,HB,HV,hbo⟩:=hrel;by_cases hlt2:c<i
      ·have hinv:=invT_getD A c (by rw[<-HN.out];exact hlt2);rw[<-HN.out] at hinv;have hrl:=HMW.out.rowlen (i:=c) (by rw[HGL.out];exact hlt2);have c0:=HMW.out.cellO (i:=c) (by rw[HGL.out];exact hlt2);have hin:=HMW.out.inner c (by rw[HGL.out];exact hlt2);generalize (gaussN (augT A) i).getD c []=row at *;generalize ps.getD c 0=q at *
       have hgh:g<h:=by omega
       have hqh:q<h:=zM hin.lt hoh;have c1:=(hbo.cell (p:=⟨g,c,none⟩) hgh).trans c0
       have hll:(row.drop i).length=i:=by rw[List.length_drop];omega
       have hcells:∀j (hj:j<(row.drop i).length),wr.cell? ⟨q,i+j,none⟩=some (.int .u8 ((row.drop i)[j].toNat:Int)):=by
        intro j hj;rw[hll] at hj;rw[hbo.cell (p:=⟨q,i+j,none⟩) hqh,hin.cell (j:=i+j) (by omega),List.getElem_drop]
       have hll2:(row.drop i).length<=65536:=by omega
       have HLL:=zh hll;have HCE:=zh hcells;have HIN:=zh hinv
       have hmi:m-i=i:=by omega
       have HMI:=zh hmi
       have hrep:List.replicate (i-c) (Value.slice none 0 0)=.slice none 0 0 :: List.replicate (i-(c+1)) (.slice none 0 0):=by
        rw[show i-c=i-(c+1)+1 from by omega,List.replicate_succ]
       have hB:=HB.out;rw[hrep] at hB;have HB2:=zh hB;have HVL:=zh hvl;clear hcells hll hinv hmi hrep hB hvl c0 hrl hin;generalize row.drop i=l at *
       have hml:(i:Int)<=(m:Int):=by omega
       have hil:(i:Int)<(m:Int):=by omega
       go_wp2_with (at_builtin;refine app_copyB (.const (.slice none 0 0)) (.tmp 194) (by rfl) (by rfl) l q i (m-i) (m-i) (by rfl) (by rfl) ?_ ?_ hll2 ?_)
       ·rw[HLL.out,HMI.out]
       ·exact HCE.out
       ·rw[HMI.out];intro A3 c3 w3 hby3 hb3
        have hhw:h<wr.heap.size:=by
         have h1:=HB2.out;rcases Nat.lt_or_ge h wr.heap.size with h2 | h2
         ·exact h2
         ·rw[Array.getElem?_eq_none h2] at h1;cases h1
        have hB3:w3.heap[h]?=some (.cells (vs++(Value.slice none 0 0 :: List.replicate (i-(c+1)) (Value.slice none 0 0))).toArray 72 (0,0)):=(hb3.block h hhw).trans HB2.out
        have c4:w3.cell? ⟨h,c,none⟩=some (.slice none 0 0):=by
         rw[cell_of_row w3 h c _ _ _ hB3,List.getElem?_toArray,List.getElem?_append_right (by rw[HVL.out];exact zR _),HVL.out,Nat.sub_self];rfl
        have f4:=frozen_of_row w3 h c _ _ hB3;have hB4:=heap_setCell_same w3 h c _ _ (.slice A3 i c3) hB3;have hsz3:=hb3.size;have HB4:=zh hB4;have hbo3:Below h wo (w3.setCell ⟨h,c,none⟩ (.slice A3 i c3)):=(hbo.trans (hb3.mono (by omega))).setCell (by simp) _
        have hkp:∀b,b<wr.heap.size->b≠h->(w3.setCell ⟨h,c,none⟩ (.slice A3 i c3)).heap[b]?=wr.heap[b]?:=fun b hb1 hb2=>(heap_setCell_other w3 ⟨h,c,none⟩ b _ hb2).trans (hb3.block b hb1)
        have hkp3:∀b,b≠h->(w3.setCell ⟨h,c,none⟩ (.slice A3 i c3)).heap[b]?=w3.heap[b]?:=fun b hb2=>heap_setCell_other w3 ⟨h,c,none⟩ b _ hb2
        have hs4:(w3.setCell ⟨h,c,none⟩ (.slice A3 i c3)).heap.size=w3.heap.size:=by simp
        have HKP:=zh hkp;have HKP3:=zh hkp3;have HS4:=zh hs4;clear hB3 hB4 hkp hkp3 hs4;go_wp2;go_roundg (i-(c+1))
        case measure=>omega
        case rel =>
         refine⟨c+1,vs++[.slice A3 i c3],by omega,rfl,by go_num,by rw[zP,HVL.out];rfl,?_,?_,hbo3⟩
         ·have h1:=HB4.out;rw[snoc_set vs _ _ _ c HVL.out] at h1;exact h1
         ·intro j hj;by_cases hjc:j<c
          ·have h1:=(HV.out j hjc).keep (w':=w3.setCell ⟨h,c,none⟩ (.slice A3 i c3)) (fun b hb=>HKP.out b hb.1 hb.2);rw[getD_append_lt _ _ _ (by rw[HVL.out];exact hjc)];exact h1.mono (fun b hb=>⟨by rw[HS4.out];exact zM hb.1 hsz3,hb.2⟩)
          ·have hje:j=c:=by omega
           rw[hje,getD_last _ _ _ _ HVL.out,HIN.out];have h1:=hby3.keep (w':=w3.setCell ⟨h,c,none⟩ (.slice A3 i c3)) (fun b hb=>HKP3.out b (by omega));exact h1.mono (fun b hb=>⟨by rw[HS4.out];exact hb.2,by omega⟩)
      ·have hcI:Hid (c=i):=(by omega:c=i);go_wp2;go_ret2;have e:=hcI.out;subst e
       have hil:(invT A).length=c:=by rw[invT_length,<-HN.out]
       refine⟨_,rfl,?_,hb.trans (hbo.mono hwh)⟩;refine⟨some ⟨h,0,none⟩,c,by rw[hil];rfl,by rw[hil];exact zR _,by rw[hil];unfold maxLen;omega,fun _=>⟨h,0,rfl,?_,fun j r hj=>?_⟩⟩
       ·show h<wr.heap.size
        have h1:=HB.out;rcases Nat.lt_or_ge h wr.heap.size with h2 | h2
        ·exact h2
        ·rw[Array.getElem?_eq_none h2] at h1;cases h1
       ·have hjl:j<(invT A).length:=(zL.1 hj).1;have hjr:(invT A)[j]=r:=(zL.1 hj).2;have h1:=HV.out j (by omega);rw[getD_lt _ _ hjl,hjr] at h1;refine⟨vs.getD j undef,?_,h1.mono (fun b hb=>hb.1)⟩;rw[Nat.zero_add,cell_of_row wr h j _ _ _ HB.out,List.getElem?_toArray,List.getElem?_append_left (by omega),zG (by omega),getD_lt _ _ (by omega)]
def rowC(q m c:Nat):Value:=.slice (some ⟨q,0,none⟩) m c
theorem own_lt{W:World}{B:Nat}{e:TypeId}{q n m c:Nat}{xs:List Value}(h:W.ownsRow B e 1 (rowC q n c) m xs):B<=q/\q<W.heap.size:=h.lt q rfl
theorem grown_of_below{W W':World}(hb:Below W.heap.size W W'):W.grownBy W' none:=⟨hb.os,hb.tape,hb.output,hb.size,fun k hk _=>hb.block k hk⟩
theorem own_below{w w2:World}{base:Nat}{e:TypeId}{size:Nat}{v:Value}{n:Nat}{xs:List Value}(h:w.ownsRow base e size v n xs)(hb:Below w.heap.size w w2):w2.ownsRow base e size v n xs:=by
 refine h.kept (w':=w2) (row:=none) (grown_of_below hb) ?_
 cases hv:v.ownBlock with
 | none=>exact .inl rfl
 | some g=>exact .inr (by simp)
theorem own_base{W:World}{B B':Nat}{e:TypeId}{s n:Nat}{v:Value}{xs:List Value}(h:W.ownsRow B e s v n xs)(hB:B'<=B):W.ownsRow B' e s v n xs:=by
 refine⟨h.1,?_⟩;rcases h.2 with h1 | ⟨g,cap,cur,h1,h2,h3⟩
 ·exact .inl h1
 ·exact .inr ⟨g,cap,cur,h1,by omega,h3⟩
theorem app_row{ops:Array Oper}{rest:List Oper}{o:Oper}{a:Act}{Q:Exit->Act->World->Prop}{w:World}{x0:Value}(s x:Operand)(hgd:o.guard=none)(ho:o.op=.call { callee:=.builtin .append,args:=#[s,x],argTypes:=#[127,127] })
  (base:Nat) (v:Value) (n:Nat) (xs:List Value) (hs:a.eval s=v) (hown:w.ownsRow base 72 1 v n xs)
  (hx:a.eval x=.slice (some ⟨w.heap.size,0,none⟩) 1 1) (h1:x0.oneCell'=true) (hn:n+1<=16777216) (hbase:base<=w.heap.size)
  (h:∀v' w',w'.ownsRow base 72 1 v' (n+1) (xs++[x0])->w.grownBy w' v.ownBlock->(v'.ownBlock=v.ownBlock\/v'.ownBlock=some (w.heap.size+1))->wpList Tryz.prog ops Q rest (a.put o.dst v') w') :
  wpList Tryz.prog ops Q (o :: rest) a (w.alloc (.cells #[x0] 72)):=by
 obtain⟨i0,hi0,hz0,hz1,hz2⟩:=info_parts info_row;exact wpList_append1 hgd s x _ ho base i0 _ 1 24 Tryz.underlying127 hi0 hz0 hz1 hz2 rfl (by omega) (by omega) v n xs hs hown hx rfl (by simpa using h1) hn hbase h
def codeB(k m:Int):Bool:=decide (1<=k)&&decide (k<=6)&&decide (0<=m)&&decide (m<=4)&&decide (k+m<=8)
theorem codeB_iff(k m:Int):codeB k m=true↔1<=k/\k<=6/\0<=m/\m<=4/\k+m<=8:=by simp[codeB];omega
theorem codeB_no{k m:Int}(h:¬(1<=k/\k<=6/\0<=m/\m<=4/\k+m<=8)):codeB k m=false:=by
 cases e:codeB k m with
 | false=>rfl
 | true=>exact absurd ((codeB_iff k m).1 e) h
theorem codeB_yes{k m:Int}(h:1<=k/\k<=6/\0<=m/\m<=4/\k+m<=8):codeB k m=true:=(codeB_iff k m).2 h
theorem rcode_any(k m:Int)(w:World)(hk:I64 k)(hm:I64 m) :
  Calls Tryz.prog 32 #[.int .i64 k,.int .i64 m] w fun e w'=>e=.returned (.bool (codeB k m))/\w=w':=by
 obtain⟨k0,k1⟩:=hk;obtain⟨m0,m1⟩:=hm;by_cases h1:1<=k
 ·by_cases h2:k<=6
  ·by_cases h3:0<=m
   ·by_cases h4:m<=4
    ·by_cases h5:k+m<=8
     ·rw[codeB_yes ⟨h1,h2,h3,h4,h5⟩];go_enter Tryz.func32,Tryz.ntmps32;go_wp2;go_ret;exact⟨rfl,rfl⟩
     ·rw[codeB_no (fun h=>h5 h.2.2.2.2)];go_enter Tryz.func32,Tryz.ntmps32;go_wp2;go_ret;exact⟨rfl,rfl⟩
    ·rw[codeB_no (fun h=>h4 h.2.2.2.1)];go_enter Tryz.func32,Tryz.ntmps32;go_wp2;go_ret;exact⟨rfl,rfl⟩
   ·rw[codeB_no (fun h=>h3 h.2.2.1)];go_enter Tryz.func32,Tryz.ntmps32;go_wp2;go_ret;exact⟨rfl,rfl⟩
  ·rw[codeB_no (fun h=>h2 h.2.1)];go_enter Tryz.func32,Tryz.ntmps32;go_wp2;go_ret;exact⟨rfl,rfl⟩
 ·rw[codeB_no (fun h=>h1 h.1)];go_enter Tryz.func32,Tryz.ntmps32;go_wp2;go_ret;exact⟨rfl,rfl⟩
theorem ecode_any(k m:Int)(w:World)(hk:I64 k)(hm:I64 m) :
  Calls Tryz.prog 117 #[.int .i64 k,.int .i64 m] w fun e w'=>e=.returned (.bool (codeB k m))/\w=w':=by
 obtain⟨k0,k1⟩:=hk;obtain⟨m0,m1⟩:=hm;by_cases h1:1<=k
 ·by_cases h2:k<=6
  ·by_cases h3:0<=m
   ·by_cases h4:m<=4
    ·by_cases h5:k+m<=8
     ·rw[codeB_yes ⟨h1,h2,h3,h4,h5⟩];go_enter Tryz.func117,Tryz.ntmps117;go_wp2;go_ret;exact⟨rfl,rfl⟩
     ·rw[codeB_no (fun h=>h5 h.2.2.2.2)];go_enter Tryz.func117,Tryz.ntmps117;go_wp2;go_ret;exact⟨rfl,rfl⟩
    ·rw[codeB_no (fun h=>h4 h.2.2.2.1)];go_enter Tryz.func117,Tryz.ntmps117;go_wp2;go_ret;exact⟨rfl,rfl⟩
   ·rw[codeB_no (fun h=>h3 h.2.2.1)];go_enter Tryz.func117,Tryz.ntmps117;go_wp2;go_ret;exact⟨rfl,rfl⟩
  ·rw[codeB_no (fun h=>h2 h.2.1)];go_enter Tryz.func117,Tryz.ntmps117;go_wp2;go_ret;exact⟨rfl,rfl⟩
 ·rw[codeB_no (fun h=>h1 h.1)];go_enter Tryz.func117,Tryz.ntmps117;go_wp2;go_ret;exact⟨rfl,rfl⟩
theorem r07code_any(k m:Int)(w:World)(hk:I64 k)(hm:I64 m) :
  Calls Tryz.prog 147 #[.int .i64 k,.int .i64 m] w fun e w'=>e=.returned (.bool (codeB k m))/\w=w':=by
 obtain⟨k0,k1⟩:=hk;obtain⟨m0,m1⟩:=hm;by_cases h1:1<=k
 ·by_cases h2:k<=6
  ·by_cases h3:0<=m
   ·by_cases h4:m<=4
    ·by_cases h5:k+m<=8
     ·rw[codeB_yes ⟨h1,h2,h3,h4,h5⟩];go_enter Tryz.func147,Tryz.ntmps147;go_wp2;go_ret;exact⟨rfl,rfl⟩
     ·rw[codeB_no (fun h=>h5 h.2.2.2.2)];go_enter Tryz.func147,Tryz.ntmps147;go_wp2;go_ret;exact⟨rfl,rfl⟩
    ·rw[codeB_no (fun h=>h4 h.2.2.2.1)];go_enter Tryz.func147,Tryz.ntmps147;go_wp2;go_ret;exact⟨rfl,rfl⟩
   ·rw[codeB_no (fun h=>h3 h.2.2.1)];go_enter Tryz.func147,Tryz.ntmps147;go_wp2;go_ret;exact⟨rfl,rfl⟩
  ·rw[codeB_no (fun h=>h2 h.2.1)];go_enter Tryz.func147,Tryz.ntmps147;go_wp2;go_ret;exact⟨rfl,rfl⟩
 ·rw[codeB_no (fun h=>h1 h.1)];go_enter Tryz.func147,Tryz.ntmps147;go_wp2;go_ret;exact⟨rfl,rfl⟩
def levelB(t:Mat):Bool:=t.all fun r=>r.length==(t.getD 0 []).length
theorem levelB_yes{t:Mat}{m:Nat}(h:Wide t m):levelB t=true:=by
 unfold levelB;rw[List.all_eq_true];intro r hr;have h1:=h r hr;have h0:0<t.length:=List.length_pos_of_mem hr;have h2:(t.getD 0 []).length=m:=h.getD h0;rw[h1,h2];simp
theorem levelB_wide{t:Mat}(h:levelB t=true):Wide t (t.getD 0 []).length:=by
 unfold levelB at h;rw[List.all_eq_true] at h;intro r hr
 simpa using h r hr
theorem level_any(vt:Value)(t:Mat)(w:World)(ht:MatS w (Bl w.heap.size) vt t) :
  Calls Tryz.prog 118 #[vt] w fun e w'=>e=.returned (.bool (levelB t))/\w=w':=by
 obtain⟨At,ct,rfl,hct,hmt⟩:=ht.form;unfold maxLen at hmt;go_enter Tryz.func118,Tryz.ntmps118;go_wp2
 go_loop [7] (fun v7=>∃j:Nat,j<=t.length/\v7=.int .i64 (j:Int)/\Hid (∀i (h:i<t.length),i<j->t[i].length=(t.getD 0 []).length)) (fun v7=>t.length-(intOf v7).toNat)
 case atStart=>exact⟨0,by omega,rfl,fun i _ h=>by omega⟩
 case round =>
  obtain⟨j,hj,rfl,HQ⟩:=hrel;by_cases hlt:j<t.length
  ·obtain⟨b,o,va,rfl,hR,c1,hva⟩:=ht.at_ hlt;obtain⟨b0,o0,v0,hA0,hR0,c0,hv0⟩:=ht.at_ (k:=0) (by omega)
   obtain⟨rfl,rfl⟩:b=b0/\o=o0:=by injection hA0 with h;injection h with h1 h2;exact⟨h1,h2⟩
   obtain⟨A1,c1',rfl,-,hm1⟩:=hva.form;obtain⟨A2,c2',rfl,-,hm2⟩:=hv0.form;unfold maxLen at hm1 hm2;have h0:=congrArg List.length (getD_lt t [] (i:=0) (by omega));rw[Nat.add_zero] at c0;obtain⟨q,hq⟩:=zx (t[j].length);obtain⟨p,hp⟩:=zx ((t[0]'(by omega)).length);rw[<-hq] at c1 hm1;rw[<-hp] at c0 hm2 h0;have HP:=zh h0;have HQJ:=zh hq;clear hA0 h0 hq hp hva hv0;by_cases hqp:q=p
   ·have e1:((q:Int) != (p:Int))=false:=by simp[hqp]
    have HE:=zh hqp;clear hqp;go_wp2
    exact⟨⟨j+1,by omega,by go_num,fun i hi h=>by
     by_cases e:i=j
     ·subst e;rw[HP.out,<-HQJ.out,HE.out]
     ·exact HQ.out i hi (by omega)⟩,by simp[intOf];omega⟩
   ·have e1:((q:Int) != (p:Int))=true:=by simp;omega
    have hno:levelB t=false:=by
     cases e:levelB t with
     | false=>rfl
     | true =>
      have h:=levelB_wide e _ (List.getElem_mem hlt);rw[HP.out,<-HQJ.out] at h;exact absurd h hqp
    have HNO:=zh hno;clear hqp hno;go_wp2;go_ret;rw[HNO.out];exact⟨rfl,rfl⟩
  ·have hyes:levelB t=true:=levelB_yes (m:=(t.getD 0 []).length) fun r hr=>by
    obtain⟨i,hi,rfl⟩:=List.getElem_of_mem hr;exact HQ.out i hi (by omega)
   have HY:=zh hyes;clear hyes;go_wp2;go_ret;rw[HY.out];exact⟨rfl,rfl⟩
def wordT(k n:Nat)(d:Mat)(m:Nat):Mat:=(List.range n).map fun a=>combT (coefR k a) d m
theorem wordT_length(k n:Nat)(d:Mat)(m:Nat):(wordT k n d m).length=n:=by simp[wordT]
theorem wordT_wide(k n:Nat)(d:Mat)(m:Nat):Wide (wordT k n d m) m:=by
 intro r hr;simp only[wordT,List.mem_map] at hr;obtain⟨a,-,rfl⟩:=hr;exact combT_length _ _ _
def OwnM(w:World)(base:Nat)(v:Value)(t:Mat):Prop:=∃xs,w.ownsRow base 72 1 v t.length xs/\∀j,j<t.length->ByS w (fun b=>b<w.heap.size/\v.ownBlock≠some b) (xs.getD j undef) (t.getD j [])
theorem OwnM.form{w:World}{base:Nat}{v:Value}{t:Mat}(h:OwnM w base v t):∃A c,v=.slice A t.length c:=by
 obtain⟨xs,ho,-⟩:=h;exact own_form ho
theorem OwnM.below{w w2:World}{base:Nat}{v:Value}{t:Mat}(h:OwnM w base v t)(hb:Below w.heap.size w w2):OwnM w2 base v t:=by
 obtain⟨xs,ho,hc⟩:=h;exact⟨xs,own_below ho hb,fun j hj=>((hc j hj).keep (fun b hbb=>hb.block b hbb.1)).mono (fun b hbb=>⟨zM hbb.1 hb.size,hbb.2⟩)⟩
theorem OwnM.matS{w:World}{base:Nat}{v:Value}{t:Mat}(h:OwnM w base v t):MatS w (Bl w.heap.size) v t:=by
 obtain⟨xs,ho,hc⟩:=h
 have hxl:xs.length=t.length:=by have:=ho.1;omega
 rcases ho.2 with ⟨rfl,h0⟩ | ⟨g,cap,cur,rfl,hg0,hg1,h2,h3,hg2⟩
 ·unfold MatS;rw[h0];exact Row.nil _ _ _
 ·have ho':w.ownsRow base 72 1 (rowC g t.length cap) t.length xs:=ho;refine⟨_,cap,rfl,h2,Nat.le_trans h2 h3,fun _=>⟨g,0,rfl,(own_lt ho').2,fun k r hk=>?_⟩⟩;have hj:k<t.length:=(zL.1 hk).1;have hx:t[k]=r:=(zL.1 hk).2;have h1:=hc k hj;rw[getD_lt t [] hj,hx] at h1;refine⟨xs.getD k undef,?_,h1.mono (fun b hb=>hb.1)⟩;rw[Nat.zero_add,ho.cellAt k (by omega),zG (by omega),getD_lt _ _ (by omega)]
theorem OwnM.push{w w':World}{base:Nat}{v v' va:Value}{t:Mat}{r:List UInt8}{xs:List Value}(ho:w.ownsRow base 72 1 v t.length xs)(hc:∀j,j<t.length->ByS w (fun b=>b<w.heap.size/\v.ownBlock≠some b) (xs.getD j undef) (t.getD j []))
  (ha:ByS w (fun b=>b<w.heap.size/\v.ownBlock≠some b) va r)
  (ho':w'.ownsRow base 72 1 v' (t.length+1) (xs++[va])) (hg:w.grownBy w' v.ownBlock) (hat:v'.ownBlock=v.ownBlock\/v'.ownBlock=some (w.heap.size+1)):OwnM w' base v' (t++[r]):=by
 have hxl:xs.length=t.length:=by have:=ho.1;omega
 have hR:∀b,(b<w.heap.size/\v.ownBlock≠some b)->(b<w'.heap.size/\v'.ownBlock≠some b):=fun b hb=>⟨zM hb.1 hg.size,by
  rcases hat with e | e
  ·rw[e];exact hb.2
  ·rw[e];intro e2;injection e2 with e2;have:=hb.1;omega⟩
 have hkp:Kept (fun b=>b<w.heap.size/\v.ownBlock≠some b) w w':=fun b hb=>hg.block b hb.1 (fun e=>hb.2 e.symm)
 refine⟨xs++[va],by rw[zP];exact ho',fun j hj=>?_⟩;rw[zP,List.length_singleton] at hj;by_cases h1:j<t.length
 ·rw[getD_append_lt _ _ _ (by omega),getD_append_lt _ _ _ h1];exact((hc j h1).keep hkp).mono hR
 ·have h2:j=t.length:=by omega
  rw[h2,getD_last _ _ _ _ hxl,getD_last _ _ _ _ rfl];exact(ha.keep hkp).mono hR
theorem wordT_succ(k a:Nat)(d:Mat)(m:Nat):wordT k (a+1) d m=wordT k a d m++[combT (coefR k a) d m]:=by simp[wordT,List.range_succ]
theorem Fr.sub{w:World}{B n:Nat}{v:Value}{b:Nat}(hb:Fr B n b)(ho:∀k,v.ownBlock=some k->k<B):v.ownBlock≠some b:=fun e=>by have:=ho b e;have:=hb.1;omega
theorem word_any(k n:Nat)(vd:Value)(d:Mat)(m:Nat)(w:World)(hk:d.length=k)(h0:0<k)(hk6:k<=32)(hn:n<=32)(hd:MatS w (Bl w.heap.size) vd d)(hw:Wide d m)(hm:m<=65536) :
  Calls Tryz.prog 119 #[.int .i64 (k:Int),.int .i64 (n:Int),vd] w fun e w'=>∃v,e=.returned v/\MatS w' (Bl w'.heap.size) v (wordT k (k+n) d m)/\Below w.heap.size w w':=by
 obtain⟨i0,hi0,hz0,hz1,hz2⟩:=info_parts info_row;obtain⟨w1,hrun,hown1,hgr1⟩:=run_makeSlice_owned (P:=Tryz.prog) w w.heap.size 127 72 i0 _ 1 Tryz.underlying127 hi0 hz0 hz1 .i64 .i64 (k+n) (by omega) (by rw[hz2];omega) (by unfold maxLen;omega) (zR _);have hb1:Below w.heap.size w w1:=⟨hgr1.os,hgr1.tape,hgr1.output,hgr1.size,fun i hi=>hgr1.block i hi (by simp)⟩
 have ekn:((k+n:Nat):Int)=(k:Int)+(n:Int):=by omega
 rw[ekn] at hrun;have HK:=zh hk;clear hgr1 hk ekn;go_enter Tryz.func119,Tryz.ntmps119;go_wp2;go_loopg [7,8] (k+n) (fun z v7 v8 wr=>∃a:Nat,a<=k+n/\z=k+n-a/\v8=.int .i64 (a:Int)/\OwnM wr w.heap.size v7 (wordT k a d m)/\Below w.heap.size w wr)
 case atStart=>exact⟨0,by omega,rfl,rfl,⟨[],by rw[wordT_length];exact hown1,fun j hj=>by rw[wordT_length] at hj;omega⟩,hb1⟩
 case round =>
  clear hown1 hb1 hrun;obtain⟨a,ha,rfl,rfl,hO,hb⟩:=hrel;have hsz:=hb.size;obtain⟨A7,c7,hv7⟩:=hO.form;rw[wordT_length] at hv7;subst hv7;by_cases hlt:a<k+n
  ·have hlt2:(a:Int)<(k:Int)+(n:Int):=by omega
   go_wp2_with fail;refine(coefficients_any k a wr (by omega) (by omega)).mono ?_;rintro e w2 ⟨vc,rfl,hvc,hb2⟩;have hd2:=(hd.below hb).below hb2;obtain⟨Ac,cc,hvc2,-,-⟩:=hvc.form;rw[coefR_length] at hvc2;subst hvc2;have hcb:=combine_any _ _ _ _ m w2 (hvc.mono Fr.bl) hd2 (by rw[coefR_length,HK.out]) (by rw[HK.out];exact h0) (by rw[HK.out];omega) hw hm;have HCB:=zh hcb;clear hcb hd2 hvc;go_wp2_with fail;refine HCB.out.mono ?_;rintro e w3 ⟨v3,rfl,hv3,hb3⟩;have hO3:=(hO.below hb2).below hb3;have hb13:=hb2.trans (hb3.mono hb2.size);obtain⟨A3,c3,hv32,-,-⟩:=hv3.form;rw[combT_length] at hv32;subst hv32;obtain⟨xs,ho3,hc3⟩:=hO3;obtain⟨xs0,ho0,-⟩:=hO;have hown0:=ho0.lt;have hsz3:=Nat.le_trans hsz hb13.size;rw[wordT_length] at ho3;have hone:(Value.slice A3 m c3).oneCell'=true:=rfl;clear ho0 xs0;go_wp2_with (at_builtin;refine app_row (.tmp 30) (.tmp 32) rfl rfl _ _ _ _ (by rfl) ho3 (by rfl) hone (by omega) hsz3 ?_;intro v' w4 hown' hg hat);go_roundg (k+n-(a+1))
   case measure=>omega
   case rel =>
    refine⟨a+1,by omega,rfl,by go_num,?_,(hb.trans (hb13.mono hsz)).grown hg hsz3 (fun b h=>(ho3.lt b h).1)⟩;rw[wordT_succ];refine OwnM.push (by rw[wordT_length];exact ho3) hc3 (hv3.mono (fun b hb=>⟨hb.2,Fr.sub (w:=w3) hb (fun q hq=>zM (hown0 q hq).2 hb2.size)⟩)) (by rw[wordT_length];exact hown') hg hat
  ·have haI:Hid (a=k+n):=(by omega:a=k+n)
   have hlt2:¬(a:Int)<(k:Int)+(n:Int):=by omega
   go_wp2;go_ret;have h:=hO.matS;rw[haI.out] at h;exact⟨_,rfl,by rw[haI.out];exact h,hb⟩
structure Frg where
 idx:Int
 data:List UInt8
def FragAt(w:World)(R:Nat->Prop)(hs:List Frg)(b off:Nat):Prop :=
 ∀k h,hs[k]?=some h->∃va,w.cell? ⟨b,off+k*2,none⟩=some (.int .i64 h.idx)/\w.cell? ⟨b,off+k*2+1,none⟩=some va/\ByS w R va h.data
def FragS(w:World)(R:Nat->Prop)(v:Value)(hs:List Frg):Prop:=Row R v hs.length (FragAt w R hs)/\∀h∈hs,I64 h.idx
theorem FragS.keep{w w':World}{R:Nat->Prop}{v:Value}{hs:List Frg}(h:FragS w R v hs)(hk:Kept R w w'):FragS w' R v hs :=
 ⟨h.1.imp (fun _ hb=>hb) fun b off hb hc k r hr=>by
  obtain⟨va,h1,h2,h3⟩:=hc k r hr
  exact⟨va,(hk.cell hb).trans h1,(hk.cell hb).trans h2,h3.keep hk⟩,h.2⟩
theorem FragS.mono{w:World}{R R':Nat->Prop}{v:Value}{hs:List Frg}(h:FragS w R v hs)(hr:∀b,R b->R' b):FragS w R' v hs :=
 ⟨h.1.imp hr fun b off _ hc k r hk=>by
  obtain⟨va,h1,h2,h3⟩:=hc k r hk
  exact⟨va,h1,h2,h3.mono hr⟩,h.2⟩
theorem FragS.below{w w':World}{v:Value}{hs:List Frg}(h:FragS w (Bl w.heap.size) v hs)(hb:Below w.heap.size w w'):FragS w' (Bl w'.heap.size) v hs:=(h.keep (kept_below hb)).mono (Bl.mono hb.size)
theorem FragS.form{w:World}{R:Nat->Prop}{v:Value}{hs:List Frg}(h:FragS w R v hs):∃A c,v=.slice A hs.length c/\hs.length<=c/\hs.length<=maxLen:=by
 obtain⟨⟨A',c',e,h1,h2,h3⟩,h4⟩:=h;exact⟨A',c',e,h1,h2⟩
theorem FragS.at_{w:World}{R:Nat->Prop}{A:Option Addr}{n c:Nat}{hs:List Frg}(h:FragS w R (.slice A n c) hs){k:Nat}(hk:k<hs.length) :
  ∃b off va,A=some ⟨b,off,none⟩/\R b/\w.cell? ⟨b,off+k*2,none⟩=some (.int .i64 hs[k].idx)/\w.cell? ⟨b,off+k*2+1,none⟩=some va/\ByS w R va hs[k].data/\I64 hs[k].idx:=by
 obtain⟨⟨A',c',e,_,_,h3⟩,h4⟩:=h;obtain⟨b,off,e2,hb,hc⟩:=h3 (by omega);obtain⟨va,g1,g2,g3⟩:=hc k hs[k] (zG hk);injection e with e;exact⟨b,off,va,e.trans e2,hb,g1,g2,g3,h4 _ (List.getElem_mem hk)⟩
def outB(n:Int)(h:Frg):Bool:=decide (h.idx<0)||decide (n<=h.idx)
def idxBad(n:Int)(hs:List Frg):Bool:=hs.any (outB n)
def idxL(hs:List Frg):List Nat:=hs.map fun h=>h.idx.toNat
def dupB(hs:List Frg):Bool:=!decide (idxL hs).Nodup
def datas(hs:List Frg):Mat:=hs.map (·.data)
def rowLen(hs:List Frg):Nat:=((datas hs).getD 0 []).length
def matK(k:Nat)(hs:List Frg):Mat:=((idxL hs).take k).map (coefR k)
def decD(k:Nat)(hs:List Frg):Mat:=(List.range k).map fun i=>combT ((invT (matK k hs)).getD i []) ((datas hs).take k) (rowLen hs)
def okW(k n:Nat)(hs:List Frg):Bool:=hs.all fun h=>(wordT k n (decD k hs) (rowLen hs)).getD h.idx.toNat []==h.data
def decE(k m:Int)(hs:List Frg):Int :=
 if codeB k m=false then 1 else if idxBad (k+m) hs=true then 1 else if dupB hs=true then 8 else if(hs.length:Int)<k then 10
 else if levelB (datas hs)=false then 11 else if okW k.toNat (k+m).toNat hs=false then 11 else 0
theorem decD_length(k:Nat)(hs:List Frg):(decD k hs).length=k:=by simp[decD]
theorem decD_wide(k:Nat)(hs:List Frg):Wide (decD k hs) (rowLen hs):=by
 intro r hr;simp only[decD,List.mem_map] at hr;obtain⟨a,-,rfl⟩:=hr;exact combT_length _ _ _
theorem datas_length(hs:List Frg):(datas hs).length=hs.length:=by simp[datas]
theorem idxL_length(hs:List Frg):(idxL hs).length=hs.length:=by simp[idxL]
theorem datas_getElem(hs:List Frg)(i:Nat)(h:i<hs.length):(datas hs)[i]'(by rw[datas_length];exact h)=hs[i].data:=by simp[datas]
theorem idx_in{n:Int}{hs:List Frg}(h:idxBad n hs=false):∀i (hi:i<hs.length),0<=hs[i].idx/\hs[i].idx<n:=by
 intro i hi;unfold idxBad at h;have:=List.any_eq_false.1 h hs[i] (List.getElem_mem hi);simp[outB] at this;omega
theorem matK_length{k:Nat}{hs:List Frg}(h:k<=hs.length):(matK k hs).length=k:=by simp[matK,idxL_length];omega
theorem matK_wide(k:Nat)(hs:List Frg):Wide (matK k hs) k:=by
 intro r hr;simp only[matK,List.mem_map] at hr;obtain⟨a,-,rfl⟩:=hr;exact coefR_length _ _
theorem matK_getD{k:Nat}{hs:List Frg}(h:k<=hs.length)(i:Nat)(hi:i<k):(matK k hs).getD i []=coefR k (hs[i]'(by omega)).idx.toNat:=by
 rw[getD_lt _ _ (by rw[matK_length h];exact hi)];simp[matK,idxL]
theorem matK_inj{k m:Int}{hs:List Frg}(hc:codeB k m=true)(hi:idxBad (k+m) hs=false)(hd:dupB hs=false)(hl:¬(hs.length:Int)<k):Inj (matK k.toNat hs):=by
 have hk:=(codeB_iff k m).1 hc
 have hn:(idxL hs).Nodup:=by simpa[dupB] using hd
 refine coef_inj k.toNat _ (by omega) (by rw[List.length_take,idxL_length];omega) (hn.sublist (List.take_sublist _ _)) fun a ha=>?_
 have ha2:=List.mem_of_mem_take ha;simp only[idxL,List.mem_map] at ha2;obtain⟨h,hh,rfl⟩:=ha2;obtain⟨i,hi2,rfl⟩:=List.getElem_of_mem hh;have:=idx_in hi i hi2;omega
theorem decE_code{k m:Int}{hs:List Frg}(h:codeB k m=false):decE k m hs=1:=by unfold decE;rw[if_pos h]
theorem decE_idx{k m:Int}{hs:List Frg}(h:codeB k m=true)(h2:idxBad (k+m) hs=true):decE k m hs=1:=by unfold decE;rw[if_neg (by simp[h]),if_pos h2]
theorem decE_dup{k m:Int}{hs:List Frg}(h:codeB k m=true)(h2:idxBad (k+m) hs=false)(h3:dupB hs=true):decE k m hs=8:=by unfold decE;rw[if_neg (by simp[h]),if_neg (by simp[h2]),if_pos h3]
theorem decE_short{k m:Int}{hs:List Frg}(h:codeB k m=true)(h2:idxBad (k+m) hs=false)(h3:dupB hs=false)(h4:(hs.length:Int)<k):decE k m hs=10:=by unfold decE;rw[if_neg (by simp[h]),if_neg (by simp[h2]),if_neg (by simp[h3]),if_pos h4]
theorem decE_level{k m:Int}{hs:List Frg}(h:codeB k m=true)(h2:idxBad (k+m) hs=false)(h3:dupB hs=false)(h4:¬(hs.length:Int)<k)(h5:levelB (datas hs)=false):decE k m hs=11:=by unfold decE;rw[if_neg (by simp[h]),if_neg (by simp[h2]),if_neg (by simp[h3]),if_neg h4,if_pos h5]
theorem decE_word{k m:Int}{hs:List Frg}(h:codeB k m=true)(h2:idxBad (k+m) hs=false)(h3:dupB hs=false)(h4:¬(hs.length:Int)<k)(h5:levelB (datas hs)=true)(h6:okW k.toNat (k+m).toNat hs=false):decE k m hs=11:=by unfold decE;rw[if_neg (by simp[h]),if_neg (by simp[h2]),if_neg (by simp[h3]),if_neg h4,if_neg (by simp[h5]),if_pos h6]
theorem decE_ok{k m:Int}{hs:List Frg}(h:codeB k m=true)(h2:idxBad (k+m) hs=false)(h3:dupB hs=false)(h4:¬(hs.length:Int)<k)(h5:levelB (datas hs)=true)(h6:okW k.toNat (k+m).toNat hs=true):decE k m hs=0:=by unfold decE;rw[if_neg (by simp[h]),if_neg (by simp[h2]),if_neg (by simp[h3]),if_neg h4,if_neg (by simp[h5]),if_neg (by simp[h6])]
theorem info_bool:(Tryz.prog.info? 4).map (fun i=>(i.zero,i.size,i.bytes))=some (some (.bool false),1,1):=by kernel_rfl
theorem mk_bools(n:Nat)(hn:n<=1048576):∀w:World,(Instr.makeSlice 158 (.int .i64 (n:Int)) (.int .i64 (n:Int))).run Tryz.prog w=.ok (.slice (some ⟨w.heap.size,0,none⟩) n n) (w.alloc (.cells (Array.replicate n (.bool false)) 4)):=by
 intro w;obtain⟨i0,hi0,hz0,hz1,hz2⟩:=info_parts info_bool;have h:=run_make (P:=Tryz.prog) w 158 4 i0 _ Tryz.underlying158 hi0 hz0 .i64 .i64 (n:Int) (n:Int) (by omega) (by omega) (by rw[hz2];omega) (by omega);rw[hz1] at h
 simpa[madeCells_one,Value.cells] using h
theorem conv_bytes{w:World}{R:Nat->Prop}{v:Value}{l:List UInt8}(h:ByS w R v l):(convert 72 9 v).run Tryz.prog w=.ok (.string ⟨l.toArray⟩) w :=
 h.conv Tryz.underlying72 Tryz.underlying5 Tryz.underlying9
def SeenB(W:World)(g n:Nat)(js:List Nat):Prop:=W.heap[g]?=some (.cells ((List.range n).map fun b=>Value.bool (decide (b∈js))).toArray 4 (0,0))
theorem SeenB.cell{W:World}{g n i:Nat}{js:List Nat}(h:SeenB W g n js)(hi:i<n):W.cell? ⟨g,i,none⟩=some (.bool (decide (i∈js))):=by
 rw[cell_of_row W g i _ _ _ h];simp[hi]
theorem SeenB.free{W:World}{g n:Nat}{js:List Nat}(h:SeenB W g n js)(i:Nat):W.frozen? ⟨g,i,none⟩=false:=frozen_of_row W g i _ _ h
theorem SeenB.set{W:World}{g n i:Nat}{js:List Nat}(h:SeenB W g n js)(hi:i<n):SeenB (W.setCell ⟨g,i,none⟩ (.bool true)) g n (js++[i]):=by
 unfold SeenB;rw[heap_setCell_same W g i _ _ _ h]
 congr 2
 apply Array.ext
 ·simp
 ·intro j h1 h2;simp at h1;rw[Array.getElem_setIfInBounds (by simpa using h1)];by_cases e:i=j
  ·subst e;simp
  ·have e2:¬j=i:=fun h=>e h.symm
   simp[e,e2]
theorem SeenB.below{W W':World}{g n:Nat}{js:List Nat}(h:SeenB W g n js)(hb:Below W.heap.size W W'):SeenB W' g n js:=by
 have hg:g<W.heap.size:=by
  unfold SeenB at h;rcases Nat.lt_or_ge g W.heap.size with h1 | h1
  ·exact h1
  ·rw[Array.getElem?_eq_none h1] at h;cases h
 exact(hb.block g hg).trans h
def OwnB(w:World)(base:Nat)(v:Value)(t:Mat):Prop:=∃xs,w.ownsRow base 72 1 v t.length xs/\∀j,j<t.length->ByS w (Bl base) (xs.getD j undef) (t.getD j [])
theorem OwnB.nil(w:World)(base:Nat):OwnB w base (.slice none 0 0) []:=⟨[],World.ownsRow_nil _ _ _ _,fun j hj=>by cases hj⟩
theorem OwnB.form{w:World}{base:Nat}{v:Value}{t:Mat}(h:OwnB w base v t):∃A c,v=.slice A t.length c:=by
 obtain⟨xs,ho,-⟩:=h;exact own_form ho
theorem OwnB.kept{w w':World}{base:Nat}{v:Value}{t:Mat}{row:Option Nat}(h:OwnB w base v t)(hg:w.grownBy w' row)(hne:v.ownBlock=none\/v.ownBlock≠row)(hk:Kept (Bl base) w w'):OwnB w' base v t:=by
 obtain⟨xs,ho,hc⟩:=h;exact⟨xs,ho.kept hg hne,fun j hj=>(hc j hj).keep hk⟩
theorem OwnB.below{w w':World}{base:Nat}{v:Value}{t:Mat}(h:OwnB w base v t)(hb:Below w.heap.size w w')(hB:base<=w.heap.size):OwnB w' base v t:=by
 obtain⟨xs,ho,hc⟩:=h;exact⟨xs,own_below ho hb,fun j hj=>(hc j hj).keep (kept_below' hb hB)⟩
theorem OwnB.push{w w':World}{base:Nat}{v v' va:Value}{t:Mat}{r:List UInt8}{xs:List Value}(ho:w.ownsRow base 72 1 v t.length xs)(hc:∀j,j<t.length->ByS w (Bl base) (xs.getD j undef) (t.getD j []))
  (ha:ByS w (Bl base) va r) (ho':w'.ownsRow base 72 1 v' (t.length+1) (xs++[va])) (hk:Kept (Bl base) w w'):OwnB w' base v' (t++[r]):=by
 have hxl:xs.length=t.length:=by have:=ho.1;omega
 refine⟨xs++[va],by rw[zP];exact ho',fun j hj=>?_⟩;rw[zP,List.length_singleton] at hj;by_cases h1:j<t.length
 ·rw[getD_append_lt _ _ _ (by omega),getD_append_lt _ _ _ h1];exact(hc j h1).keep hk
 ·have h2:j=t.length:=by omega
  rw[h2,getD_last _ _ _ _ hxl,getD_last _ _ _ _ rfl];exact ha.keep hk
theorem OwnB.matS{w:World}{base:Nat}{v:Value}{t:Mat}(h:OwnB w base v t)(hB:base<=w.heap.size):MatS w (Bl w.heap.size) v t:=by
 obtain⟨xs,ho,hc⟩:=h
 have hxl:xs.length=t.length:=by have:=ho.1;omega
 rcases ho.2 with ⟨rfl,h0⟩ | ⟨g,cap,cur,rfl,hg0,hg1,h2,h3,hg2⟩
 ·unfold MatS;rw[h0];exact Row.nil _ _ _
 ·have ho':w.ownsRow base 72 1 (rowC g t.length cap) t.length xs:=ho;refine⟨_,cap,rfl,h2,Nat.le_trans h2 h3,fun _=>⟨g,0,rfl,(own_lt ho').2,fun k r hk=>?_⟩⟩;have hj:k<t.length:=(zL.1 hk).1;have hx:t[k]=r:=(zL.1 hk).2;have h1:=hc k hj;rw[getD_lt t [] hj,hx] at h1;refine⟨xs.getD k undef,?_,h1.mono (Bl.mono hB)⟩;rw[Nat.zero_add,ho.cellAt k (by omega),zG (by omega),getD_lt _ _ (by omega)]
theorem own_kept{w w2:World}{base:Nat}{t:TypeId}{size n:Nat}{v:Value}{xs:List Value}(h:w.ownsRow base t size v n xs)(hg:w.grownBy w2 v.ownBlock)(hB:base<=w.heap.size):Kept (Bl base) w w2 :=
 fun b hb=>hg.block b (zM hb hB) (fun e=>by have:=(h.lt b e.symm).1;unfold Bl at hb;omega)
theorem only_set1(w:World)(g i:Nat)(u:Value):w.grownBy (w.setCell ⟨g,i,none⟩ u) (some g) :=
 ⟨rfl,rfl,rfl,by simp[World.setCell],fun k hk hne=>Below.heap_setCell w _ u k (fun e=>hne (by rw[e]))⟩
theorem own_seen{w:World}{base g n s m:Nat}{js:List Nat}{v:Value}{xs:List Value}(h:w.ownsRow base 72 s v m xs)(hS:SeenB w g n js):v.ownBlock≠some g:=by
 rcases h.2 with ⟨rfl,_⟩ | ⟨k,cap,cur,rfl,_,hh,_⟩
 ·simp[Value.ownBlock]
 ·intro e;simp only[Value.ownBlock,Option.some.injEq] at e;subst e;unfold SeenB at hS;rw[hS] at hh;injection hh with hh;injection hh with _ hh;exact absurd hh (by decide)
theorem nodup_snoc(js:List Nat)(i:Nat):(!decide (js++[i]).Nodup)=((!decide js.Nodup)||decide (i∈js)):=by
 have h:(js++[i]).Nodup↔js.Nodup/\i∉js:=by
  rw[List.nodup_append];simp;intro _
  constructor
  ·intro h hi;exact h i hi rfl
  ·intro h a ha e;exact h (e▸ha)
 by_cases h1:js.Nodup <;> by_cases h2:i∈js <;> simp[h,h1,h2]
theorem idxBad_at{n:Int}{hs:List Frg}{j:Nat}(hj:j<hs.length)(h:hs[j].idx<0\/n<=hs[j].idx):idxBad n hs=true:=by
 unfold idxBad;rw[List.any_eq_true];exact⟨hs[j],List.getElem_mem hj,by simp[outB];exact h⟩
theorem idxBad_none{n:Int}{hs:List Frg}(h:∀i (hi:i<hs.length),0<=hs[i].idx/\hs[i].idx<n):idxBad n hs=false:=by
 unfold idxBad;rw[List.any_eq_false];intro x hx;obtain⟨i,hi,rfl⟩:=List.getElem_of_mem hx;have:=h i hi;simp[outB];omega
def FillB(W:World)(h n:Nat)(t:Mat):Prop:=∃vs:List Value,vs.length=t.length/\W.heap[h]?=some (.cells (vs++List.replicate (n-t.length) (Value.slice none 0 0)).toArray 72 (0,0))/\∀j,j<t.length->ByS W (fun b=>b<W.heap.size/\b≠h) (vs.getD j undef) (t.getD j [])
theorem FillB.new(W:World)(n:Nat):FillB (W.alloc (.cells (Array.replicate n (.slice none 0 0)) 72)) W.heap.size n []:=⟨[],rfl,by rw[zN];simp,fun j hj=>by cases hj⟩
theorem FillB.lt{W:World}{h n:Nat}{t:Mat}(hf:FillB W h n t):h<W.heap.size:=by
 obtain⟨vs,-,h1,-⟩:=hf;rcases Nat.lt_or_ge h W.heap.size with h2 | h2
 ·exact h2
 ·rw[Array.getElem?_eq_none h2] at h1;cases h1
theorem FillB.below{W W':World}{h n:Nat}{t:Mat}(hf:FillB W h n t)(hb:Below W.heap.size W W'):FillB W' h n t:=by
 have hlt:=hf.lt;obtain⟨vs,h0,h1,h2⟩:=hf;exact⟨vs,h0,(hb.block h hlt).trans h1,fun j hj=>((h2 j hj).keep (fun b hbb=>hb.block b hbb.1)).mono (fun b hbb=>⟨zM hbb.1 hb.size,hbb.2⟩)⟩
theorem FillB.next{W:World}{h n:Nat}{t:Mat}(hf:FillB W h n t)(hn:t.length<n):W.cell? ⟨h,t.length,none⟩=some (.slice none 0 0)/\W.frozen? ⟨h,t.length,none⟩=false:=by
 obtain⟨vs,h0,h1,h2⟩:=hf;refine⟨?_,frozen_of_row W h _ _ _ h1⟩;rw[cell_of_row W h _ _ _ _ h1,List.getElem?_toArray,List.getElem?_append_right (by omega),h0,Nat.sub_self];rw[show n-t.length=(n-t.length-1)+1 from by omega,List.replicate_succ];rfl
theorem FillB.store{W:World}{h n:Nat}{t:Mat}{v:Value}{r:List UInt8}(hf:FillB W h n t)(hn:t.length<n)(hv:ByS W (fun b=>b<W.heap.size/\b≠h) v r):FillB (W.setCell ⟨h,t.length,none⟩ v) h n (t++[r]):=by
 obtain⟨vs,h0,h1,h2⟩:=hf
 have hs:(W.setCell ⟨h,t.length,none⟩ v).heap.size=W.heap.size:=by simp
 have hk:Kept (fun b=>b<W.heap.size/\b≠h) W (W.setCell ⟨h,t.length,none⟩ v):=fun b hb=>heap_setCell_other W ⟨h,t.length,none⟩ b v hb.2
 have hr:List.replicate (n-t.length) (Value.slice none 0 0)=Value.slice none 0 0 :: List.replicate (n-(t++[r]).length) (Value.slice none 0 0):=by
  rw[zP,List.length_singleton,show n-t.length=n-(t.length+1)+1 from by omega,List.replicate_succ]
 refine⟨vs++[v],by simp[h0],?_,fun j hj=>?_⟩
 ·rw[heap_setCell_same W h _ _ _ _ h1,hr,snoc_set vs _ _ _ _ h0]
 ·rw[zP,List.length_singleton] at hj;rw[hs];by_cases h3:j<t.length
  ·rw[getD_append_lt _ _ _ (by omega),getD_append_lt _ _ _ h3];exact(h2 j h3).keep hk
  ·have h4:j=t.length:=by omega
   rw[h4,getD_last _ _ _ _ h0,getD_last _ _ _ _ rfl];exact hv.keep hk
theorem FillB.matS{W:World}{h n:Nat}{t:Mat}(hf:FillB W h n t)(hn:t.length=n)(hm:n<=maxLen):MatS W (Bl W.heap.size) (.slice (some ⟨h,0,none⟩) n n) t:=by
 have hlt:=hf.lt;obtain⟨vs,h0,h1,h2⟩:=hf;refine⟨some ⟨h,0,none⟩,n,by rw[hn],by omega,by omega,fun _=>⟨h,0,rfl,hlt,fun j r hj=>?_⟩⟩;have hjl:j<t.length:=(zL.1 hj).1;have hjr:t[j]=r:=(zL.1 hj).2;have h3:=h2 j hjl;rw[getD_lt t [] hjl,hjr] at h3;refine⟨vs.getD j undef,?_,h3.mono (fun b hb=>hb.1)⟩;rw[Nat.zero_add,cell_of_row W h j _ _ _ h1,List.getElem?_toArray,List.getElem?_append_left (by omega),zG (by omega),getD_lt _ _ (by omega)]
theorem matK_take{k:Nat}{hs:List Frg}(h:k<=hs.length)(i:Nat)(hi:i<k):(matK k hs).take (i+1)=(matK k hs).take i++[coefR k (hs[i]'(by omega)).idx.toNat]:=by
 have hl:=matK_length h;rw[List.take_succ_eq_append_getElem (by omega),<-getD_lt _ [] (by omega),matK_getD h i hi]
end Go.Proofs.YtgfaieppacabjaaGreat
