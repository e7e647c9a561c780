/- The program's Valid, walked. -/
import Derived.Test.YtcfkllnpkmebpaaGreatDoorMj21
import Derived.Test.YtcfkllnpkmebpaaGreatDoorMj19
import Derived.Test.YtcfkllnpkmebpaaGreatDoorMj15
import Derived.Test.YtcfkllnpkmebpaaGreatDoorMj01
set_option maxRecDepth 100000
set_option maxHeartbeats 12800000
namespace Go.Proofs.YtcfkllnpkmebpaaGreatDoor
open Go.RowKit
set_option linter.unusedVariables false
set_option linter.unusedSimpArgs false
theorem ok_one{F:FltM} {l:List Inc} {i:Nat} (h:oneB F l[i]! = false):okAt F l i=false:=by unfold okAt;rw[h];rfl
theorem one_str{F:FltM} {x:Inc} (h:isStr F.vols.length F.ext x.vol x.stripe=false):oneB F x=false:=by unfold oneB;rw[h];rfl
theorem ivalid_any(N:Nat) (hN:N≤12) (vl vm vd vv vp vo vL:Value) (F:FltM) (L:List Inc) (w:World) (hf:FleetS w (Bl w.heap.size) vl vm vd vv vp vo F) (hok:FleetOk N F) (hL:SlS 5 IncK w (Bl w.heap.size) vL L) (hlen:L.length≤1000) (hcl:∀x∈L,x.causes.length≤1000) :
  Calls Tryz.prog 16 #[.agg #[.int .i64 F.ext,vl,vm,vd,vv,vp,vo],vL] w fun e w'=>e=.returned (.bool (validB F L))∧Below w.heap.size w w':=by
 have HKM:=zh (fun(a:Nat) (ha:a<F.vols.length)=>kmq_ok hok ha)
 obtain⟨pb,pof,ob,oof,cp,co,rfl,rfl,hRp,hRo,hPA⟩:=polAt hf hok
 obtain⟨Ad,cd,rfl,-,hmd⟩:=SlS.form hf.2.2.2.1
 obtain⟨AL,cL,rfl,-,-⟩:=hL.form
 have HVA:=zh (fun(w':World) (hb:Below w.heap.size w w')=>fvalidate_any N hN vl vm vd _ _ _ F w' (hf.below hb) hok)
 have HLW:=zh (fun(w':World) (hb:Below w.heap.size w w')=>(show SlS 5 IncK w' (Bl w.heap.size) _ L from SlS.keep incK hL (fun b h=>hb.block b h)))
 have HPW:=zh (fun(w':World) (hb:Below w.heap.size w w') (v:Nat) (hv:v<F.vols.length)=>(show volP F v<F.pols.length∧∃nm a0 a4 a5 a6 a7 a8 a9 a10 a11 a12 a13 a14 a15 a16,w'.rangeAt ob (oof+v * 2) [.string nm,.int .i64 (volP F v:Int)]∧w'.rangeAt pb (pof+volP F v * 17) [a0,.int .i64 (kOf F v),.int .i64 (mOf F v),.int .i64 (qOf F v),a4,a5,a6,a7,a8,a9,a10,a11,a12,a13,a14,a15,a16]∧(#[a0,.int .i64 (kOf F v),.int .i64 (mOf F v),.int .i64 (qOf F v),a4,a5,a6,a7,a8,a9,a10,a11,a12,a13,a14,a15,a16]:Array Value).all (·.oneCell')=true from by
  obtain⟨hpl,nm,hvol,a0,a4,a5,a6,a7,a8,a9,a10,a11,a12,a13,a14,a15,a16,hpol,hone⟩:=hPA v hv
  exact⟨hpl,nm,a0,a4,a5,a6,a7,a8,a9,a10,a11,a12,a13,a14,a15,a16,range_same hvol (hb.block ob hRo),range_same hpol (hb.block pb hRp),hone⟩))
 have hext:F.ext=1∨F.ext=2:=hok.ext
 have hno:F.vols.length≤12:=Nat.le_trans hok.volN hN
 have hnp:=hok.polN
 have hnd:1≤F.dves.length∧F.dves.length≤9:=⟨hok.dve1,hok.dveN⟩
 obtain⟨VR,hVR⟩:=zx (validB F L)
 have HHIT:=zh (show(∀k,k<L.length→okAt F L k=true)→VR=true from fun h=>by rw[hVR];exact valid_hit h)
 have HMISS:=zh (show ∀i,i<L.length→okAt F L i=false→VR=false from fun i hi h=>by rw[hVR];exact valid_miss hi h)
 rw[←hVR]
 have HCL:=zh hcl
 obtain⟨EX,hEX⟩:=zx F.ext
 obtain⟨ND,hND⟩:=zx F.dves.length
 obtain⟨NO,hNO⟩:=zx F.vols.length
 obtain⟨NP,hNP⟩:=zx F.pols.length
 obtain⟨LN,hLN⟩:=zx L.length
 rw[←hEX,←hND,←hNO,←hNP] at HVA ⊢
 rw[←hLN] at HLW hlen ⊢
 rw[←hEX] at hext
 rw[←hND] at hnd
 rw[←hNO] at hno
 rw[←hNP] at hnp
 have HE:=zh (And.intro hEX (And.intro hND (And.intro hNO hNP)))
 have HLN:=zh hLN
 obtain⟨W0,hW0⟩:=zx (w.alloc (.cells #[.int .i64 EX,vl,vm,vd,.slice Ad ND cd,.slice (some ⟨pb,pof,none⟩) NP cp,.slice (some ⟨ob,oof,none⟩) NO co] 35))
 obtain⟨z,hz⟩:=zx w.heap.size
 have hb0:Below w.heap.size w W0:=by rw[hW0];exact(Below.refl _ _).alloc (Nat.le_refl _) _
 have hzk:W0.heap[z]?=some (.cells #[.int .i64 EX,vl,vm,vd,.slice Ad ND cd,.slice (some ⟨pb,pof,none⟩) NP cp,.slice (some ⟨ob,oof,none⟩) NO co] 35 (0,0)):=by rw[hW0,hz];exact heap_alloc_new w _
 have hzl:z<W0.heap.size:=(Array.getElem?_eq_some_iff.1 hzk).1
 have HC:=zh (fun(w':World) (hb:Below W0.heap.size W0 w')=>(show w'.cell? ⟨z,0,none⟩=some (.int .i64 EX)∧w'.cell? ⟨z,1,none⟩=some vl∧w'.cell? ⟨z,2,none⟩=some vm∧w'.cell? ⟨z,3,none⟩=some vd∧w'.cell? ⟨z,4,none⟩=some (.slice Ad ND cd)∧w'.cell? ⟨z,5,none⟩=some (.slice (some ⟨pb,pof,none⟩) NP cp)∧w'.cell? ⟨z,6,none⟩=some (.slice (some ⟨ob,oof,none⟩) NO co) from cells7 ((hb.block z hzl).trans hzk)))
 have HRE:=zh (fun(w':World) (hb:Below W0.heap.size W0 w')=>hb0.trans (hb.mono hb0.size))
 have HW0:=zh hW0
 have HZ:=zh hz
 have HB0:=zh hb0
 obtain⟨c0,c1,c2,c3,c4,c5,c6⟩:=HC.out W0 (Below.refl _ _)
 clear hf hok hL hcl hPA hRp hRo hmd hVR hEX hND hNO hNP hLN hW0 hz hb0 hzk hzl hN
 go_enter Tryz.func16,Tryz.ntmps16
 go_upto_region 1 with fail
 rw[←HW0.out,←HZ.out]
 go_wp2_with fail
 refine(HVA.out _ HB0.out).mono ?_
 rintro e w1 ⟨rfl,hb1⟩
 have HB1:=zh hb1
 clear c0 c1 c2 c3 c4 c5 c6 hb1
 go_wp2_with fail
 go_loopg [15] LN (fun z v15 wr=>∃i:Nat,v15=.int .i64 (i:Int)∧i≤LN∧z=LN - i∧Hid (∀k,k<i→okAt F L k=true)∧Hid (Below w1.heap.size w1 wr))
 case atStart=>exact⟨0,rfl,Nat.zero_le _,rfl,zh (fun k hk=>by omega),zh (Below.refl _ _)⟩
 case round =>
  obtain⟨i,rfl,hi,rfl,HOKS,HBR⟩:=hrel
  by_cases hlt:i<LN
  ·have HLT:=zh hlt
   have hil:i<L.length:=by rw[←HLN.out];exact hlt
   have hb0r:=HB1.out.trans (HBR.out.mono HB1.out.size)
   obtain⟨b,off,cs,hA,hRb,-,hc,hcs⟩:=(HLW.out wr (HRE.out wr hb0r)).at_ (k:=i) hil
   subst hA
   have HLC:=zh (fun(k:Nat) (hk:k<L.length) (w':World) (hb:Below w.heap.size w w')=>(show ∃Ax cx,w'.cell? ⟨b,off+k * 5,none⟩=some (.int .i64 L[k].vol)∧w'.cell? ⟨b,off+k * 5+1,none⟩=some (.int .i64 L[k].stripe)∧w'.cell? ⟨b,off+k * 5+2,none⟩=some (.bool L[k].lost)∧w'.cell? ⟨b,off+k * 5+3,none⟩=some (.int .i64 L[k].need)∧w'.cell? ⟨b,off+k * 5+4,none⟩=some (.slice Ax L[k].causes.length cx)∧SlS 2 CauK w' (Bl w.heap.size) (.slice Ax L[k].causes.length cx) L[k].causes from by
    obtain⟨b',off',cs',hA',-,-,hc',hcs'⟩:=(HLW.out w' hb).at_ (k:=k) hk
    injection hA' with hA'
    injection hA' with hb1 ho1
    subst hb1;subst ho1
    obtain⟨Ax,cx,x0,x1,x2,x3,x4,hsl,-⟩:=five_inc hc' hcs'
    exact⟨Ax,cx,x0,x1,x2,x3,x4,hsl⟩))
   clear hc hcs cs hRb
   obtain⟨Ax,cx,x0,x1,x2,x3,x4,hsl⟩:=HLC.out i hil wr (HRE.out wr hb0r)
   have hSLr:=hsl
   have HCN:=zh (HCL.out _ (List.getElem_mem hil))
   have HEL:=zh (getBang hil)
   obtain⟨x,hx⟩:=zx (L[i])
   rw[←hx] at x0 x1 x2 x3 x4 hSLr hsl HCN HEL
   have HSLr:=zh hSLr
   obtain⟨CN,hCN⟩:=zx x.causes.length
   rw[←hCN] at x4 HSLr HCN
   have HCC:=zh hCN
   have hcn:(CN:Int)≤1000:=by have:=HCN.out;omega
   have HMI:=zh (fun(h:oneB F x=false)=>HMISS.out i hil (ok_one (by rw[HEL.out];exact h)))
   have HMO:=zh (fun(h:ordAt L i=false)=>HMISS.out i hil (by unfold okAt;rw[h,Bool.and_false]))
   have HOKI:=zh (fun(h:oneB F x=true) (h2:ordAt L i=true)=>(show ∀k,k<i+1→okAt F L k=true from fun k hk=>by
    by_cases e:k=i
    ·subst e;unfold okAt;rw[HEL.out,h,h2];rfl
    ·exact HOKS.out k (by omega)))
   have HORDAT:=zh (show ∀(hi0:0<i),ordAt L i=incLtB L[i - 1]! x from fun hi0=>by
    unfold ordAt
    rw[decide_eq_false (by omega),Bool.false_or,HEL.out])
   have HPREV:=zh (show ∀(hi0:0<i),oneB F L[i - 1]! = true from fun hi0=>by
    have:=HOKS.out (i - 1) (by omega)
    unfold okAt at this
    rw[Bool.and_eq_true] at this
    exact this.1)
   obtain⟨xv,xs,xl,xn,xc⟩:=x
   simp only at x0 x1 x2 x3 x4 hCN HSLr HCC
   obtain⟨W5,hW5⟩:=zx (wr.alloc (.cells #[.int .i64 xv,.int .i64 xs,.bool xl,.int .i64 xn,.slice Ax CN cx] 27))
   obtain⟨gx,hgx⟩:=zx wr.heap.size
   have hb5r:Below wr.heap.size wr W5:=by rw[hW5];exact(Below.refl _ _).alloc (Nat.le_refl _) _
   have hxk:W5.heap[gx]?=some (.cells #[.int .i64 xv,.int .i64 xs,.bool xl,.int .i64 xn,.slice Ax CN cx] 27 (0,0)):=by rw[hW5,hgx];exact heap_alloc_new wr _
   have hxl:gx<W5.heap.size:=(Array.getElem?_eq_some_iff.1 hxk).1
   have HB5:=zh (hb0r.trans (hb5r.mono hb0r.size))
   have HB15:=zh (HBR.out.trans (hb5r.mono HBR.out.size))
   have HSA:=zh (fun(w':World) (hb:Below W5.heap.size W5 w')=>(show(w'.cell? ⟨z,0,none⟩=some (.int .i64 EX)∧w'.cell? ⟨z,1,none⟩=some vl∧w'.cell? ⟨z,2,none⟩=some vm∧w'.cell? ⟨z,3,none⟩=some vd∧w'.cell? ⟨z,4,none⟩=some (.slice Ad ND cd)∧w'.cell? ⟨z,5,none⟩=some (.slice (some ⟨pb,pof,none⟩) NP cp)∧w'.cell? ⟨z,6,none⟩=some (.slice (some ⟨ob,oof,none⟩) NO co))∧(w'.cell? ⟨gx,0,none⟩=some (.int .i64 xv)∧w'.cell? ⟨gx,1,none⟩=some (.int .i64 xs)∧w'.cell? ⟨gx,2,none⟩=some (.bool xl)∧w'.cell? ⟨gx,3,none⟩=some (.int .i64 xn)∧w'.cell? ⟨gx,4,none⟩=some (.slice Ax CN cx))∧Below W5.heap.size W5 w' from by
    obtain⟨c0,c1,c2,c3,c4,c5,c6⟩:=HC.out w' (HB5.out.trans (hb.mono HB5.out.size))
    have h1:=(hb.block gx hxl).trans hxk
    exact⟨⟨c0,c1,c2,c3,c4,c5,c6⟩,⟨by rw[cell_of_row _ _ _ _ _ _ h1];rfl,by rw[cell_of_row _ _ _ _ _ _ h1];rfl,by rw[cell_of_row _ _ _ _ _ _ h1];rfl,by rw[cell_of_row _ _ _ _ _ _ h1];rfl,by rw[cell_of_row _ _ _ _ _ _ h1];rfl⟩,hb⟩))
   have HW5:=zh hW5
   have HGX:=zh hgx
   clear hx hCN hW5 hgx hb5r hxk hxl hb0r hsl hSLr
   go_upto_region 6 with fail
   clear hlt
   clear x0 x1 x2 x3 x4
   rw[←HW5.out,←HGX.out]
   have his:=fun(w':World)=>iisStripe_any vl vm vd (.slice Ad ND cd) (.slice (some ⟨pb,pof,none⟩) NP cp) (some ⟨ob,oof,none⟩) NO co EX xv xs w' (by omega)
   by_cases hstr:isStr NO EX xv xs=true
   ·rw[hstr] at his
    have HIS:=zh (fun(w':World) (_:Below W5.heap.size W5 w')=>his w')
    obtain⟨⟨hv0,hv1⟩,⟨hs0,hs1⟩⟩:=(isStr_iff NO EX xv xs).1 hstr
    obtain⟨v,rfl⟩:∃v:Nat,xv=(v:Int):=⟨xv.toNat,by omega⟩
    obtain⟨s,rfl⟩:∃s:Nat,xs=(s:Int):=⟨xs.toNat,by omega⟩
    have hvF:v<F.vols.length:=by rw[←HE.out.2.2.1];omega
    obtain⟨hk12,hm0',hm2',-,-⟩:=HKM.out v hvF
    obtain⟨KN,hKN⟩:∃k:Nat,kOf F v=(k:Int):=⟨(kOf F v).toNat,by omega⟩
    obtain⟨MM,hMM⟩:=zx (mOf F v)
    obtain⟨QQ,hQQ⟩:=zx (qOf F v)
    obtain⟨p0,hpp⟩:=zx (volP F v)
    have hpw:=fun(w':World) (hb:Below w.heap.size w w')=>HPW.out w' hb v hvF
    rw[←hpp,hKN,←hMM,←hQQ,←HE.out.2.2.2] at hpw
    have HPV:=zh hpw
    have hp0:p0<NP:=(hpw w (Below.refl _ _)).1
    have HONE:=zh (show oneB F ⟨(v:Int),(s:Int),xl,xn,xc⟩=(decide (xn=(KN:Int))&&(xc.all (cauOk ND)&&finB (KN:Int) MM xn xl xc)) from by
     unfold oneB
     simp only[Int.toNat_natCast,hKN,←hMM,←HE.out.1,←HE.out.2.1,←HE.out.2.2.1,hstr,Bool.true_and])
    obtain⟨nbn,hnbn⟩:=zx ((xn != (KN:Int)))
    have t36:(xn != (KN:Int))=nbn:=hnbn.symm
    have HNB:=zh (show decide (xn=(KN:Int))=!nbn from by rw[hnbn];by_cases e:xn=(KN:Int) <;> simp[e])
    rw[hKN] at hk12
    rw[←hMM] at hm0' hm2'
    have HKB:=zh (And.intro hk12 (And.intro hm0' hm2'))
    have i1:(v:Int)<(NO:Int):=by omega
    have i2:(p0:Int)<(NP:Int):=by omega
    have HVN:=zh (show v<NO∧p0<NP∧NO≤1000∧NP≤1000 from⟨by omega,hp0,by omega,by omega⟩)
    have HSB:=zh (fun(w':World) (hb:Below W5.heap.size W5 w')=>(show(w'.cell? ⟨z,0,none⟩=some (.int .i64 EX)∧w'.cell? ⟨z,1,none⟩=some vl∧w'.cell? ⟨z,2,none⟩=some vm∧w'.cell? ⟨z,3,none⟩=some vd∧w'.cell? ⟨z,4,none⟩=some (.slice Ad ND cd)∧w'.cell? ⟨z,5,none⟩=some (.slice (some ⟨pb,pof,none⟩) NP cp)∧w'.cell? ⟨z,6,none⟩=some (.slice (some ⟨ob,oof,none⟩) NO co))∧(w'.cell? ⟨gx,0,none⟩=some (.int .i64 (v:Int))∧w'.cell? ⟨gx,1,none⟩=some (.int .i64 (s:Int))∧w'.cell? ⟨gx,2,none⟩=some (.bool xl)∧w'.cell? ⟨gx,3,none⟩=some (.int .i64 xn)∧w'.cell? ⟨gx,4,none⟩=some (.slice Ax CN cx))∧(w'.cell? ⟨ob,oof+v * 2+1,none⟩=some (.int .i64 (p0:Int))∧w'.cell? ⟨pb,pof+p0 * 17+1,none⟩=some (.int .i64 (KN:Int)))∧Below W5.heap.size W5 w' from by
     obtain⟨h1,h2,h3⟩:=HSA.out w' hb
     obtain⟨-,nm,a0,a4,a5,a6,a7,a8,a9,a10,a11,a12,a13,a14,a15,a16,hvol,hpol,-⟩:=HPV.out w' (HRE.out w' (HB5.out.trans (hb.mono HB5.out.size)))
     exact⟨h1,h2,⟨hvol 1 _ rfl,hpol 1 _ rfl⟩,h3⟩))
    have HVS:=zh (show((0:Int)≤v∧(v:Int)≤100000)∧((0:Int)≤s∧(s:Int)≤100000) from by omega)
    have HSTR:=zh (And.intro hv1 hs1)
    clear hstr hv0 hv1 hs0 hs1 hk12 hm0' hm2' hKN hMM hQQ hpp hpw hp0 hnbn his
    obtain⟨nb,hnb⟩:=zx ((!ordAt L i||nbn))
    have HNBE:=zh hnb
    clear hnb
    go_cut [57] from 20 to 57 (fun v57 wc=>v57=.bool nb∧Hid (Below W5.heap.size W5 wc))
    case first =>
     by_cases hi0:i=0
     ·have HOI:=zh (show nb=nbn from by
       have:ordAt L i=true:=by unfold ordAt;rw[decide_eq_true hi0];rfl
       rw[HNBE.out,this];rfl)
      have t9:decide (0<i)=false:=decide_eq_false (by omega)
      clear hi0 hvF
      refine region_tail (S:=(fun w'=>(w'.cell? ⟨z,0,none⟩=some (.int .i64 EX)∧w'.cell? ⟨z,1,none⟩=some vl∧w'.cell? ⟨z,2,none⟩=some vm∧w'.cell? ⟨z,3,none⟩=some vd∧w'.cell? ⟨z,4,none⟩=some (.slice Ad ND cd)∧w'.cell? ⟨z,5,none⟩=some (.slice (some ⟨pb,pof,none⟩) NP cp)∧w'.cell? ⟨z,6,none⟩=some (.slice (some ⟨ob,oof,none⟩) NO co))∧(w'.cell? ⟨gx,0,none⟩=some (.int .i64 (v:Int))∧w'.cell? ⟨gx,1,none⟩=some (.int .i64 (s:Int))∧w'.cell? ⟨gx,2,none⟩=some (.bool xl)∧w'.cell? ⟨gx,3,none⟩=some (.int .i64 xn)∧w'.cell? ⟨gx,4,none⟩=some (.slice Ax CN cx))∧(w'.cell? ⟨ob,oof+v * 2+1,none⟩=some (.int .i64 (p0:Int))∧w'.cell? ⟨pb,pof+p0 * 17+1,none⟩=some (.int .i64 (KN:Int)))∧Below W5.heap.size W5 w')) [] (by kernel_rfl) (HSB.out _ (Below.refl W5.heap.size W5).drew) (fun hHeld=>?_)
      refine tk 0 20 ?_
      refine tk 1 21 ?_
      refine tk 2 22 ?_
      refine tk 3 23 ?_
      refine tk 4 24 ?_
      refine readyT (rs:=[5]) (by kernel_rfl) (by simp) ?_
      refine AllReadyT.cons rfl (fun K hK=>?_) ?_
      ·go_simp
       refine(HIS.out _ (Below.refl W5.heap.size W5).drew).mono ?_
       rintro e w5 ⟨rfl,hb5⟩
       have hx5:=((Below.refl W5.heap.size W5).drew).trans (hb5.mono ((Below.refl W5.heap.size W5).drew).size)
       refine hK.out _ _ ?_ (fun hHeld=>?_)
       ·exact HSB.out _ hx5
       clear hK K
       (try simp only[Act.put,z1,z2,z3])
       refine tk 6 26 ?_
       refine tk 7 27 ?_
       refine tk 8 28 ?_
       refine tk 9 29 ?_
       refine tk 10 30 ?_
       refine takeT (i:=11) (d:=31) (v:=undef) rfl rfl (by kernel_rfl) (by kernel_rfl) (by kernel_rfl) (by kernel_rfl) (fun _ _ _ h=>h) (Or.inr ⟨by kernel_rfl,rfl⟩) (by assumption) ?_
       (try simp only[Act.put,z1,z2,z3])
       refine takeT (i:=12) (d:=32) (v:=undef) rfl rfl (by kernel_rfl) (by kernel_rfl) (by kernel_rfl) (by kernel_rfl) (fun _ _ _ h=>h) (Or.inr ⟨by kernel_rfl,rfl⟩) (by assumption) ?_
       (try simp only[Act.put,z1,z2,z3])
       refine takeT (i:=13) (d:=33) (v:=undef) rfl rfl (by kernel_rfl) (by kernel_rfl) (by kernel_rfl) (by kernel_rfl) (fun _ _ _ h=>h) (Or.inr ⟨by kernel_rfl,rfl⟩) (by assumption) ?_
       (try simp only[Act.put,z1,z2,z3])
       refine takeT (i:=14) (d:=34) (v:=undef) rfl rfl (by kernel_rfl) (by kernel_rfl) (by kernel_rfl) (by kernel_rfl) (fun _ _ _ h=>h) (Or.inr ⟨by kernel_rfl,rfl⟩) (by assumption) ?_
       (try simp only[Act.put,z1,z2,z3])
       refine takeT (i:=15) (d:=35) (v:=undef) rfl rfl (by kernel_rfl) (by kernel_rfl) (by kernel_rfl) (by kernel_rfl) (fun _ _ _ h=>h) (Or.inr ⟨by kernel_rfl,rfl⟩) (by assumption) ?_
       (try simp only[Act.put,z1,z2,z3])
       refine takeT (i:=16) (d:=36) (v:=undef) rfl rfl (by kernel_rfl) (by kernel_rfl) (by kernel_rfl) (by kernel_rfl) (fun _ _ _ h=>h) (Or.inr ⟨by kernel_rfl,rfl⟩) (by assumption) ?_
       (try simp only[Act.put,z1,z2,z3])
       refine takeT (i:=17) (d:=37) (v:=undef) rfl rfl (by kernel_rfl) (by kernel_rfl) (by kernel_rfl) (by kernel_rfl) (fun _ _ _ h=>h) (Or.inr ⟨by kernel_rfl,rfl⟩) (by assumption) ?_
       (try simp only[Act.put,z1,z2,z3])
       refine takeT (i:=18) (d:=38) (v:=undef) rfl rfl (by kernel_rfl) (by kernel_rfl) (by kernel_rfl) (by kernel_rfl) (fun _ _ _ h=>h) (Or.inr ⟨by kernel_rfl,rfl⟩) (by assumption) ?_
       (try simp only[Act.put,z1,z2,z3])
       refine tk 19 39 ?_
       refine tk 20 40 ?_
       refine tk 21 41 ?_
       refine tk 22 42 ?_
       refine tk 23 43 ?_
       refine tk 24 44 ?_
       refine tk 25 45 ?_
       refine tk 26 46 ?_
       refine tk 27 47 ?_
       refine tk 28 48 ?_
       refine tk 29 49 ?_
       refine tk 30 50 ?_
       refine tk 31 51 ?_
       refine tk 32 52 ?_
       refine tk 33 53 ?_
       refine tk 34 54 ?_
       refine tk 35 55 ?_
       refine tk 36 56 ?_
       refine tk 37 57 ?_
       refine doneT (by kernel_rfl) ?_ _
       clear hHeld
       have HX:=zh hx5
       clear hx5 hb5
       go_wp2_with fail
       go_meet
       exact⟨by rw[HOI.out],HX⟩
      exact AllReadyT.nil
     ·have hi1:0<i:=by omega
      have t9:decide (0<i)=true:=decide_eq_true hi1
      have hil2:i - 1<L.length:=by omega
      have hprev:=HPREV.out hi1
      have hordat:=HORDAT.out hi1
      have hlc2:=HLC.out (i - 1) hil2
      rw[←getBang hil2] at hlc2
      have HLC2:=zh hlc2
      clear hlc2
      obtain⟨y,hy⟩:=zx (L[i - 1]!)
      rw[←hy] at hprev hordat HLC2
      obtain⟨yv,ys,yl,yn,yc⟩:=y
      simp only at HLC2
      obtain⟨Ay,cy,-,-,-,-,hy4,-⟩:=HLC2.out W5 (HRE.out W5 HB5.out)
      obtain⟨CY,hCY⟩:=zx yc.length
      rw[←hCY] at hy4 HLC2
      have HY4:=zh hy4
      have hbl:b<W5.heap.size:=World.block_lt_of_cell? W5 _ hy4
      have HYS:=zh (show((0:Int)≤yv∧yv≤100000)∧((0:Int)≤ys∧ys≤100000) from by
       unfold oneB at hprev
       rw[Bool.and_eq_true,isStr_iff,←HE.out.1,←HE.out.2.2.1] at hprev
       simp only at hprev
       omega)
      have hsub:((i:Int) - 1)=((i - 1:Nat):Int):=by omega
      have hwr:IntKind.i64.wrap ((i - 1:Nat):Int)=((i - 1:Nat):Int):=IntWalk.i64_in _ (by omega)
      have hi2:((i - 1:Nat):Int)<(LN:Int):=by omega
      have HSC:=zh (fun(w':World) (hb:Below W5.heap.size W5 w')=>(show(w'.cell? ⟨z,0,none⟩=some (.int .i64 EX)∧w'.cell? ⟨z,1,none⟩=some vl∧w'.cell? ⟨z,2,none⟩=some vm∧w'.cell? ⟨z,3,none⟩=some vd∧w'.cell? ⟨z,4,none⟩=some (.slice Ad ND cd)∧w'.cell? ⟨z,5,none⟩=some (.slice (some ⟨pb,pof,none⟩) NP cp)∧w'.cell? ⟨z,6,none⟩=some (.slice (some ⟨ob,oof,none⟩) NO co))∧(w'.cell? ⟨gx,0,none⟩=some (.int .i64 (v:Int))∧w'.cell? ⟨gx,1,none⟩=some (.int .i64 (s:Int))∧w'.cell? ⟨gx,2,none⟩=some (.bool xl)∧w'.cell? ⟨gx,3,none⟩=some (.int .i64 xn)∧w'.cell? ⟨gx,4,none⟩=some (.slice Ax CN cx))∧(w'.cell? ⟨ob,oof+v * 2+1,none⟩=some (.int .i64 (p0:Int))∧w'.cell? ⟨pb,pof+p0 * 17+1,none⟩=some (.int .i64 (KN:Int)))∧(w'.cell? ⟨b,off+(i - 1) * 5,none⟩=some (.int .i64 yv)∧w'.cell? ⟨b,off+(i - 1) * 5+1,none⟩=some (.int .i64 ys)∧w'.cell? ⟨b,off+(i - 1) * 5+2,none⟩=some (.bool yl)∧w'.cell? ⟨b,off+(i - 1) * 5+3,none⟩=some (.int .i64 yn)∧w'.cell? ⟨b,off+(i - 1) * 5+4,none⟩=some (.slice Ay CY cy))∧Below W5.heap.size W5 w' from by
       obtain⟨h1,h2,h3,h4⟩:=HSB.out w' hb
       obtain⟨Az,cz,q0,q1,q2,q3,-,-⟩:=HLC2.out w' (HRE.out w' (HB5.out.trans (hb.mono HB5.out.size)))
       exact⟨h1,h2,h3,⟨q0,q1,q2,q3,(hb.cell (p:=⟨b,off+(i - 1) * 5+4,none⟩) hbl).trans HY4.out⟩,h4⟩))
      have HOR:=zh (fun(w':World) (_:Below W5.heap.size W5 w')=>order_two yv ys (v:Int) (s:Int) (.bool yl) (.int .i64 yn) (.slice Ay CY cy) (.bool xl) (.int .i64 xn) (.slice Ax CN cx) w' HYS.out.1 HYS.out.2 HVS.out.1 HVS.out.2)
      clear hi0 hi1 hil hil2 hvF hy hy4 hCY hbl hprev
      by_cases hord:yv<(v:Int)∨(yv=(v:Int)∧ys<(s:Int))
      ·have HOI:=zh (show nb=nbn from by
        have:ordAt L i=true:=by rw[hordat];unfold incLtB;exact decide_eq_true hord
        rw[HNBE.out,this];rfl)
       have HORD:=zh (fun h:¬(yv<(v:Int)∨(yv=(v:Int)∧ys<(s:Int)))=>h hord)
       clear hordat hord
       refine region_tail (S:=(fun w'=>(w'.cell? ⟨z,0,none⟩=some (.int .i64 EX)∧w'.cell? ⟨z,1,none⟩=some vl∧w'.cell? ⟨z,2,none⟩=some vm∧w'.cell? ⟨z,3,none⟩=some vd∧w'.cell? ⟨z,4,none⟩=some (.slice Ad ND cd)∧w'.cell? ⟨z,5,none⟩=some (.slice (some ⟨pb,pof,none⟩) NP cp)∧w'.cell? ⟨z,6,none⟩=some (.slice (some ⟨ob,oof,none⟩) NO co))∧(w'.cell? ⟨gx,0,none⟩=some (.int .i64 (v:Int))∧w'.cell? ⟨gx,1,none⟩=some (.int .i64 (s:Int))∧w'.cell? ⟨gx,2,none⟩=some (.bool xl)∧w'.cell? ⟨gx,3,none⟩=some (.int .i64 xn)∧w'.cell? ⟨gx,4,none⟩=some (.slice Ax CN cx))∧(w'.cell? ⟨ob,oof+v * 2+1,none⟩=some (.int .i64 (p0:Int))∧w'.cell? ⟨pb,pof+p0 * 17+1,none⟩=some (.int .i64 (KN:Int)))∧(w'.cell? ⟨b,off+(i - 1) * 5,none⟩=some (.int .i64 yv)∧w'.cell? ⟨b,off+(i - 1) * 5+1,none⟩=some (.int .i64 ys)∧w'.cell? ⟨b,off+(i - 1) * 5+2,none⟩=some (.bool yl)∧w'.cell? ⟨b,off+(i - 1) * 5+3,none⟩=some (.int .i64 yn)∧w'.cell? ⟨b,off+(i - 1) * 5+4,none⟩=some (.slice Ay CY cy))∧Below W5.heap.size W5 w')) [] (by kernel_rfl) (HSC.out _ (Below.refl W5.heap.size W5).drew) (fun hHeld=>?_)
       refine tk 0 20 ?_
       refine tk 1 21 ?_
       refine tk 2 22 ?_
       refine tk 3 23 ?_
       refine tk 4 24 ?_
       refine readyT (rs:=[5]) (by kernel_rfl) (by simp) ?_
       refine AllReadyT.cons rfl (fun K hK=>?_) ?_
       ·go_simp
        refine(HIS.out _ (Below.refl W5.heap.size W5).drew).mono ?_
        rintro e w5 ⟨rfl,hb5⟩
        have hx5:=((Below.refl W5.heap.size W5).drew).trans (hb5.mono ((Below.refl W5.heap.size W5).drew).size)
        refine hK.out _ _ ?_ (fun hHeld=>?_)
        ·(first|exact HSC.out _ hx17|exact HSC.out _ hx5)
        clear hK K
        (try simp only[Act.put,z1,z2,z3])
        refine tk 6 26 ?_
        refine tk 7 27 ?_
        refine tk 8 28 ?_
        refine tk 9 29 ?_
        refine tk 10 30 ?_
        refine tk 11 31 ?_
        refine tk 12 32 ?_
        refine tk 13 33 ?_
        refine tk 14 34 ?_
        refine tk 15 35 ?_
        refine tk 16 36 ?_
        refine readyT (rs:=[17]) (by kernel_rfl) (by simp) ?_
        refine AllReadyT.cons rfl (fun K hK=>?_) ?_
        ·go_simp
         refine(HOR.out _ hx5).mono ?_
         rintro e w17 ⟨⟨rr,rfl,hrr⟩,hb17⟩
         have hx17:=(hx5).trans (hb17.mono (hx5).size)
         have t18:decide (0≤rr)=false:=decide_eq_false (by rw[hrr];exact HORD.out)
         clear hrr
         refine hK.out _ _ ?_ (fun hHeld=>?_)
         ·(first|exact HSC.out _ hx17|exact HSC.out _ hx5)
         clear hK K
         (try simp only[Act.put,z1,z2,z3])
         refine tk 18 38 ?_
         refine tk 19 39 ?_
         refine tk 20 40 ?_
         refine tk 21 41 ?_
         refine tk 22 42 ?_
         refine tk 23 43 ?_
         refine tk 24 44 ?_
         refine tk 25 45 ?_
         refine tk 26 46 ?_
         refine tk 27 47 ?_
         refine tk 28 48 ?_
         refine tk 29 49 ?_
         refine tk 30 50 ?_
         refine tk 31 51 ?_
         refine tk 32 52 ?_
         refine tk 33 53 ?_
         refine tk 34 54 ?_
         refine tk 35 55 ?_
         refine tk 36 56 ?_
         refine tk 37 57 ?_
         refine doneT (by kernel_rfl) ?_ _
         clear hHeld
         have HX:=zh hx17
         clear hx5 hb5 hx17 hb17
         go_wp2_with fail
         go_meet
         exact⟨by rw[HOI.out],HX⟩
        exact AllReadyT.nil
       exact AllReadyT.nil
      ·have HOI:=zh (show nb=true from by
        have:ordAt L i=false:=by rw[hordat];unfold incLtB;exact decide_eq_false hord
        rw[HNBE.out,this];rfl)
       have HORD:=zh hord
       clear hordat hord
       refine region_tail (S:=(fun w'=>(w'.cell? ⟨z,0,none⟩=some (.int .i64 EX)∧w'.cell? ⟨z,1,none⟩=some vl∧w'.cell? ⟨z,2,none⟩=some vm∧w'.cell? ⟨z,3,none⟩=some vd∧w'.cell? ⟨z,4,none⟩=some (.slice Ad ND cd)∧w'.cell? ⟨z,5,none⟩=some (.slice (some ⟨pb,pof,none⟩) NP cp)∧w'.cell? ⟨z,6,none⟩=some (.slice (some ⟨ob,oof,none⟩) NO co))∧(w'.cell? ⟨gx,0,none⟩=some (.int .i64 (v:Int))∧w'.cell? ⟨gx,1,none⟩=some (.int .i64 (s:Int))∧w'.cell? ⟨gx,2,none⟩=some (.bool xl)∧w'.cell? ⟨gx,3,none⟩=some (.int .i64 xn)∧w'.cell? ⟨gx,4,none⟩=some (.slice Ax CN cx))∧(w'.cell? ⟨ob,oof+v * 2+1,none⟩=some (.int .i64 (p0:Int))∧w'.cell? ⟨pb,pof+p0 * 17+1,none⟩=some (.int .i64 (KN:Int)))∧(w'.cell? ⟨b,off+(i - 1) * 5,none⟩=some (.int .i64 yv)∧w'.cell? ⟨b,off+(i - 1) * 5+1,none⟩=some (.int .i64 ys)∧w'.cell? ⟨b,off+(i - 1) * 5+2,none⟩=some (.bool yl)∧w'.cell? ⟨b,off+(i - 1) * 5+3,none⟩=some (.int .i64 yn)∧w'.cell? ⟨b,off+(i - 1) * 5+4,none⟩=some (.slice Ay CY cy))∧Below W5.heap.size W5 w')) [] (by kernel_rfl) (HSC.out _ (Below.refl W5.heap.size W5).drew) (fun hHeld=>?_)
       refine tk 0 20 ?_
       refine tk 1 21 ?_
       refine tk 2 22 ?_
       refine tk 3 23 ?_
       refine tk 4 24 ?_
       refine readyT (rs:=[5]) (by kernel_rfl) (by simp) ?_
       refine AllReadyT.cons rfl (fun K hK=>?_) ?_
       ·go_simp
        refine(HIS.out _ (Below.refl W5.heap.size W5).drew).mono ?_
        rintro e w5 ⟨rfl,hb5⟩
        have hx5:=((Below.refl W5.heap.size W5).drew).trans (hb5.mono ((Below.refl W5.heap.size W5).drew).size)
        refine hK.out _ _ ?_ (fun hHeld=>?_)
        ·(first|exact HSC.out _ hx17|exact HSC.out _ hx5)
        clear hK K
        (try simp only[Act.put,z1,z2,z3])
        refine tk 6 26 ?_
        refine tk 7 27 ?_
        refine tk 8 28 ?_
        refine tk 9 29 ?_
        refine tk 10 30 ?_
        refine tk 11 31 ?_
        refine tk 12 32 ?_
        refine tk 13 33 ?_
        refine tk 14 34 ?_
        refine tk 15 35 ?_
        refine tk 16 36 ?_
        refine readyT (rs:=[17]) (by kernel_rfl) (by simp) ?_
        refine AllReadyT.cons rfl (fun K hK=>?_) ?_
        ·go_simp
         refine(HOR.out _ hx5).mono ?_
         rintro e w17 ⟨⟨rr,rfl,hrr⟩,hb17⟩
         have hx17:=(hx5).trans (hb17.mono (hx5).size)
         have t18:decide (0≤rr)=true:=decide_eq_true (hrr.2 HORD.out)
         clear hrr
         refine hK.out _ _ ?_ (fun hHeld=>?_)
         ·(first|exact HSC.out _ hx17|exact HSC.out _ hx5)
         clear hK K
         (try simp only[Act.put,z1,z2,z3])
         refine tk 18 38 ?_
         refine tk 19 39 ?_
         refine tk 20 40 ?_
         refine tk 21 41 ?_
         refine takeT (i:=22) (d:=42) (v:=undef) rfl rfl (by kernel_rfl) (by kernel_rfl) (by kernel_rfl) (by kernel_rfl) (fun _ _ _ h=>h) (Or.inr ⟨by kernel_rfl,rfl⟩) (by assumption) ?_
         (try simp only[Act.put,z1,z2,z3])
         refine takeT (i:=23) (d:=43) (v:=undef) rfl rfl (by kernel_rfl) (by kernel_rfl) (by kernel_rfl) (by kernel_rfl) (fun _ _ _ h=>h) (Or.inr ⟨by kernel_rfl,rfl⟩) (by assumption) ?_
         (try simp only[Act.put,z1,z2,z3])
         refine takeT (i:=24) (d:=44) (v:=undef) rfl rfl (by kernel_rfl) (by kernel_rfl) (by kernel_rfl) (by kernel_rfl) (fun _ _ _ h=>h) (Or.inr ⟨by kernel_rfl,rfl⟩) (by assumption) ?_
         (try simp only[Act.put,z1,z2,z3])
         refine takeT (i:=25) (d:=45) (v:=undef) rfl rfl (by kernel_rfl) (by kernel_rfl) (by kernel_rfl) (by kernel_rfl) (fun _ _ _ h=>h) (Or.inr ⟨by kernel_rfl,rfl⟩) (by assumption) ?_
         (try simp only[Act.put,z1,z2,z3])
         refine takeT (i:=26) (d:=46) (v:=undef) rfl rfl (by kernel_rfl) (by kernel_rfl) (by kernel_rfl) (by kernel_rfl) (fun _ _ _ h=>h) (Or.inr ⟨by kernel_rfl,rfl⟩) (by assumption) ?_
         (try simp only[Act.put,z1,z2,z3])
         refine takeT (i:=27) (d:=47) (v:=undef) rfl rfl (by kernel_rfl) (by kernel_rfl) (by kernel_rfl) (by kernel_rfl) (fun _ _ _ h=>h) (Or.inr ⟨by kernel_rfl,rfl⟩) (by assumption) ?_
         (try simp only[Act.put,z1,z2,z3])
         refine takeT (i:=28) (d:=48) (v:=undef) rfl rfl (by kernel_rfl) (by kernel_rfl) (by kernel_rfl) (by kernel_rfl) (fun _ _ _ h=>h) (Or.inr ⟨by kernel_rfl,rfl⟩) (by assumption) ?_
         (try simp only[Act.put,z1,z2,z3])
         refine takeT (i:=29) (d:=49) (v:=undef) rfl rfl (by kernel_rfl) (by kernel_rfl) (by kernel_rfl) (by kernel_rfl) (fun _ _ _ h=>h) (Or.inr ⟨by kernel_rfl,rfl⟩) (by assumption) ?_
         (try simp only[Act.put,z1,z2,z3])
         refine takeT (i:=30) (d:=50) (v:=undef) rfl rfl (by kernel_rfl) (by kernel_rfl) (by kernel_rfl) (by kernel_rfl) (fun _ _ _ h=>h) (Or.inr ⟨by kernel_rfl,rfl⟩) (by assumption) ?_
         (try simp only[Act.put,z1,z2,z3])
         refine takeT (i:=31) (d:=51) (v:=undef) rfl rfl (by kernel_rfl) (by kernel_rfl) (by kernel_rfl) (by kernel_rfl) (fun _ _ _ h=>h) (Or.inr ⟨by kernel_rfl,rfl⟩) (by assumption) ?_
         (try simp only[Act.put,z1,z2,z3])
         refine takeT (i:=32) (d:=52) (v:=undef) rfl rfl (by kernel_rfl) (by kernel_rfl) (by kernel_rfl) (by kernel_rfl) (fun _ _ _ h=>h) (Or.inr ⟨by kernel_rfl,rfl⟩) (by assumption) ?_
         (try simp only[Act.put,z1,z2,z3])
         refine takeT (i:=33) (d:=53) (v:=undef) rfl rfl (by kernel_rfl) (by kernel_rfl) (by kernel_rfl) (by kernel_rfl) (fun _ _ _ h=>h) (Or.inr ⟨by kernel_rfl,rfl⟩) (by assumption) ?_
         (try simp only[Act.put,z1,z2,z3])
         refine takeT (i:=34) (d:=54) (v:=undef) rfl rfl (by kernel_rfl) (by kernel_rfl) (by kernel_rfl) (by kernel_rfl) (fun _ _ _ h=>h) (Or.inr ⟨by kernel_rfl,rfl⟩) (by assumption) ?_
         (try simp only[Act.put,z1,z2,z3])
         refine takeT (i:=35) (d:=55) (v:=undef) rfl rfl (by kernel_rfl) (by kernel_rfl) (by kernel_rfl) (by kernel_rfl) (fun _ _ _ h=>h) (Or.inr ⟨by kernel_rfl,rfl⟩) (by assumption) ?_
         (try simp only[Act.put,z1,z2,z3])
         refine takeT (i:=36) (d:=56) (v:=undef) rfl rfl (by kernel_rfl) (by kernel_rfl) (by kernel_rfl) (by kernel_rfl) (fun _ _ _ h=>h) (Or.inr ⟨by kernel_rfl,rfl⟩) (by assumption) ?_
         (try simp only[Act.put,z1,z2,z3])
         refine tk 37 57 ?_
         refine doneT (by kernel_rfl) ?_ _
         clear hHeld
         have HX:=zh hx17
         clear hx5 hb5 hx17 hb17
         go_wp2_with fail
         go_meet
         exact⟨by rw[HOI.out],HX⟩
        exact AllReadyT.nil
       exact AllReadyT.nil
    case rest =>
     obtain⟨rfl,HBC⟩:=hcut
     cases nb with
     | true =>
      have HR:=zh (show VR=false from by
       have h:=HNBE.out
       cases hO:ordAt L i with
       | false=>exact HMO.out hO
       | true =>
        rw[hO] at h
        have h2:nbn=true:=by simpa using h.symm
        exact HMI.out (by rw[HONE.out,HNB.out,h2];rfl))
      clear hil hvF
      go_wp2_with fail
      go_ret
      exact⟨ret_b HR.out.symm,HRE.out _ (HB5.out.trans (HBC.out.mono HB5.out.size))⟩
     | false =>
      have hOT:ordAt L i=true∧nbn=false:=by
       have h:=HNBE.out
       cases hO:ordAt L i with
       | false=>rw[hO] at h;simp at h
       | true=>rw[hO] at h;exact⟨rfl,by simpa using h.symm⟩
      have HOT:=zh hOT.1
      have HON2:=zh (show oneB F ⟨(v:Int),(s:Int),xl,xn,xc⟩=(xc.all (cauOk ND)&&finB (KN:Int) MM xn xl xc) from by rw[HONE.out,HNB.out,hOT.2];rfl)
      clear hOT hil hvF t36
      obtain⟨⟨c0,c1,c2,c3,c4,c5,c6⟩,⟨x0,x1,x2,x3,x4⟩,-⟩:=HSA.out wc HBC.out
      have hbw:=HRE.out _ (HB5.out.trans (HBC.out.mono HB5.out.size))
      obtain⟨-,nm,a0,a4,a5,a6,a7,a8,a9,a10,a11,a12,a13,a14,a15,a16,hvol,hpol,hone⟩:=HPV.out wc hbw
      have HBG:=zh (begin_any EX (KN:Int) MM QQ vl vm vd a0 a4 a5 a6 a7 a8 a9 a10 a11 a12 a13 a14 a15 a16 nm Ad ND cd pb pof ob oof NP NO cp co v p0 wc HVN.out.1 HVN.out.2.1 HVN.out.2.2.1 HVN.out.2.2.2 (by have:=HKB.out;omega) (by have:=HKB.out;omega) ⟨hnd.1,by omega⟩ hvol hpol hone)
      clear hvol hpol hone hbw
      go_wp2_with fail
      refine HBG.out.mono ?_
      rintro e w7 ⟨rfl,hb7⟩
      have HB7:=zh (HBC.out.trans (hb7.mono HBC.out.size))
      clear c0 c1 c2 c3 c4 c5 c6 x0 x1 x2 x3 x4 hb7 HBG
      obtain⟨KM,hKM⟩:∃q:Int,q=(KN:Int)+MM:=⟨_,rfl⟩
      have HKM2:=zh hKM
      have hkm4:0≤KM∧KM≤1000:=by have:=HKB.out;omega
      rw[←hKM]
      clear hKM
      obtain⟨W8,hW8⟩:=zx (w7.alloc (.cells #[.int .i64 0,.int .i64 0,.int .i64 KM,.bool true] 118))
      obtain⟨gt,hgt⟩:=zx w7.heap.size
      have HT8:=zh (show TlyB W8 gt 0 0 KM from by rw[hW8,hgt];exact heap_alloc_new w7 _)
      have HB8:=zh (show Below w7.heap.size w7 W8 from by rw[hW8];exact(Below.refl _ _).alloc (Nat.le_refl _) _)
      have HW8:=zh hW8
      have HGT:=zh hgt
      clear hW8 hgt
      go_upto_region 9 with fail
      rw[←HW8.out,←HGT.out]
      obtain⟨-,⟨x0,x1,x2,x3,x4⟩,-⟩:=HSA.out W8 (HB7.out.trans (HB8.out.mono HB7.out.size))
      go_wp2_with fail
      clear x0 x1 x2 x3 x4
      go_loopg [65] CN (fun z7 v65 wi=>∃j:Nat,v65=.int .i64 (j:Int)∧j≤CN∧z7=CN - j∧Hid (TlyB wi gt (sumG (xc.take j)) (sumA (xc.take j)) (KM - (j:Int)))∧Hid (Below w7.heap.size w7 wi)∧Hid (∀c∈xc.take j,cauOk ND c=true))
      case atStart=>exact⟨0,rfl,Nat.zero_le _,rfl,zh (by rw[List.take_zero];simpa[sumG,sumA] using HT8.out),HB8,zh (fun c hc=>by simp at hc)⟩
      case round =>
       clear HT8 HB8
       obtain⟨j,rfl,hj,rfl,HTJ,HBJ,HCJ⟩:=hrel
       have HBW:=zh (HB7.out.trans (HBJ.out.mono HB7.out.size))
       obtain⟨⟨c0,c1,c2,c3,c4,c5,c6⟩,⟨x0,x1,x2,x3,x4⟩,-⟩:=HSA.out wr HBW.out
       by_cases hlj:j<CN
       ·have HLJ:=zh hlj
        have hjl:j<xc.length:=by rw[←HCC.out];exact hlj
        have hsw:=HRE.out _ (HB5.out.trans (HBW.out.mono HB5.out.size))
        obtain⟨q,qo,qs,hQ,-,-,hqc,hqs⟩:=(SlS.keep cauK HSLr.out (fun bb hb=>by exact((hsw.block bb hb).trans ((HRE.out _ (HB1.out.trans (HBR.out.mono HB1.out.size))).block bb hb).symm))).at_ (k:=j) hjl
        subst hQ
        have HTG:=zh (takeG hjl)
        have HTA:=zh (takeA hjl)
        have HTK:=zh (show xc.take (j+1)=xc.take j++[xc[j]] from List.take_succ_eq_append_getElem hjl)
        have HMEM:=zh (show xc[j]∈xc from List.getElem_mem hjl)
        have HGB:=zh (sumG_bd (xc.take j))
        have HAB:=zh (sumA_bd (xc.take j))
        have HTL:=zh (show((xc.take j).length:Int)≤1000 from by rw[List.length_take];have:=HCN.out;have:=HCC.out;omega)
        obtain⟨c,hc⟩:=zx (xc[j])
        rw[←hc] at hqs HTG HTA HTK HMEM
        obtain⟨e0,e1⟩:=two_cau hqc hqs
        obtain⟨st,dr⟩:=c
        simp only at e0 e1 HTG HTA
        obtain⟨W11,hW11⟩:=zx (wr.alloc (.cells #[.int .i64 st,.int .i64 dr] 102))
        obtain⟨gz,hgz⟩:=zx wr.heap.size
        have hb11:Below wr.heap.size wr W11:=by rw[hW11];exact(Below.refl _ _).alloc (Nat.le_refl _) _
        have hzk:W11.heap[gz]?=some (.cells #[.int .i64 st,.int .i64 dr] 102 (0,0)):=by rw[hW11,hgz];exact heap_alloc_new wr _
        have hzl:gz<W11.heap.size:=(Array.getElem?_eq_some_iff.1 hzk).1
        have HZC:=zh (fun(w':World) (hb:Below W11.heap.size W11 w')=>(show w'.cell? ⟨gz,0,none⟩=some (.int .i64 st)∧w'.cell? ⟨gz,1,none⟩=some (.int .i64 dr) from by
         have h1:=(hb.block gz hzl).trans hzk
         exact⟨by rw[cell_of_row _ _ _ _ _ _ h1];rfl,by rw[cell_of_row _ _ _ _ _ _ h1];rfl⟩))
        have HT11:=zh (HTJ.out.below hb11)
        have HB11:=zh (HBJ.out.trans (hb11.mono HBJ.out.size))
        have hca:=icause_any (.int .i64 EX) vl vm vd (.slice (some ⟨pb,pof,none⟩) NP cp) (.slice (some ⟨ob,oof,none⟩) NO co) Ad ND cd ⟨st,dr⟩ W11 (by omega)
        unfold cauV at hca
        simp only at hca
        obtain⟨okc,hokc⟩:=zx (cauOk ND ⟨st,dr⟩)
        rw[←hokc] at hca
        have HCA:=zh hca
        have HOKC:=zh hokc
        have HW11:=zh hW11
        have HGZ:=zh hgz
        clear x0 x1 x2 x3 x4 hqc hqs hc hW11 hgz hb11 hzk hzl hca hokc hjl hsw hlj
        go_upto_region 12 with fail
        clear e0 e1 c0 c1 c2 c3 c4 c5 c6
        rw[←HW11.out,←HGZ.out]
        obtain⟨⟨c0,c1,c2,c3,c4,c5,c6⟩,-,-⟩:=HSA.out W11 (HB7.out.trans (HB11.out.mono HB7.out.size))
        obtain⟨q0,q1⟩:=HZC.out W11 (Below.refl _ _)
        go_wp2_with fail
        refine HCA.out.mono ?_
        rintro e w12 ⟨rfl,hb12⟩
        have HX12:=zh hb12
        clear c0 c1 c2 c3 c4 c5 c6 q0 q1 hb12
        cases okc with
        | false =>
         have HR:=zh (HMI.out (by
          have:xc.all (cauOk ND)=false:=by rw[List.all_eq_false];exact⟨_,HMEM.out,by rw[←HOKC.out];simp⟩
          rw[HON2.out,this];rfl))
         go_wp2_with fail
         go_ret
         exact⟨ret_b HR.out.symm,HRE.out _ (HB5.out.trans ((HB7.out.trans ((HB11.out.trans (HX12.out.mono HB11.out.size)).mono HB7.out.size)).mono HB5.out.size))⟩
        | true =>
         obtain⟨q0,q1⟩:=HZC.out w12 HX12.out
         have HAD:=zh (add_any gt (sumG (xc.take j)) (sumA (xc.take j)) (KM - (j:Int)) st w12 (HT11.out.below HX12.out) (by have:=HGB.out;have:=HTL.out;omega) (by have:=HAB.out;have:=HTL.out;omega) (by have:=HLJ.out;omega))
         go_wp2_with (go_at_call 53;refine HAD.out.mono ?_;rintro e w13 ⟨rfl,ht13,hh13⟩;have HF:=zh (And.intro ht13 hh13);clear ht13 hh13)
         go_roundg (CN - (j+1))
         case measure=>have:=HLJ.out;omega
         case rel =>
          have hb12':=HB11.out.trans (HX12.out.mono HB11.out.size)
          refine⟨j+1,by go_num,by have:=HLJ.out;omega,rfl,zh ?_,zh (below_hotW hb12' HF.out.2 (fun bb hb=>by simp at hb;rw[hb,HGT.out];exact Nat.le_refl _)),zh (fun c hc=>?_)⟩
          ·rw[HTG.out,HTA.out]
           have h1:=HF.out.1
           have h2:KM - ((j+1:Nat):Int)=KM - (j:Int) - 1:=by omega
           rw[h2];exact h1
          ·rw[HTK.out,List.mem_append,List.mem_singleton] at hc
           rcases hc with hc | hc
           ·exact HCJ.out c hc
           ·rw[hc];exact HOKC.out.symm
       ·have hjc:j=xc.length:=by have:=HCC.out;omega
        have HTKA:=zh (show xc.take j=xc from List.take_of_length_le (by omega))
        have HALL:=zh (show xc.all (cauOk ND)=true from by rw[List.all_eq_true];intro c hc;exact HCJ.out c (by rw[HTKA.out];exact hc))
        have ht:=HTJ.out
        rw[HTKA.out] at ht
        have HGB:=zh (sumG_bd xc)
        have HAB:=zh (sumA_bd xc)
        have hkj:(KM - (j:Int) != 0)=!decide ((xc.length:Int)=(KN:Int)+MM):=by
         rw[←HKM2.out,←hjc]
         by_cases e:(j:Int)=KM
         ·rw[decide_eq_true e];simp[e]
         ·rw[decide_eq_false e];simp;omega
        obtain⟨g0,g1,g2,g3,-,-,-⟩:=ht.cells
        obtain⟨SG,hSG⟩:=zx (sumG xc)
        obtain⟨SA',hSA⟩:=zx (sumA xc)
        rw[←hSG] at ht g0 HGB
        rw[←hSA] at ht g1 HAB
        have HSG:=zh (And.intro hSG hSA)
        have HTT:=zh ht
        have HLX:=zh (show(xc.length:Int)≤1000 from by have:=HCN.out;have:=HCC.out;omega)
        by_cases hk:(xc.length:Int)=(KN:Int)+MM
        ·have hkj':(KM - (j:Int) != 0)=false:=by rw[hkj,decide_eq_true hk];rfl
         have hkz:KM - (j:Int)=0:=by have:=HKM2.out;omega
         rw[hkz] at g2 HTT
         have HFP:=zh (fin_poss (KN:Int) MM xn xl xc hk)
         have hpo:=possible_any gt SG SA' 0 xn xl wr HTT.out (by have:=HGB.out;have:=HLX.out;omega) (by have:=HAB.out;have:=HLX.out;omega) (by omega)
         obtain⟨pb2,hpb2⟩:=zx (possB SG SA' 0 xn xl)
         rw[←hpb2] at hpo
         have HPO:=zh hpo
         have HPB:=zh hpb2
         have HL1:=zh (show i<LN from HLT.out)
         have b16:((0:Int) != 0)=false:=by decide
         clear hkj hkj' hkz hk hjc ht hSG hSA hpo hpb2 c0 c1 c2 c3 c4 c5 c6 x0 x1 x4
         cases pb2 with
         | false =>
          have HR:=zh (HMI.out (by rw[HON2.out,HALL.out,HFP.out,←HSG.out.1,←HSG.out.2,←HPB.out];rfl))
          go_wp2_with (go_at_call 54;refine HPO.out.mono ?_;rintro e w16 ⟨rfl,nq,hw16⟩;have HF:=zh hw16;clear hw16)
          go_ret
          exact⟨ret_b HR.out.symm,by rw[HF.out];exact Below.drewN' (HRE.out _ (HB5.out.trans (HBW.out.mono HB5.out.size))) nq⟩
         | true =>
          have HN:=zh (HOKI.out (by rw[HON2.out,HALL.out,HFP.out,←HSG.out.1,←HSG.out.2,←HPB.out];rfl) HOT.out)
          go_wp2_with (go_at_call 54;refine HPO.out.mono ?_;rintro e w16 ⟨rfl,nq,hw16⟩;have HF:=zh hw16;clear hw16)
          go_roundg (LN - (i+1))
          case measure=>have:=HL1.out;omega
          case rel=>exact⟨i+1,by go_num,by have:=HL1.out;omega,rfl,HN,zh (by rw[HF.out];exact Below.drewN' (HB15.out.trans (HBW.out.mono HB15.out.size)) nq)⟩
        ·have hkj':(KM - (j:Int) != 0)=true:=by rw[hkj,decide_eq_false hk];rfl
         have HR:=zh (HMI.out (by rw[HON2.out,HALL.out,fin_no _ _ _ _ _ hk];rfl))
         clear hkj hk hjc ht hSG hSA c0 c1 c2 c3 c4 c5 c6 x0 x1 x4
         go_wp2_with fail
         go_ret
         exact⟨ret_b HR.out.symm,HRE.out _ (HB5.out.trans (HBW.out.mono HB5.out.size))⟩
   ·have hstr':isStr NO EX xv xs=false:=by simpa using hstr
    rw[hstr'] at his
    have HIS:=zh (fun(w':World) (_:Below W5.heap.size W5 w')=>his w')
    have HR:=zh (HMI.out (one_str (by rw[←HE.out.1,←HE.out.2.2.1];exact hstr')))
    clear his hstr hstr' hil
    refine region_tail (S:=(fun w'=>(w'.cell? ⟨z,0,none⟩=some (.int .i64 EX)∧w'.cell? ⟨z,1,none⟩=some vl∧w'.cell? ⟨z,2,none⟩=some vm∧w'.cell? ⟨z,3,none⟩=some vd∧w'.cell? ⟨z,4,none⟩=some (.slice Ad ND cd)∧w'.cell? ⟨z,5,none⟩=some (.slice (some ⟨pb,pof,none⟩) NP cp)∧w'.cell? ⟨z,6,none⟩=some (.slice (some ⟨ob,oof,none⟩) NO co))∧(w'.cell? ⟨gx,0,none⟩=some (.int .i64 xv)∧w'.cell? ⟨gx,1,none⟩=some (.int .i64 xs)∧w'.cell? ⟨gx,2,none⟩=some (.bool xl)∧w'.cell? ⟨gx,3,none⟩=some (.int .i64 xn)∧w'.cell? ⟨gx,4,none⟩=some (.slice Ax CN cx))∧Below W5.heap.size W5 w')) [] (by kernel_rfl) (HSA.out _ (Below.refl W5.heap.size W5).drew) (fun hHeld=>?_)
    refine tk 0 20 ?_
    refine tk 1 21 ?_
    refine tk 2 22 ?_
    refine tk 3 23 ?_
    refine tk 4 24 ?_
    refine readyT (rs:=[5]) (by kernel_rfl) (by simp) ?_
    refine AllReadyT.cons rfl (fun K hK=>?_) ?_
    ·go_simp
     refine(HIS.out _ (Below.refl W5.heap.size W5).drew).mono ?_
     rintro e w5 ⟨rfl,hb5⟩
     have hx5:=((Below.refl W5.heap.size W5).drew).trans (hb5.mono ((Below.refl W5.heap.size W5).drew).size)
     refine hK.out _ _ ?_ (fun hHeld=>?_)
     ·exact HSA.out _ hx5
     clear hK K
     (try simp only[Act.put,z1,z2,z3])
     refine tk 6 26 ?_
     refine tk 7 27 ?_
     refine takeT (i:=8) (d:=28) (v:=undef) rfl rfl (by kernel_rfl) (by kernel_rfl) (by kernel_rfl) (by kernel_rfl) (fun _ _ _ h=>h) (Or.inr ⟨by kernel_rfl,rfl⟩) (by assumption) ?_
     (try simp only[Act.put,z1,z2,z3])
     refine takeT (i:=9) (d:=29) (v:=undef) rfl rfl (by kernel_rfl) (by kernel_rfl) (by kernel_rfl) (by kernel_rfl) (fun _ _ _ h=>h) (Or.inr ⟨by kernel_rfl,rfl⟩) (by assumption) ?_
     (try simp only[Act.put,z1,z2,z3])
     refine takeT (i:=10) (d:=30) (v:=undef) rfl rfl (by kernel_rfl) (by kernel_rfl) (by kernel_rfl) (by kernel_rfl) (fun _ _ _ h=>h) (Or.inr ⟨by kernel_rfl,rfl⟩) (by assumption) ?_
     (try simp only[Act.put,z1,z2,z3])
     refine takeT (i:=11) (d:=31) (v:=undef) rfl rfl (by kernel_rfl) (by kernel_rfl) (by kernel_rfl) (by kernel_rfl) (fun _ _ _ h=>h) (Or.inr ⟨by kernel_rfl,rfl⟩) (by assumption) ?_
     (try simp only[Act.put,z1,z2,z3])
     refine takeT (i:=12) (d:=32) (v:=undef) rfl rfl (by kernel_rfl) (by kernel_rfl) (by kernel_rfl) (by kernel_rfl) (fun _ _ _ h=>h) (Or.inr ⟨by kernel_rfl,rfl⟩) (by assumption) ?_
     (try simp only[Act.put,z1,z2,z3])
     refine takeT (i:=13) (d:=33) (v:=undef) rfl rfl (by kernel_rfl) (by kernel_rfl) (by kernel_rfl) (by kernel_rfl) (fun _ _ _ h=>h) (Or.inr ⟨by kernel_rfl,rfl⟩) (by assumption) ?_
     (try simp only[Act.put,z1,z2,z3])
     refine takeT (i:=14) (d:=34) (v:=undef) rfl rfl (by kernel_rfl) (by kernel_rfl) (by kernel_rfl) (by kernel_rfl) (fun _ _ _ h=>h) (Or.inr ⟨by kernel_rfl,rfl⟩) (by assumption) ?_
     (try simp only[Act.put,z1,z2,z3])
     refine takeT (i:=15) (d:=35) (v:=undef) rfl rfl (by kernel_rfl) (by kernel_rfl) (by kernel_rfl) (by kernel_rfl) (fun _ _ _ h=>h) (Or.inr ⟨by kernel_rfl,rfl⟩) (by assumption) ?_
     (try simp only[Act.put,z1,z2,z3])
     refine takeT (i:=16) (d:=36) (v:=undef) rfl rfl (by kernel_rfl) (by kernel_rfl) (by kernel_rfl) (by kernel_rfl) (fun _ _ _ h=>h) (Or.inr ⟨by kernel_rfl,rfl⟩) (by assumption) ?_
     (try simp only[Act.put,z1,z2,z3])
     refine takeT (i:=17) (d:=37) (v:=undef) rfl rfl (by kernel_rfl) (by kernel_rfl) (by kernel_rfl) (by kernel_rfl) (fun _ _ _ h=>h) (Or.inr ⟨by kernel_rfl,rfl⟩) (by assumption) ?_
     (try simp only[Act.put,z1,z2,z3])
     refine takeT (i:=18) (d:=38) (v:=undef) rfl rfl (by kernel_rfl) (by kernel_rfl) (by kernel_rfl) (by kernel_rfl) (fun _ _ _ h=>h) (Or.inr ⟨by kernel_rfl,rfl⟩) (by assumption) ?_
     (try simp only[Act.put,z1,z2,z3])
     refine takeT (i:=19) (d:=39) (v:=undef) rfl rfl (by kernel_rfl) (by kernel_rfl) (by kernel_rfl) (by kernel_rfl) (fun _ _ _ h=>h) (Or.inr ⟨by kernel_rfl,rfl⟩) (by assumption) ?_
     (try simp only[Act.put,z1,z2,z3])
     refine tk 20 40 ?_
     refine tk 21 41 ?_
     refine takeT (i:=22) (d:=42) (v:=undef) rfl rfl (by kernel_rfl) (by kernel_rfl) (by kernel_rfl) (by kernel_rfl) (fun _ _ _ h=>h) (Or.inr ⟨by kernel_rfl,rfl⟩) (by assumption) ?_
     (try simp only[Act.put,z1,z2,z3])
     refine takeT (i:=23) (d:=43) (v:=undef) rfl rfl (by kernel_rfl) (by kernel_rfl) (by kernel_rfl) (by kernel_rfl) (fun _ _ _ h=>h) (Or.inr ⟨by kernel_rfl,rfl⟩) (by assumption) ?_
     (try simp only[Act.put,z1,z2,z3])
     refine takeT (i:=24) (d:=44) (v:=undef) rfl rfl (by kernel_rfl) (by kernel_rfl) (by kernel_rfl) (by kernel_rfl) (fun _ _ _ h=>h) (Or.inr ⟨by kernel_rfl,rfl⟩) (by assumption) ?_
     (try simp only[Act.put,z1,z2,z3])
     refine takeT (i:=25) (d:=45) (v:=undef) rfl rfl (by kernel_rfl) (by kernel_rfl) (by kernel_rfl) (by kernel_rfl) (fun _ _ _ h=>h) (Or.inr ⟨by kernel_rfl,rfl⟩) (by assumption) ?_
     (try simp only[Act.put,z1,z2,z3])
     refine takeT (i:=26) (d:=46) (v:=undef) rfl rfl (by kernel_rfl) (by kernel_rfl) (by kernel_rfl) (by kernel_rfl) (fun _ _ _ h=>h) (Or.inr ⟨by kernel_rfl,rfl⟩) (by assumption) ?_
     (try simp only[Act.put,z1,z2,z3])
     refine takeT (i:=27) (d:=47) (v:=undef) rfl rfl (by kernel_rfl) (by kernel_rfl) (by kernel_rfl) (by kernel_rfl) (fun _ _ _ h=>h) (Or.inr ⟨by kernel_rfl,rfl⟩) (by assumption) ?_
     (try simp only[Act.put,z1,z2,z3])
     refine takeT (i:=28) (d:=48) (v:=undef) rfl rfl (by kernel_rfl) (by kernel_rfl) (by kernel_rfl) (by kernel_rfl) (fun _ _ _ h=>h) (Or.inr ⟨by kernel_rfl,rfl⟩) (by assumption) ?_
     (try simp only[Act.put,z1,z2,z3])
     refine takeT (i:=29) (d:=49) (v:=undef) rfl rfl (by kernel_rfl) (by kernel_rfl) (by kernel_rfl) (by kernel_rfl) (fun _ _ _ h=>h) (Or.inr ⟨by kernel_rfl,rfl⟩) (by assumption) ?_
     (try simp only[Act.put,z1,z2,z3])
     refine takeT (i:=30) (d:=50) (v:=undef) rfl rfl (by kernel_rfl) (by kernel_rfl) (by kernel_rfl) (by kernel_rfl) (fun _ _ _ h=>h) (Or.inr ⟨by kernel_rfl,rfl⟩) (by assumption) ?_
     (try simp only[Act.put,z1,z2,z3])
     refine takeT (i:=31) (d:=51) (v:=undef) rfl rfl (by kernel_rfl) (by kernel_rfl) (by kernel_rfl) (by kernel_rfl) (fun _ _ _ h=>h) (Or.inr ⟨by kernel_rfl,rfl⟩) (by assumption) ?_
     (try simp only[Act.put,z1,z2,z3])
     refine takeT (i:=32) (d:=52) (v:=undef) rfl rfl (by kernel_rfl) (by kernel_rfl) (by kernel_rfl) (by kernel_rfl) (fun _ _ _ h=>h) (Or.inr ⟨by kernel_rfl,rfl⟩) (by assumption) ?_
     (try simp only[Act.put,z1,z2,z3])
     refine takeT (i:=33) (d:=53) (v:=undef) rfl rfl (by kernel_rfl) (by kernel_rfl) (by kernel_rfl) (by kernel_rfl) (fun _ _ _ h=>h) (Or.inr ⟨by kernel_rfl,rfl⟩) (by assumption) ?_
     (try simp only[Act.put,z1,z2,z3])
     refine takeT (i:=34) (d:=54) (v:=undef) rfl rfl (by kernel_rfl) (by kernel_rfl) (by kernel_rfl) (by kernel_rfl) (fun _ _ _ h=>h) (Or.inr ⟨by kernel_rfl,rfl⟩) (by assumption) ?_
     (try simp only[Act.put,z1,z2,z3])
     refine takeT (i:=35) (d:=55) (v:=undef) rfl rfl (by kernel_rfl) (by kernel_rfl) (by kernel_rfl) (by kernel_rfl) (fun _ _ _ h=>h) (Or.inr ⟨by kernel_rfl,rfl⟩) (by assumption) ?_
     (try simp only[Act.put,z1,z2,z3])
     refine takeT (i:=36) (d:=56) (v:=undef) rfl rfl (by kernel_rfl) (by kernel_rfl) (by kernel_rfl) (by kernel_rfl) (fun _ _ _ h=>h) (Or.inr ⟨by kernel_rfl,rfl⟩) (by assumption) ?_
     (try simp only[Act.put,z1,z2,z3])
     refine tk 37 57 ?_
     refine doneT (by kernel_rfl) ?_ _
     clear hHeld
     have HX:=zh hx5
     clear hx5 hb5
     go_wp2_with fail
     go_ret
     exact⟨ret_b HR.out.symm,HRE.out _ (HB5.out.trans (HX.out.mono HB5.out.size))⟩
    exact AllReadyT.nil
  ·have HR:=zh (HHIT.out (fun k hk=>HOKS.out k (by have:=HLN.out;omega)))
   go_wp2_with fail
   go_ret
   exact⟨ret_b HR.out.symm,HB0.out.trans ((HB1.out.trans (HBR.out.mono HB1.out.size)).mono HB0.out.size)⟩
end Go.Proofs.YtcfkllnpkmebpaaGreatDoor
