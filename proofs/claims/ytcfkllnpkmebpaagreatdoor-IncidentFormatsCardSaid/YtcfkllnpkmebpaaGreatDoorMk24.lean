/- The reference's Valid, walked. -/
import Derived.Test.YtcfkllnpkmebpaaGreatDoorMk22
import Derived.Test.YtcfkllnpkmebpaaGreatDoorMk23
import Derived.Test.YtcfkllnpkmebpaaGreatDoorMk19
import Derived.Test.YtcfkllnpkmebpaaGreatDoorMk01
set_option maxRecDepth 100000
set_option maxHeartbeats 12800000
namespace Go.Proofs.YtcfkllnpkmebpaaGreatDoor
open Go.RowKit
set_option linter.unusedVariables false
set_option linter.unusedSimpArgs false
theorem rvalidI_any(N:Nat) (hN:N≤12) (vl vm vd vv vp vo vL:Value) (F:FltM) (L:List Inc) (w:World) (hf:FleetS w (Bl w.heap.size) vl vm vd vv vp vo F) (hok:FleetOk N F) (hL:SlS 5 IncK w (Bl w.heap.size) vL L) (hlen:L.length≤1000) (hcl:∀x∈L,x.causes.length≤1000) :
  Calls Tryz.prog 17 #[.agg #[.int .i64 F.ext,vl,vm,vd,vv,vp,vo],vL] w fun e w'=>e=.returned (.bool (validB F L))∧Below w.heap.size w w':=by
 have HKM:=zh (fun(a:Nat) (ha:a<F.vols.length)=>kmq_ok hok ha)
 obtain⟨pb,pof,ob,oof,cp,co,rfl,rfl,hRp,hRo,hPA⟩:=polAt hf hok
 obtain⟨Ad,cd,rfl,-,hmd⟩:=SlS.form hf.2.2.2.1
 obtain⟨AL,cL,rfl,-,-⟩:=hL.form
 have HVA:=zh (fun(w':World) (hb:Below w.heap.size w w')=>rvalidate_any N hN vl vm vd _ _ _ F w' (hf.below hb) hok)
 have HLW:=zh (fun(w':World) (hb:Below w.heap.size w w')=>(show SlS 5 IncK w' (Bl w.heap.size) _ L from SlS.keep incK hL (fun b h=>hb.block b h)))
 have HPW:=zh (fun(w':World) (hb:Below w.heap.size w w') (v:Nat) (hv:v<F.vols.length)=>(show volP F v<F.pols.length∧∃nm a0 a4 a5 a6 a7 a8 a9 a10 a11 a12 a13 a14 a15 a16,w'.rangeAt ob (oof+v * 2) [.string nm,.int .i64 (volP F v:Int)]∧w'.rangeAt pb (pof+volP F v * 17) [a0,.int .i64 (kOf F v),.int .i64 (mOf F v),.int .i64 (qOf F v),a4,a5,a6,a7,a8,a9,a10,a11,a12,a13,a14,a15,a16]∧(#[a0,.int .i64 (kOf F v),.int .i64 (mOf F v),.int .i64 (qOf F v),a4,a5,a6,a7,a8,a9,a10,a11,a12,a13,a14,a15,a16]:Array Value).all (·.oneCell')=true from by
  obtain⟨hpl,nm,hvol,a0,a4,a5,a6,a7,a8,a9,a10,a11,a12,a13,a14,a15,a16,hpol,hone⟩:=hPA v hv
  exact⟨hpl,nm,a0,a4,a5,a6,a7,a8,a9,a10,a11,a12,a13,a14,a15,a16,range_same hvol (hb.block ob hRo),range_same hpol (hb.block pb hRp),hone⟩))
 have hext:F.ext=1∨F.ext=2:=hok.ext
 have hno:F.vols.length≤12:=Nat.le_trans hok.volN hN
 have hnp:=hok.polN
 have hnd:1≤F.dves.length∧F.dves.length≤9:=⟨hok.dve1,hok.dveN⟩
 obtain⟨VR,hVR⟩:=zx (validB F L)
 have HHIT:=zh (show(∀k,k<L.length→okAt F L k=true)→VR=true from fun h=>by rw[hVR];exact valid_hit h)
 have HMISS:=zh (show ∀i,i<L.length→okAt F L i=false→VR=false from fun i hi h=>by rw[hVR];exact valid_miss hi h)
 rw[←hVR]
 have HCL:=zh hcl
 obtain⟨EX,hEX⟩:=zx F.ext
 obtain⟨ND,hND⟩:=zx F.dves.length
 obtain⟨NO,hNO⟩:=zx F.vols.length
 obtain⟨NP,hNP⟩:=zx F.pols.length
 obtain⟨LN,hLN⟩:=zx L.length
 rw[←hEX,←hND,←hNO,←hNP] at HVA ⊢
 rw[←hLN] at HLW hlen ⊢
 rw[←hEX] at hext
 rw[←hND] at hnd
 rw[←hNO] at hno
 rw[←hNP] at hnp
 have HE:=zh (And.intro hEX (And.intro hND (And.intro hNO hNP)))
 have HLN:=zh hLN
 obtain⟨W0,hW0⟩:=zx (w.alloc (.cells #[.int .i64 EX,vl,vm,vd,.slice Ad ND cd,.slice (some ⟨pb,pof,none⟩) NP cp,.slice (some ⟨ob,oof,none⟩) NO co] 35))
 obtain⟨z,hz⟩:=zx w.heap.size
 have hb0:Below w.heap.size w W0:=by rw[hW0];exact(Below.refl _ _).alloc (Nat.le_refl _) _
 have hzk:W0.heap[z]?=some (.cells #[.int .i64 EX,vl,vm,vd,.slice Ad ND cd,.slice (some ⟨pb,pof,none⟩) NP cp,.slice (some ⟨ob,oof,none⟩) NO co] 35 (0,0)):=by rw[hW0,hz];exact heap_alloc_new w _
 have hzl:z<W0.heap.size:=(Array.getElem?_eq_some_iff.1 hzk).1
 have HC:=zh (fun(w':World) (hb:Below W0.heap.size W0 w')=>(show w'.cell? ⟨z,0,none⟩=some (.int .i64 EX)∧w'.cell? ⟨z,1,none⟩=some vl∧w'.cell? ⟨z,2,none⟩=some vm∧w'.cell? ⟨z,3,none⟩=some vd∧w'.cell? ⟨z,4,none⟩=some (.slice Ad ND cd)∧w'.cell? ⟨z,5,none⟩=some (.slice (some ⟨pb,pof,none⟩) NP cp)∧w'.cell? ⟨z,6,none⟩=some (.slice (some ⟨ob,oof,none⟩) NO co) from cells7 ((hb.block z hzl).trans hzk)))
 have HRE:=zh (fun(w':World) (hb:Below W0.heap.size W0 w')=>hb0.trans (hb.mono hb0.size))
 have HW0:=zh hW0
 have HZ:=zh hz
 have HB0:=zh hb0
 obtain⟨c0,c1,c2,c3,c4,c5,c6⟩:=HC.out W0 (Below.refl _ _)
 clear hf hok hL hcl hPA hRp hRo hmd hVR hEX hND hNO hNP hLN hW0 hz hb0 hzk hzl hN
 go_enter Tryz.func17,Tryz.ntmps17
 go_upto_region 1 with fail
 rw[←HW0.out,←HZ.out]
 go_wp2_with fail
 refine(HVA.out _ HB0.out).mono ?_
 rintro e w1 ⟨rfl,hb1⟩
 have HB1:=zh hb1
 clear c0 c1 c2 c3 c4 c5 c6 hb1
 go_wp2_with fail
 go_loopg [5] LN (fun z v5 wr=>∃i:Nat,v5=.int .i64 (i:Int)∧i≤LN∧z=LN - i∧Hid (∀k,k<i→okAt F L k=true)∧Hid (Below w1.heap.size w1 wr))
 case atStart=>exact⟨0,rfl,Nat.zero_le _,rfl,zh (fun k hk=>by omega),zh (Below.refl _ _)⟩
 case round =>
  obtain⟨i,rfl,hi,rfl,HOKS,HBR⟩:=hrel
  by_cases hlt:i<LN
  ·have HLT:=zh hlt
   have hil:i<L.length:=by rw[←HLN.out];exact hlt
   have hb0r:=HB1.out.trans (HBR.out.mono HB1.out.size)
   obtain⟨b,off,cs,hA,hRb,-,hc,hcs⟩:=(HLW.out wr (HRE.out wr hb0r)).at_ (k:=i) hil
   subst hA
   have HLC:=zh (fun(k:Nat) (hk:k<L.length) (w':World) (hb:Below w.heap.size w w')=>(show ∃Ax cx,w'.cell? ⟨b,off+k * 5,none⟩=some (.int .i64 L[k].vol)∧w'.cell? ⟨b,off+k * 5+1,none⟩=some (.int .i64 L[k].stripe)∧w'.cell? ⟨b,off+k * 5+2,none⟩=some (.bool L[k].lost)∧w'.cell? ⟨b,off+k * 5+3,none⟩=some (.int .i64 L[k].need)∧w'.cell? ⟨b,off+k * 5+4,none⟩=some (.slice Ax L[k].causes.length cx)∧SlS 2 CauK w' (Bl w.heap.size) (.slice Ax L[k].causes.length cx) L[k].causes from by
    obtain⟨b',off',cs',hA',-,-,hc',hcs'⟩:=(HLW.out w' hb).at_ (k:=k) hk
    injection hA' with hA'
    injection hA' with hb1 ho1
    subst hb1;subst ho1
    obtain⟨Ax,cx,x0,x1,x2,x3,x4,hsl,-⟩:=five_inc hc' hcs'
    exact⟨Ax,cx,x0,x1,x2,x3,x4,hsl⟩))
   clear hc hcs cs
   obtain⟨Ax,cx,x0,x1,x2,x3,x4,hsl⟩:=HLC.out i hil wr (HRE.out wr hb0r)
   have hSLr:=hsl
   have HCN:=zh (HCL.out _ (List.getElem_mem hil))
   have HEL:=zh (getBang hil)
   obtain⟨x,hx⟩:=zx (L[i])
   rw[←hx] at x0 x1 x2 x3 x4 hSLr hsl HCN HEL
   have HSLr:=zh hSLr
   obtain⟨CN,hCN⟩:=zx x.causes.length
   rw[←hCN] at x4 HSLr HCN
   have HCC:=zh hCN
   have hcn:(CN:Int)≤1000:=by have:=HCN.out;omega
   have HMI:=zh (fun(h:oneB F x=false)=>HMISS.out i hil (ok_one (by rw[HEL.out];exact h)))
   have HMO:=zh (fun(h:ordAt L i=false)=>HMISS.out i hil (by unfold okAt;rw[h,Bool.and_false]))
   have HOKI:=zh (fun(h:oneB F x=true) (h2:ordAt L i=true)=>(show ∀k,k<i+1→okAt F L k=true from fun k hk=>by
    by_cases e:k=i
    ·subst e;unfold okAt;rw[HEL.out,h,h2];rfl
    ·exact HOKS.out k (by omega)))
   have HORDAT:=zh (show ∀(hi0:0<i),ordAt L i=incLtB L[i - 1]! x from fun hi0=>by
    unfold ordAt
    rw[decide_eq_false (by omega),Bool.false_or,HEL.out])
   have HPREV:=zh (show ∀(hi0:0<i),oneB F L[i - 1]! = true from fun hi0=>by
    have:=HOKS.out (i - 1) (by omega)
    unfold okAt at this
    rw[Bool.and_eq_true] at this
    exact this.1)
   obtain⟨xv,xs,xl,xn,xc⟩:=x
   simp only at x0 x1 x2 x3 x4 hCN HSLr HCC
   have hbl:b<wr.heap.size:=World.block_lt_of_cell? wr _ x0
   have HXX:=zh (And.intro x0 (And.intro x1 (And.intro x2 (And.intro x3 x4))))
   have hbw1:b<w.heap.size:=hRb
   have HW1R:=zh (HB0.out.trans (HB1.out.mono HB0.out.size))
   have HSA:=zh (fun(w':World) (hb:Below w1.heap.size w1 w')=>(show(w'.cell? ⟨z,0,none⟩=some (.int .i64 EX)∧w'.cell? ⟨z,1,none⟩=some vl∧w'.cell? ⟨z,2,none⟩=some vm∧w'.cell? ⟨z,3,none⟩=some vd∧w'.cell? ⟨z,4,none⟩=some (.slice Ad ND cd)∧w'.cell? ⟨z,5,none⟩=some (.slice (some ⟨pb,pof,none⟩) NP cp)∧w'.cell? ⟨z,6,none⟩=some (.slice (some ⟨ob,oof,none⟩) NO co))∧(w'.cell? ⟨b,off+i * 5,none⟩=some (.int .i64 xv)∧w'.cell? ⟨b,off+i * 5+1,none⟩=some (.int .i64 xs)∧w'.cell? ⟨b,off+i * 5+2,none⟩=some (.bool xl)∧w'.cell? ⟨b,off+i * 5+3,none⟩=some (.int .i64 xn)∧w'.cell? ⟨b,off+i * 5+4,none⟩=some (.slice Ax CN cx))∧Below w1.heap.size w1 w' from by
    have hc:=HC.out w' (HB1.out.trans (hb.mono HB1.out.size))
    have m:∀o u,wr.cell? ⟨b,o,none⟩=some u→w'.cell? ⟨b,o,none⟩=some u:=fun o u hu=>by
     have h1:=hb.cell (p:=⟨b,o,none⟩) (Nat.lt_of_lt_of_le hbw1 HW1R.out.size)
     have h2:=HBR.out.cell (p:=⟨b,o,none⟩) (Nat.lt_of_lt_of_le hbw1 HW1R.out.size)
     exact h1.trans (h2.symm.trans hu)
    exact⟨hc,⟨m _ _ HXX.out.1,m _ _ HXX.out.2.1,m _ _ HXX.out.2.2.1,m _ _ HXX.out.2.2.2.1,m _ _ HXX.out.2.2.2.2⟩,hb⟩))
   obtain⟨OB,hOB⟩:=zx (oneB F ⟨xv,xs,xl,xn,xc⟩)
   have hone:=fun(w':World) (hb:Below w1.heap.size w1 w')=>one_any EX vl vm vd F Ad cd pb pof ob oof cp co CN cx ND NO NP Ax xv xs xn xl xc w' HE.out.1 HE.out.2.1 HE.out.2.2.1 HE.out.2.2.2 hext (by omega) (by omega) (by omega) (fun v hv=>by have:=HKM.out v hv;exact⟨this.1,this.2.1,this.2.2.1⟩) (fun w2 hb2 v hv=>by
     obtain⟨h1,nm,a0,a4,a5,a6,a7,a8,a9,a10,a11,a12,a13,a14,a15,a16,h2,h3,h4⟩:=HPW.out w2 ((HRE.out w' (HB1.out.trans (hb.mono HB1.out.size))).trans (hb2.mono (HRE.out w' (HB1.out.trans (hb.mono HB1.out.size))).size)) v hv
     exact⟨h1,nm,a0,a4,a5,a6,a7,a8,a9,a10,a11,a12,a13,a14,a15,a16,h2,h3,h4⟩) HCC.out (SlS.mono cauK (SlS.keep cauK HSLr.out (fun bb hbb=>by exact((HRE.out w' (HB1.out.trans (hb.mono HB1.out.size))).block bb hbb).trans ((HRE.out wr (HB1.out.trans (HBR.out.mono HB1.out.size))).block bb hbb).symm)) (fun bb hbb=>Nat.lt_of_lt_of_le hbb (HRE.out w' (HB1.out.trans (hb.mono HB1.out.size))).size)) (by omega)
   rw[←hOB] at hone HMI HOKI
   have HONE:=zh hone
   obtain⟨nb,hnb⟩:=zx ((!OB||!ordAt L i))
   have HNBE:=zh hnb
   have HHB:=zh hRb
   clear hx hCN hsl hSLr hb0r hOB hone hnb hbl hbw1 hRb
   go_upto_region 6 with fail
   clear x0 x1 x2 x3 x4
   go_cut [67] from 15 to 67 (fun v67 wc=>v67=.bool nb∧Hid (Below w1.heap.size w1 wc))
   case first =>
    cases OB with
    | false =>
     have HOI:=zh (show nb=true from by rw[HNBE.out];rfl)
     refine region_tail (S:=(fun w'=>(w'.cell? ⟨z,0,none⟩=some (.int .i64 EX)∧w'.cell? ⟨z,1,none⟩=some vl∧w'.cell? ⟨z,2,none⟩=some vm∧w'.cell? ⟨z,3,none⟩=some vd∧w'.cell? ⟨z,4,none⟩=some (.slice Ad ND cd)∧w'.cell? ⟨z,5,none⟩=some (.slice (some ⟨pb,pof,none⟩) NP cp)∧w'.cell? ⟨z,6,none⟩=some (.slice (some ⟨ob,oof,none⟩) NO co))∧(w'.cell? ⟨b,off+i * 5,none⟩=some (.int .i64 xv)∧w'.cell? ⟨b,off+i * 5+1,none⟩=some (.int .i64 xs)∧w'.cell? ⟨b,off+i * 5+2,none⟩=some (.bool xl)∧w'.cell? ⟨b,off+i * 5+3,none⟩=some (.int .i64 xn)∧w'.cell? ⟨b,off+i * 5+4,none⟩=some (.slice Ax CN cx))∧Below w1.heap.size w1 w')) [] (by kernel_rfl) (HSA.out _ HBR.out.drew) (fun hHeld=>?_)
     refine tk 0 15 ?_
     refine tk 1 16 ?_
     refine tk 2 17 ?_
     refine tk 3 18 ?_
     refine tk 4 19 ?_
     refine readyT (rs:=[5]) (by kernel_rfl) (by simp) ?_
     refine AllReadyT.cons rfl (fun K hK=>?_) ?_
     ·go_simp
      refine(HONE.out _ HBR.out.drew).mono ?_
      rintro e w5 ⟨rfl,hb5⟩
      have hx5:=(HBR.out.drew).trans (hb5.mono (HBR.out.drew).size)
      refine hK.out _ _ ?_ (fun hHeld=>?_)
      ·exact HSA.out _ hx5
      clear hK K
      (try simp only[Act.put,z1,z2,z3])
      refine tk 6 21 ?_
      refine tk 7 22 ?_
      refine takeT (i:=8) (d:=23) (v:=undef) rfl rfl (by kernel_rfl) (by kernel_rfl) (by kernel_rfl) (by kernel_rfl) (fun _ _ _ h=>h) (Or.inr ⟨by kernel_rfl,rfl⟩) (by assumption) ?_
      (try simp only[Act.put,z1,z2,z3])
      refine takeT (i:=9) (d:=24) (v:=undef) rfl rfl (by kernel_rfl) (by kernel_rfl) (by kernel_rfl) (by kernel_rfl) (fun _ _ _ h=>h) (Or.inr ⟨by kernel_rfl,rfl⟩) (by assumption) ?_
      (try simp only[Act.put,z1,z2,z3])
      refine takeT (i:=10) (d:=25) (v:=undef) rfl rfl (by kernel_rfl) (by kernel_rfl) (by kernel_rfl) (by kernel_rfl) (fun _ _ _ h=>h) (Or.inr ⟨by kernel_rfl,rfl⟩) (by assumption) ?_
      (try simp only[Act.put,z1,z2,z3])
      refine takeT (i:=11) (d:=26) (v:=undef) rfl rfl (by kernel_rfl) (by kernel_rfl) (by kernel_rfl) (by kernel_rfl) (fun _ _ _ h=>h) (Or.inr ⟨by kernel_rfl,rfl⟩) (by assumption) ?_
      (try simp only[Act.put,z1,z2,z3])
      refine takeT (i:=12) (d:=27) (v:=undef) rfl rfl (by kernel_rfl) (by kernel_rfl) (by kernel_rfl) (by kernel_rfl) (fun _ _ _ h=>h) (Or.inr ⟨by kernel_rfl,rfl⟩) (by assumption) ?_
      (try simp only[Act.put,z1,z2,z3])
      refine takeT (i:=13) (d:=28) (v:=undef) rfl rfl (by kernel_rfl) (by kernel_rfl) (by kernel_rfl) (by kernel_rfl) (fun _ _ _ h=>h) (Or.inr ⟨by kernel_rfl,rfl⟩) (by assumption) ?_
      (try simp only[Act.put,z1,z2,z3])
      refine takeT (i:=14) (d:=29) (v:=undef) rfl rfl (by kernel_rfl) (by kernel_rfl) (by kernel_rfl) (by kernel_rfl) (fun _ _ _ h=>h) (Or.inr ⟨by kernel_rfl,rfl⟩) (by assumption) ?_
      (try simp only[Act.put,z1,z2,z3])
      refine takeT (i:=15) (d:=30) (v:=undef) rfl rfl (by kernel_rfl) (by kernel_rfl) (by kernel_rfl) (by kernel_rfl) (fun _ _ _ h=>h) (Or.inr ⟨by kernel_rfl,rfl⟩) (by assumption) ?_
      (try simp only[Act.put,z1,z2,z3])
      refine takeT (i:=16) (d:=31) (v:=undef) rfl rfl (by kernel_rfl) (by kernel_rfl) (by kernel_rfl) (by kernel_rfl) (fun _ _ _ h=>h) (Or.inr ⟨by kernel_rfl,rfl⟩) (by assumption) ?_
      (try simp only[Act.put,z1,z2,z3])
      refine takeT (i:=17) (d:=32) (v:=undef) rfl rfl (by kernel_rfl) (by kernel_rfl) (by kernel_rfl) (by kernel_rfl) (fun _ _ _ h=>h) (Or.inr ⟨by kernel_rfl,rfl⟩) (by assumption) ?_
      (try simp only[Act.put,z1,z2,z3])
      refine takeT (i:=18) (d:=33) (v:=undef) rfl rfl (by kernel_rfl) (by kernel_rfl) (by kernel_rfl) (by kernel_rfl) (fun _ _ _ h=>h) (Or.inr ⟨by kernel_rfl,rfl⟩) (by assumption) ?_
      (try simp only[Act.put,z1,z2,z3])
      refine takeT (i:=19) (d:=34) (v:=undef) rfl rfl (by kernel_rfl) (by kernel_rfl) (by kernel_rfl) (by kernel_rfl) (fun _ _ _ h=>h) (Or.inr ⟨by kernel_rfl,rfl⟩) (by assumption) ?_
      (try simp only[Act.put,z1,z2,z3])
      refine takeT (i:=20) (d:=35) (v:=undef) rfl rfl (by kernel_rfl) (by kernel_rfl) (by kernel_rfl) (by kernel_rfl) (fun _ _ _ h=>h) (Or.inr ⟨by kernel_rfl,rfl⟩) (by assumption) ?_
      (try simp only[Act.put,z1,z2,z3])
      refine takeT (i:=21) (d:=36) (v:=undef) rfl rfl (by kernel_rfl) (by kernel_rfl) (by kernel_rfl) (by kernel_rfl) (fun _ _ _ h=>h) (Or.inr ⟨by kernel_rfl,rfl⟩) (by assumption) ?_
      (try simp only[Act.put,z1,z2,z3])
      refine takeT (i:=22) (d:=37) (v:=undef) rfl rfl (by kernel_rfl) (by kernel_rfl) (by kernel_rfl) (by kernel_rfl) (fun _ _ _ h=>h) (Or.inr ⟨by kernel_rfl,rfl⟩) (by assumption) ?_
      (try simp only[Act.put,z1,z2,z3])
      refine takeT (i:=23) (d:=38) (v:=undef) rfl rfl (by kernel_rfl) (by kernel_rfl) (by kernel_rfl) (by kernel_rfl) (fun _ _ _ h=>h) (Or.inr ⟨by kernel_rfl,rfl⟩) (by assumption) ?_
      (try simp only[Act.put,z1,z2,z3])
      refine takeT (i:=24) (d:=39) (v:=undef) rfl rfl (by kernel_rfl) (by kernel_rfl) (by kernel_rfl) (by kernel_rfl) (fun _ _ _ h=>h) (Or.inr ⟨by kernel_rfl,rfl⟩) (by assumption) ?_
      (try simp only[Act.put,z1,z2,z3])
      refine takeT (i:=25) (d:=40) (v:=undef) rfl rfl (by kernel_rfl) (by kernel_rfl) (by kernel_rfl) (by kernel_rfl) (fun _ _ _ h=>h) (Or.inr ⟨by kernel_rfl,rfl⟩) (by assumption) ?_
      (try simp only[Act.put,z1,z2,z3])
      refine takeT (i:=26) (d:=41) (v:=undef) rfl rfl (by kernel_rfl) (by kernel_rfl) (by kernel_rfl) (by kernel_rfl) (fun _ _ _ h=>h) (Or.inr ⟨by kernel_rfl,rfl⟩) (by assumption) ?_
      (try simp only[Act.put,z1,z2,z3])
      refine takeT (i:=27) (d:=42) (v:=undef) rfl rfl (by kernel_rfl) (by kernel_rfl) (by kernel_rfl) (by kernel_rfl) (fun _ _ _ h=>h) (Or.inr ⟨by kernel_rfl,rfl⟩) (by assumption) ?_
      (try simp only[Act.put,z1,z2,z3])
      refine takeT (i:=28) (d:=43) (v:=undef) rfl rfl (by kernel_rfl) (by kernel_rfl) (by kernel_rfl) (by kernel_rfl) (fun _ _ _ h=>h) (Or.inr ⟨by kernel_rfl,rfl⟩) (by assumption) ?_
      (try simp only[Act.put,z1,z2,z3])
      refine takeT (i:=29) (d:=44) (v:=undef) rfl rfl (by kernel_rfl) (by kernel_rfl) (by kernel_rfl) (by kernel_rfl) (fun _ _ _ h=>h) (Or.inr ⟨by kernel_rfl,rfl⟩) (by assumption) ?_
      (try simp only[Act.put,z1,z2,z3])
      refine takeT (i:=30) (d:=45) (v:=undef) rfl rfl (by kernel_rfl) (by kernel_rfl) (by kernel_rfl) (by kernel_rfl) (fun _ _ _ h=>h) (Or.inr ⟨by kernel_rfl,rfl⟩) (by assumption) ?_
      (try simp only[Act.put,z1,z2,z3])
      refine takeT (i:=31) (d:=46) (v:=undef) rfl rfl (by kernel_rfl) (by kernel_rfl) (by kernel_rfl) (by kernel_rfl) (fun _ _ _ h=>h) (Or.inr ⟨by kernel_rfl,rfl⟩) (by assumption) ?_
      (try simp only[Act.put,z1,z2,z3])
      refine takeT (i:=32) (d:=47) (v:=undef) rfl rfl (by kernel_rfl) (by kernel_rfl) (by kernel_rfl) (by kernel_rfl) (fun _ _ _ h=>h) (Or.inr ⟨by kernel_rfl,rfl⟩) (by assumption) ?_
      (try simp only[Act.put,z1,z2,z3])
      refine takeT (i:=33) (d:=48) (v:=undef) rfl rfl (by kernel_rfl) (by kernel_rfl) (by kernel_rfl) (by kernel_rfl) (fun _ _ _ h=>h) (Or.inr ⟨by kernel_rfl,rfl⟩) (by assumption) ?_
      (try simp only[Act.put,z1,z2,z3])
      refine takeT (i:=34) (d:=49) (v:=undef) rfl rfl (by kernel_rfl) (by kernel_rfl) (by kernel_rfl) (by kernel_rfl) (fun _ _ _ h=>h) (Or.inr ⟨by kernel_rfl,rfl⟩) (by assumption) ?_
      (try simp only[Act.put,z1,z2,z3])
      refine takeT (i:=35) (d:=50) (v:=undef) rfl rfl (by kernel_rfl) (by kernel_rfl) (by kernel_rfl) (by kernel_rfl) (fun _ _ _ h=>h) (Or.inr ⟨by kernel_rfl,rfl⟩) (by assumption) ?_
      (try simp only[Act.put,z1,z2,z3])
      refine takeT (i:=36) (d:=51) (v:=undef) rfl rfl (by kernel_rfl) (by kernel_rfl) (by kernel_rfl) (by kernel_rfl) (fun _ _ _ h=>h) (Or.inr ⟨by kernel_rfl,rfl⟩) (by assumption) ?_
      (try simp only[Act.put,z1,z2,z3])
      refine takeT (i:=37) (d:=52) (v:=undef) rfl rfl (by kernel_rfl) (by kernel_rfl) (by kernel_rfl) (by kernel_rfl) (fun _ _ _ h=>h) (Or.inr ⟨by kernel_rfl,rfl⟩) (by assumption) ?_
      (try simp only[Act.put,z1,z2,z3])
      refine takeT (i:=38) (d:=53) (v:=undef) rfl rfl (by kernel_rfl) (by kernel_rfl) (by kernel_rfl) (by kernel_rfl) (fun _ _ _ h=>h) (Or.inr ⟨by kernel_rfl,rfl⟩) (by assumption) ?_
      (try simp only[Act.put,z1,z2,z3])
      refine takeT (i:=39) (d:=54) (v:=undef) rfl rfl (by kernel_rfl) (by kernel_rfl) (by kernel_rfl) (by kernel_rfl) (fun _ _ _ h=>h) (Or.inr ⟨by kernel_rfl,rfl⟩) (by assumption) ?_
      (try simp only[Act.put,z1,z2,z3])
      refine takeT (i:=40) (d:=55) (v:=undef) rfl rfl (by kernel_rfl) (by kernel_rfl) (by kernel_rfl) (by kernel_rfl) (fun _ _ _ h=>h) (Or.inr ⟨by kernel_rfl,rfl⟩) (by assumption) ?_
      (try simp only[Act.put,z1,z2,z3])
      refine takeT (i:=41) (d:=56) (v:=undef) rfl rfl (by kernel_rfl) (by kernel_rfl) (by kernel_rfl) (by kernel_rfl) (fun _ _ _ h=>h) (Or.inr ⟨by kernel_rfl,rfl⟩) (by assumption) ?_
      (try simp only[Act.put,z1,z2,z3])
      refine takeT (i:=42) (d:=57) (v:=undef) rfl rfl (by kernel_rfl) (by kernel_rfl) (by kernel_rfl) (by kernel_rfl) (fun _ _ _ h=>h) (Or.inr ⟨by kernel_rfl,rfl⟩) (by assumption) ?_
      (try simp only[Act.put,z1,z2,z3])
      refine takeT (i:=43) (d:=58) (v:=undef) rfl rfl (by kernel_rfl) (by kernel_rfl) (by kernel_rfl) (by kernel_rfl) (fun _ _ _ h=>h) (Or.inr ⟨by kernel_rfl,rfl⟩) (by assumption) ?_
      (try simp only[Act.put,z1,z2,z3])
      refine takeT (i:=44) (d:=59) (v:=undef) rfl rfl (by kernel_rfl) (by kernel_rfl) (by kernel_rfl) (by kernel_rfl) (fun _ _ _ h=>h) (Or.inr ⟨by kernel_rfl,rfl⟩) (by assumption) ?_
      (try simp only[Act.put,z1,z2,z3])
      refine takeT (i:=45) (d:=60) (v:=undef) rfl rfl (by kernel_rfl) (by kernel_rfl) (by kernel_rfl) (by kernel_rfl) (fun _ _ _ h=>h) (Or.inr ⟨by kernel_rfl,rfl⟩) (by assumption) ?_
      (try simp only[Act.put,z1,z2,z3])
      refine takeT (i:=46) (d:=61) (v:=undef) rfl rfl (by kernel_rfl) (by kernel_rfl) (by kernel_rfl) (by kernel_rfl) (fun _ _ _ h=>h) (Or.inr ⟨by kernel_rfl,rfl⟩) (by assumption) ?_
      (try simp only[Act.put,z1,z2,z3])
      refine takeT (i:=47) (d:=62) (v:=undef) rfl rfl (by kernel_rfl) (by kernel_rfl) (by kernel_rfl) (by kernel_rfl) (fun _ _ _ h=>h) (Or.inr ⟨by kernel_rfl,rfl⟩) (by assumption) ?_
      (try simp only[Act.put,z1,z2,z3])
      refine takeT (i:=48) (d:=63) (v:=undef) rfl rfl (by kernel_rfl) (by kernel_rfl) (by kernel_rfl) (by kernel_rfl) (fun _ _ _ h=>h) (Or.inr ⟨by kernel_rfl,rfl⟩) (by assumption) ?_
      (try simp only[Act.put,z1,z2,z3])
      refine takeT (i:=49) (d:=64) (v:=undef) rfl rfl (by kernel_rfl) (by kernel_rfl) (by kernel_rfl) (by kernel_rfl) (fun _ _ _ h=>h) (Or.inr ⟨by kernel_rfl,rfl⟩) (by assumption) ?_
      (try simp only[Act.put,z1,z2,z3])
      refine takeT (i:=50) (d:=65) (v:=undef) rfl rfl (by kernel_rfl) (by kernel_rfl) (by kernel_rfl) (by kernel_rfl) (fun _ _ _ h=>h) (Or.inr ⟨by kernel_rfl,rfl⟩) (by assumption) ?_
      (try simp only[Act.put,z1,z2,z3])
      refine takeT (i:=51) (d:=66) (v:=undef) rfl rfl (by kernel_rfl) (by kernel_rfl) (by kernel_rfl) (by kernel_rfl) (fun _ _ _ h=>h) (Or.inr ⟨by kernel_rfl,rfl⟩) (by assumption) ?_
      (try simp only[Act.put,z1,z2,z3])
      refine tk 52 67 ?_
      refine doneT (by kernel_rfl) ?_ _
      clear hHeld
      have HX:=zh hx5
      clear hx5 hb5
      go_wp2_with fail
      go_meet
      exact⟨by rw[HOI.out],HX⟩
     exact AllReadyT.nil
    | true =>
     by_cases hi0:i=0
     ·have t9:decide (0<i)=false:=decide_eq_false (by omega)
      have HOI:=zh (show nb=false from by
       have:ordAt L i=true:=by unfold ordAt;rw[decide_eq_true hi0];rfl
       rw[HNBE.out,this];rfl)
      clear hi0
      refine region_tail (S:=(fun w'=>(w'.cell? ⟨z,0,none⟩=some (.int .i64 EX)∧w'.cell? ⟨z,1,none⟩=some vl∧w'.cell? ⟨z,2,none⟩=some vm∧w'.cell? ⟨z,3,none⟩=some vd∧w'.cell? ⟨z,4,none⟩=some (.slice Ad ND cd)∧w'.cell? ⟨z,5,none⟩=some (.slice (some ⟨pb,pof,none⟩) NP cp)∧w'.cell? ⟨z,6,none⟩=some (.slice (some ⟨ob,oof,none⟩) NO co))∧(w'.cell? ⟨b,off+i * 5,none⟩=some (.int .i64 xv)∧w'.cell? ⟨b,off+i * 5+1,none⟩=some (.int .i64 xs)∧w'.cell? ⟨b,off+i * 5+2,none⟩=some (.bool xl)∧w'.cell? ⟨b,off+i * 5+3,none⟩=some (.int .i64 xn)∧w'.cell? ⟨b,off+i * 5+4,none⟩=some (.slice Ax CN cx))∧Below w1.heap.size w1 w')) [] (by kernel_rfl) (HSA.out _ HBR.out.drew) (fun hHeld=>?_)
      refine tk 0 15 ?_
      refine tk 1 16 ?_
      refine tk 2 17 ?_
      refine tk 3 18 ?_
      refine tk 4 19 ?_
      refine readyT (rs:=[5]) (by kernel_rfl) (by simp) ?_
      refine AllReadyT.cons rfl (fun K hK=>?_) ?_
      ·go_simp
       refine(HONE.out _ HBR.out.drew).mono ?_
       rintro e w5 ⟨rfl,hb5⟩
       have hx5:=(HBR.out.drew).trans (hb5.mono (HBR.out.drew).size)
       refine hK.out _ _ ?_ (fun hHeld=>?_)
       ·exact HSA.out _ hx5
       clear hK K
       (try simp only[Act.put,z1,z2,z3])
       refine tk 6 21 ?_
       refine tk 7 22 ?_
       refine tk 8 23 ?_
       refine tk 9 24 ?_
       refine tk 10 25 ?_
       refine takeT (i:=11) (d:=26) (v:=undef) rfl rfl (by kernel_rfl) (by kernel_rfl) (by kernel_rfl) (by kernel_rfl) (fun _ _ _ h=>h) (Or.inr ⟨by kernel_rfl,rfl⟩) (by assumption) ?_
       (try simp only[Act.put,z1,z2,z3])
       refine takeT (i:=12) (d:=27) (v:=undef) rfl rfl (by kernel_rfl) (by kernel_rfl) (by kernel_rfl) (by kernel_rfl) (fun _ _ _ h=>h) (Or.inr ⟨by kernel_rfl,rfl⟩) (by assumption) ?_
       (try simp only[Act.put,z1,z2,z3])
       refine takeT (i:=13) (d:=28) (v:=undef) rfl rfl (by kernel_rfl) (by kernel_rfl) (by kernel_rfl) (by kernel_rfl) (fun _ _ _ h=>h) (Or.inr ⟨by kernel_rfl,rfl⟩) (by assumption) ?_
       (try simp only[Act.put,z1,z2,z3])
       refine takeT (i:=14) (d:=29) (v:=undef) rfl rfl (by kernel_rfl) (by kernel_rfl) (by kernel_rfl) (by kernel_rfl) (fun _ _ _ h=>h) (Or.inr ⟨by kernel_rfl,rfl⟩) (by assumption) ?_
       (try simp only[Act.put,z1,z2,z3])
       refine takeT (i:=15) (d:=30) (v:=undef) rfl rfl (by kernel_rfl) (by kernel_rfl) (by kernel_rfl) (by kernel_rfl) (fun _ _ _ h=>h) (Or.inr ⟨by kernel_rfl,rfl⟩) (by assumption) ?_
       (try simp only[Act.put,z1,z2,z3])
       refine takeT (i:=16) (d:=31) (v:=undef) rfl rfl (by kernel_rfl) (by kernel_rfl) (by kernel_rfl) (by kernel_rfl) (fun _ _ _ h=>h) (Or.inr ⟨by kernel_rfl,rfl⟩) (by assumption) ?_
       (try simp only[Act.put,z1,z2,z3])
       refine takeT (i:=17) (d:=32) (v:=undef) rfl rfl (by kernel_rfl) (by kernel_rfl) (by kernel_rfl) (by kernel_rfl) (fun _ _ _ h=>h) (Or.inr ⟨by kernel_rfl,rfl⟩) (by assumption) ?_
       (try simp only[Act.put,z1,z2,z3])
       refine takeT (i:=18) (d:=33) (v:=undef) rfl rfl (by kernel_rfl) (by kernel_rfl) (by kernel_rfl) (by kernel_rfl) (fun _ _ _ h=>h) (Or.inr ⟨by kernel_rfl,rfl⟩) (by assumption) ?_
       (try simp only[Act.put,z1,z2,z3])
       refine takeT (i:=19) (d:=34) (v:=undef) rfl rfl (by kernel_rfl) (by kernel_rfl) (by kernel_rfl) (by kernel_rfl) (fun _ _ _ h=>h) (Or.inr ⟨by kernel_rfl,rfl⟩) (by assumption) ?_
       (try simp only[Act.put,z1,z2,z3])
       refine takeT (i:=20) (d:=35) (v:=undef) rfl rfl (by kernel_rfl) (by kernel_rfl) (by kernel_rfl) (by kernel_rfl) (fun _ _ _ h=>h) (Or.inr ⟨by kernel_rfl,rfl⟩) (by assumption) ?_
       (try simp only[Act.put,z1,z2,z3])
       refine takeT (i:=21) (d:=36) (v:=undef) rfl rfl (by kernel_rfl) (by kernel_rfl) (by kernel_rfl) (by kernel_rfl) (fun _ _ _ h=>h) (Or.inr ⟨by kernel_rfl,rfl⟩) (by assumption) ?_
       (try simp only[Act.put,z1,z2,z3])
       refine takeT (i:=22) (d:=37) (v:=undef) rfl rfl (by kernel_rfl) (by kernel_rfl) (by kernel_rfl) (by kernel_rfl) (fun _ _ _ h=>h) (Or.inr ⟨by kernel_rfl,rfl⟩) (by assumption) ?_
       (try simp only[Act.put,z1,z2,z3])
       refine takeT (i:=23) (d:=38) (v:=undef) rfl rfl (by kernel_rfl) (by kernel_rfl) (by kernel_rfl) (by kernel_rfl) (fun _ _ _ h=>h) (Or.inr ⟨by kernel_rfl,rfl⟩) (by assumption) ?_
       (try simp only[Act.put,z1,z2,z3])
       refine takeT (i:=24) (d:=39) (v:=undef) rfl rfl (by kernel_rfl) (by kernel_rfl) (by kernel_rfl) (by kernel_rfl) (fun _ _ _ h=>h) (Or.inr ⟨by kernel_rfl,rfl⟩) (by assumption) ?_
       (try simp only[Act.put,z1,z2,z3])
       refine takeT (i:=25) (d:=40) (v:=undef) rfl rfl (by kernel_rfl) (by kernel_rfl) (by kernel_rfl) (by kernel_rfl) (fun _ _ _ h=>h) (Or.inr ⟨by kernel_rfl,rfl⟩) (by assumption) ?_
       (try simp only[Act.put,z1,z2,z3])
       refine takeT (i:=26) (d:=41) (v:=undef) rfl rfl (by kernel_rfl) (by kernel_rfl) (by kernel_rfl) (by kernel_rfl) (fun _ _ _ h=>h) (Or.inr ⟨by kernel_rfl,rfl⟩) (by assumption) ?_
       (try simp only[Act.put,z1,z2,z3])
       refine takeT (i:=27) (d:=42) (v:=undef) rfl rfl (by kernel_rfl) (by kernel_rfl) (by kernel_rfl) (by kernel_rfl) (fun _ _ _ h=>h) (Or.inr ⟨by kernel_rfl,rfl⟩) (by assumption) ?_
       (try simp only[Act.put,z1,z2,z3])
       refine takeT (i:=28) (d:=43) (v:=undef) rfl rfl (by kernel_rfl) (by kernel_rfl) (by kernel_rfl) (by kernel_rfl) (fun _ _ _ h=>h) (Or.inr ⟨by kernel_rfl,rfl⟩) (by assumption) ?_
       (try simp only[Act.put,z1,z2,z3])
       refine takeT (i:=29) (d:=44) (v:=undef) rfl rfl (by kernel_rfl) (by kernel_rfl) (by kernel_rfl) (by kernel_rfl) (fun _ _ _ h=>h) (Or.inr ⟨by kernel_rfl,rfl⟩) (by assumption) ?_
       (try simp only[Act.put,z1,z2,z3])
       refine takeT (i:=30) (d:=45) (v:=undef) rfl rfl (by kernel_rfl) (by kernel_rfl) (by kernel_rfl) (by kernel_rfl) (fun _ _ _ h=>h) (Or.inr ⟨by kernel_rfl,rfl⟩) (by assumption) ?_
       (try simp only[Act.put,z1,z2,z3])
       refine takeT (i:=31) (d:=46) (v:=undef) rfl rfl (by kernel_rfl) (by kernel_rfl) (by kernel_rfl) (by kernel_rfl) (fun _ _ _ h=>h) (Or.inr ⟨by kernel_rfl,rfl⟩) (by assumption) ?_
       (try simp only[Act.put,z1,z2,z3])
       refine takeT (i:=32) (d:=47) (v:=undef) rfl rfl (by kernel_rfl) (by kernel_rfl) (by kernel_rfl) (by kernel_rfl) (fun _ _ _ h=>h) (Or.inr ⟨by kernel_rfl,rfl⟩) (by assumption) ?_
       (try simp only[Act.put,z1,z2,z3])
       refine takeT (i:=33) (d:=48) (v:=undef) rfl rfl (by kernel_rfl) (by kernel_rfl) (by kernel_rfl) (by kernel_rfl) (fun _ _ _ h=>h) (Or.inr ⟨by kernel_rfl,rfl⟩) (by assumption) ?_
       (try simp only[Act.put,z1,z2,z3])
       refine takeT (i:=34) (d:=49) (v:=undef) rfl rfl (by kernel_rfl) (by kernel_rfl) (by kernel_rfl) (by kernel_rfl) (fun _ _ _ h=>h) (Or.inr ⟨by kernel_rfl,rfl⟩) (by assumption) ?_
       (try simp only[Act.put,z1,z2,z3])
       refine takeT (i:=35) (d:=50) (v:=undef) rfl rfl (by kernel_rfl) (by kernel_rfl) (by kernel_rfl) (by kernel_rfl) (fun _ _ _ h=>h) (Or.inr ⟨by kernel_rfl,rfl⟩) (by assumption) ?_
       (try simp only[Act.put,z1,z2,z3])
       refine takeT (i:=36) (d:=51) (v:=undef) rfl rfl (by kernel_rfl) (by kernel_rfl) (by kernel_rfl) (by kernel_rfl) (fun _ _ _ h=>h) (Or.inr ⟨by kernel_rfl,rfl⟩) (by assumption) ?_
       (try simp only[Act.put,z1,z2,z3])
       refine takeT (i:=37) (d:=52) (v:=undef) rfl rfl (by kernel_rfl) (by kernel_rfl) (by kernel_rfl) (by kernel_rfl) (fun _ _ _ h=>h) (Or.inr ⟨by kernel_rfl,rfl⟩) (by assumption) ?_
       (try simp only[Act.put,z1,z2,z3])
       refine takeT (i:=38) (d:=53) (v:=undef) rfl rfl (by kernel_rfl) (by kernel_rfl) (by kernel_rfl) (by kernel_rfl) (fun _ _ _ h=>h) (Or.inr ⟨by kernel_rfl,rfl⟩) (by assumption) ?_
       (try simp only[Act.put,z1,z2,z3])
       refine takeT (i:=39) (d:=54) (v:=undef) rfl rfl (by kernel_rfl) (by kernel_rfl) (by kernel_rfl) (by kernel_rfl) (fun _ _ _ h=>h) (Or.inr ⟨by kernel_rfl,rfl⟩) (by assumption) ?_
       (try simp only[Act.put,z1,z2,z3])
       refine takeT (i:=40) (d:=55) (v:=undef) rfl rfl (by kernel_rfl) (by kernel_rfl) (by kernel_rfl) (by kernel_rfl) (fun _ _ _ h=>h) (Or.inr ⟨by kernel_rfl,rfl⟩) (by assumption) ?_
       (try simp only[Act.put,z1,z2,z3])
       refine takeT (i:=41) (d:=56) (v:=undef) rfl rfl (by kernel_rfl) (by kernel_rfl) (by kernel_rfl) (by kernel_rfl) (fun _ _ _ h=>h) (Or.inr ⟨by kernel_rfl,rfl⟩) (by assumption) ?_
       (try simp only[Act.put,z1,z2,z3])
       refine takeT (i:=42) (d:=57) (v:=undef) rfl rfl (by kernel_rfl) (by kernel_rfl) (by kernel_rfl) (by kernel_rfl) (fun _ _ _ h=>h) (Or.inr ⟨by kernel_rfl,rfl⟩) (by assumption) ?_
       (try simp only[Act.put,z1,z2,z3])
       refine takeT (i:=43) (d:=58) (v:=undef) rfl rfl (by kernel_rfl) (by kernel_rfl) (by kernel_rfl) (by kernel_rfl) (fun _ _ _ h=>h) (Or.inr ⟨by kernel_rfl,rfl⟩) (by assumption) ?_
       (try simp only[Act.put,z1,z2,z3])
       refine takeT (i:=44) (d:=59) (v:=undef) rfl rfl (by kernel_rfl) (by kernel_rfl) (by kernel_rfl) (by kernel_rfl) (fun _ _ _ h=>h) (Or.inr ⟨by kernel_rfl,rfl⟩) (by assumption) ?_
       (try simp only[Act.put,z1,z2,z3])
       refine takeT (i:=45) (d:=60) (v:=undef) rfl rfl (by kernel_rfl) (by kernel_rfl) (by kernel_rfl) (by kernel_rfl) (fun _ _ _ h=>h) (Or.inr ⟨by kernel_rfl,rfl⟩) (by assumption) ?_
       (try simp only[Act.put,z1,z2,z3])
       refine takeT (i:=46) (d:=61) (v:=undef) rfl rfl (by kernel_rfl) (by kernel_rfl) (by kernel_rfl) (by kernel_rfl) (fun _ _ _ h=>h) (Or.inr ⟨by kernel_rfl,rfl⟩) (by assumption) ?_
       (try simp only[Act.put,z1,z2,z3])
       refine takeT (i:=47) (d:=62) (v:=undef) rfl rfl (by kernel_rfl) (by kernel_rfl) (by kernel_rfl) (by kernel_rfl) (fun _ _ _ h=>h) (Or.inr ⟨by kernel_rfl,rfl⟩) (by assumption) ?_
       (try simp only[Act.put,z1,z2,z3])
       refine takeT (i:=48) (d:=63) (v:=undef) rfl rfl (by kernel_rfl) (by kernel_rfl) (by kernel_rfl) (by kernel_rfl) (fun _ _ _ h=>h) (Or.inr ⟨by kernel_rfl,rfl⟩) (by assumption) ?_
       (try simp only[Act.put,z1,z2,z3])
       refine takeT (i:=49) (d:=64) (v:=undef) rfl rfl (by kernel_rfl) (by kernel_rfl) (by kernel_rfl) (by kernel_rfl) (fun _ _ _ h=>h) (Or.inr ⟨by kernel_rfl,rfl⟩) (by assumption) ?_
       (try simp only[Act.put,z1,z2,z3])
       refine takeT (i:=50) (d:=65) (v:=undef) rfl rfl (by kernel_rfl) (by kernel_rfl) (by kernel_rfl) (by kernel_rfl) (fun _ _ _ h=>h) (Or.inr ⟨by kernel_rfl,rfl⟩) (by assumption) ?_
       (try simp only[Act.put,z1,z2,z3])
       refine tk 51 66 ?_
       refine tk 52 67 ?_
       refine doneT (by kernel_rfl) ?_ _
       clear hHeld
       have HX:=zh hx5
       clear hx5 hb5
       go_wp2_with fail
       go_meet
       exact⟨by rw[HOI.out],HX⟩
      exact AllReadyT.nil
     ·have hi1:0<i:=by omega
      have t9:decide (0<i)=true:=decide_eq_true hi1
      have hil2:i - 1<L.length:=by omega
      have hordat:=HORDAT.out hi1
      have hlc2:=HLC.out (i - 1) hil2
      rw[←getBang hil2] at hlc2
      obtain⟨y,hy⟩:=zx (L[i - 1]!)
      rw[←hy] at hordat hlc2
      obtain⟨yv,ys,yl,yn,yc⟩:=y
      simp only at hlc2
      have HLC2:=zh hlc2
      have hwr:IntKind.i64.wrap ((i - 1:Nat):Int)=((i - 1:Nat):Int):=IntWalk.i64_in _ (by omega)
      have hsub:((i:Int) - 1)=((i - 1:Nat):Int):=by omega
      have hi2:((i - 1:Nat):Int)<(LN:Int):=by omega
      have HSC:=zh (fun(w':World) (hb:Below w1.heap.size w1 w')=>(show(w'.cell? ⟨z,0,none⟩=some (.int .i64 EX)∧w'.cell? ⟨z,1,none⟩=some vl∧w'.cell? ⟨z,2,none⟩=some vm∧w'.cell? ⟨z,3,none⟩=some vd∧w'.cell? ⟨z,4,none⟩=some (.slice Ad ND cd)∧w'.cell? ⟨z,5,none⟩=some (.slice (some ⟨pb,pof,none⟩) NP cp)∧w'.cell? ⟨z,6,none⟩=some (.slice (some ⟨ob,oof,none⟩) NO co))∧(w'.cell? ⟨b,off+i * 5,none⟩=some (.int .i64 xv)∧w'.cell? ⟨b,off+i * 5+1,none⟩=some (.int .i64 xs)∧w'.cell? ⟨b,off+i * 5+2,none⟩=some (.bool xl)∧w'.cell? ⟨b,off+i * 5+3,none⟩=some (.int .i64 xn)∧w'.cell? ⟨b,off+i * 5+4,none⟩=some (.slice Ax CN cx))∧(w'.cell? ⟨b,off+(i - 1) * 5,none⟩=some (.int .i64 yv)∧w'.cell? ⟨b,off+(i - 1) * 5+1,none⟩=some (.int .i64 ys))∧Below w1.heap.size w1 w' from by
       obtain⟨h1,h2,h3⟩:=HSA.out w' hb
       obtain⟨Az,cz,q0,q1,-,-,-,-⟩:=HLC2.out w' (HRE.out w' (HB1.out.trans (hb.mono HB1.out.size)))
       exact⟨h1,h2,⟨q0,q1⟩,h3⟩))
      clear hi0 hi1 hil hil2 hy hlc2
      have hord2:nb=!(decide (yv<xv∨(yv=xv∧ys<xs))):=by rw[HNBE.out,hordat];rfl
      by_cases h1:xv<yv
      ·have t1:decide (xv<yv)=true:=decide_eq_true h1
       have HOI:=zh (show nb=true from by rw[hord2,decide_eq_false (by omega)];rfl)
       clear hordat hord2 h1
       refine region_tail (S:=(fun w'=>(w'.cell? ⟨z,0,none⟩=some (.int .i64 EX)∧w'.cell? ⟨z,1,none⟩=some vl∧w'.cell? ⟨z,2,none⟩=some vm∧w'.cell? ⟨z,3,none⟩=some vd∧w'.cell? ⟨z,4,none⟩=some (.slice Ad ND cd)∧w'.cell? ⟨z,5,none⟩=some (.slice (some ⟨pb,pof,none⟩) NP cp)∧w'.cell? ⟨z,6,none⟩=some (.slice (some ⟨ob,oof,none⟩) NO co))∧(w'.cell? ⟨b,off+i * 5,none⟩=some (.int .i64 xv)∧w'.cell? ⟨b,off+i * 5+1,none⟩=some (.int .i64 xs)∧w'.cell? ⟨b,off+i * 5+2,none⟩=some (.bool xl)∧w'.cell? ⟨b,off+i * 5+3,none⟩=some (.int .i64 xn)∧w'.cell? ⟨b,off+i * 5+4,none⟩=some (.slice Ax CN cx))∧(w'.cell? ⟨b,off+(i - 1) * 5,none⟩=some (.int .i64 yv)∧w'.cell? ⟨b,off+(i - 1) * 5+1,none⟩=some (.int .i64 ys))∧Below w1.heap.size w1 w')) [] (by kernel_rfl) (HSC.out _ HBR.out.drew) (fun hHeld=>?_)
       refine tk 0 15 ?_
       refine tk 1 16 ?_
       refine tk 2 17 ?_
       refine tk 3 18 ?_
       refine tk 4 19 ?_
       refine readyT (rs:=[5]) (by kernel_rfl) (by simp) ?_
       refine AllReadyT.cons rfl (fun K hK=>?_) ?_
       ·go_simp
        refine(HONE.out _ HBR.out.drew).mono ?_
        rintro e w5 ⟨rfl,hb5⟩
        have hx5:=(HBR.out.drew).trans (hb5.mono (HBR.out.drew).size)
        refine hK.out _ _ ?_ (fun hHeld=>?_)
        ·exact HSC.out _ hx5
        clear hK K
        (try simp only[Act.put,z1,z2,z3])
        refine tk 6 21 ?_
        refine tk 7 22 ?_
        refine tk 8 23 ?_
        refine tk 9 24 ?_
        refine tk 10 25 ?_
        refine tk 11 26 ?_
        refine tk 12 27 ?_
        refine tk 13 28 ?_
        refine tk 14 29 ?_
        refine tk 15 30 ?_
        refine tk 16 31 ?_
        refine tk 17 32 ?_
        refine tk 18 33 ?_
        refine tk 19 34 ?_
        refine tk 20 35 ?_
        refine tk 21 36 ?_
        refine tk 22 37 ?_
        refine tk 23 38 ?_
        refine takeT (i:=24) (d:=39) (v:=undef) rfl rfl (by kernel_rfl) (by kernel_rfl) (by kernel_rfl) (by kernel_rfl) (fun _ _ _ h=>h) (Or.inr ⟨by kernel_rfl,rfl⟩) (by assumption) ?_
        (try simp only[Act.put,z1,z2,z3])
        refine takeT (i:=25) (d:=40) (v:=undef) rfl rfl (by kernel_rfl) (by kernel_rfl) (by kernel_rfl) (by kernel_rfl) (fun _ _ _ h=>h) (Or.inr ⟨by kernel_rfl,rfl⟩) (by assumption) ?_
        (try simp only[Act.put,z1,z2,z3])
        refine takeT (i:=26) (d:=41) (v:=undef) rfl rfl (by kernel_rfl) (by kernel_rfl) (by kernel_rfl) (by kernel_rfl) (fun _ _ _ h=>h) (Or.inr ⟨by kernel_rfl,rfl⟩) (by assumption) ?_
        (try simp only[Act.put,z1,z2,z3])
        refine takeT (i:=27) (d:=42) (v:=undef) rfl rfl (by kernel_rfl) (by kernel_rfl) (by kernel_rfl) (by kernel_rfl) (fun _ _ _ h=>h) (Or.inr ⟨by kernel_rfl,rfl⟩) (by assumption) ?_
        (try simp only[Act.put,z1,z2,z3])
        refine takeT (i:=28) (d:=43) (v:=undef) rfl rfl (by kernel_rfl) (by kernel_rfl) (by kernel_rfl) (by kernel_rfl) (fun _ _ _ h=>h) (Or.inr ⟨by kernel_rfl,rfl⟩) (by assumption) ?_
        (try simp only[Act.put,z1,z2,z3])
        refine takeT (i:=29) (d:=44) (v:=undef) rfl rfl (by kernel_rfl) (by kernel_rfl) (by kernel_rfl) (by kernel_rfl) (fun _ _ _ h=>h) (Or.inr ⟨by kernel_rfl,rfl⟩) (by assumption) ?_
        (try simp only[Act.put,z1,z2,z3])
        refine takeT (i:=30) (d:=45) (v:=undef) rfl rfl (by kernel_rfl) (by kernel_rfl) (by kernel_rfl) (by kernel_rfl) (fun _ _ _ h=>h) (Or.inr ⟨by kernel_rfl,rfl⟩) (by assumption) ?_
        (try simp only[Act.put,z1,z2,z3])
        refine takeT (i:=31) (d:=46) (v:=undef) rfl rfl (by kernel_rfl) (by kernel_rfl) (by kernel_rfl) (by kernel_rfl) (fun _ _ _ h=>h) (Or.inr ⟨by kernel_rfl,rfl⟩) (by assumption) ?_
        (try simp only[Act.put,z1,z2,z3])
        refine takeT (i:=32) (d:=47) (v:=undef) rfl rfl (by kernel_rfl) (by kernel_rfl) (by kernel_rfl) (by kernel_rfl) (fun _ _ _ h=>h) (Or.inr ⟨by kernel_rfl,rfl⟩) (by assumption) ?_
        (try simp only[Act.put,z1,z2,z3])
        refine takeT (i:=33) (d:=48) (v:=undef) rfl rfl (by kernel_rfl) (by kernel_rfl) (by kernel_rfl) (by kernel_rfl) (fun _ _ _ h=>h) (Or.inr ⟨by kernel_rfl,rfl⟩) (by assumption) ?_
        (try simp only[Act.put,z1,z2,z3])
        refine takeT (i:=34) (d:=49) (v:=undef) rfl rfl (by kernel_rfl) (by kernel_rfl) (by kernel_rfl) (by kernel_rfl) (fun _ _ _ h=>h) (Or.inr ⟨by kernel_rfl,rfl⟩) (by assumption) ?_
        (try simp only[Act.put,z1,z2,z3])
        refine takeT (i:=35) (d:=50) (v:=undef) rfl rfl (by kernel_rfl) (by kernel_rfl) (by kernel_rfl) (by kernel_rfl) (fun _ _ _ h=>h) (Or.inr ⟨by kernel_rfl,rfl⟩) (by assumption) ?_
        (try simp only[Act.put,z1,z2,z3])
        refine takeT (i:=36) (d:=51) (v:=undef) rfl rfl (by kernel_rfl) (by kernel_rfl) (by kernel_rfl) (by kernel_rfl) (fun _ _ _ h=>h) (Or.inr ⟨by kernel_rfl,rfl⟩) (by assumption) ?_
        (try simp only[Act.put,z1,z2,z3])
        refine takeT (i:=37) (d:=52) (v:=undef) rfl rfl (by kernel_rfl) (by kernel_rfl) (by kernel_rfl) (by kernel_rfl) (fun _ _ _ h=>h) (Or.inr ⟨by kernel_rfl,rfl⟩) (by assumption) ?_
        (try simp only[Act.put,z1,z2,z3])
        refine takeT (i:=38) (d:=53) (v:=undef) rfl rfl (by kernel_rfl) (by kernel_rfl) (by kernel_rfl) (by kernel_rfl) (fun _ _ _ h=>h) (Or.inr ⟨by kernel_rfl,rfl⟩) (by assumption) ?_
        (try simp only[Act.put,z1,z2,z3])
        refine takeT (i:=39) (d:=54) (v:=undef) rfl rfl (by kernel_rfl) (by kernel_rfl) (by kernel_rfl) (by kernel_rfl) (fun _ _ _ h=>h) (Or.inr ⟨by kernel_rfl,rfl⟩) (by assumption) ?_
        (try simp only[Act.put,z1,z2,z3])
        refine takeT (i:=40) (d:=55) (v:=undef) rfl rfl (by kernel_rfl) (by kernel_rfl) (by kernel_rfl) (by kernel_rfl) (fun _ _ _ h=>h) (Or.inr ⟨by kernel_rfl,rfl⟩) (by assumption) ?_
        (try simp only[Act.put,z1,z2,z3])
        refine takeT (i:=41) (d:=56) (v:=undef) rfl rfl (by kernel_rfl) (by kernel_rfl) (by kernel_rfl) (by kernel_rfl) (fun _ _ _ h=>h) (Or.inr ⟨by kernel_rfl,rfl⟩) (by assumption) ?_
        (try simp only[Act.put,z1,z2,z3])
        refine takeT (i:=42) (d:=57) (v:=undef) rfl rfl (by kernel_rfl) (by kernel_rfl) (by kernel_rfl) (by kernel_rfl) (fun _ _ _ h=>h) (Or.inr ⟨by kernel_rfl,rfl⟩) (by assumption) ?_
        (try simp only[Act.put,z1,z2,z3])
        refine takeT (i:=43) (d:=58) (v:=undef) rfl rfl (by kernel_rfl) (by kernel_rfl) (by kernel_rfl) (by kernel_rfl) (fun _ _ _ h=>h) (Or.inr ⟨by kernel_rfl,rfl⟩) (by assumption) ?_
        (try simp only[Act.put,z1,z2,z3])
        refine takeT (i:=44) (d:=59) (v:=undef) rfl rfl (by kernel_rfl) (by kernel_rfl) (by kernel_rfl) (by kernel_rfl) (fun _ _ _ h=>h) (Or.inr ⟨by kernel_rfl,rfl⟩) (by assumption) ?_
        (try simp only[Act.put,z1,z2,z3])
        refine takeT (i:=45) (d:=60) (v:=undef) rfl rfl (by kernel_rfl) (by kernel_rfl) (by kernel_rfl) (by kernel_rfl) (fun _ _ _ h=>h) (Or.inr ⟨by kernel_rfl,rfl⟩) (by assumption) ?_
        (try simp only[Act.put,z1,z2,z3])
        refine takeT (i:=46) (d:=61) (v:=undef) rfl rfl (by kernel_rfl) (by kernel_rfl) (by kernel_rfl) (by kernel_rfl) (fun _ _ _ h=>h) (Or.inr ⟨by kernel_rfl,rfl⟩) (by assumption) ?_
        (try simp only[Act.put,z1,z2,z3])
        refine takeT (i:=47) (d:=62) (v:=undef) rfl rfl (by kernel_rfl) (by kernel_rfl) (by kernel_rfl) (by kernel_rfl) (fun _ _ _ h=>h) (Or.inr ⟨by kernel_rfl,rfl⟩) (by assumption) ?_
        (try simp only[Act.put,z1,z2,z3])
        refine takeT (i:=48) (d:=63) (v:=undef) rfl rfl (by kernel_rfl) (by kernel_rfl) (by kernel_rfl) (by kernel_rfl) (fun _ _ _ h=>h) (Or.inr ⟨by kernel_rfl,rfl⟩) (by assumption) ?_
        (try simp only[Act.put,z1,z2,z3])
        refine takeT (i:=49) (d:=64) (v:=undef) rfl rfl (by kernel_rfl) (by kernel_rfl) (by kernel_rfl) (by kernel_rfl) (fun _ _ _ h=>h) (Or.inr ⟨by kernel_rfl,rfl⟩) (by assumption) ?_
        (try simp only[Act.put,z1,z2,z3])
        refine tk 50 65 ?_
        refine tk 51 66 ?_
        refine tk 52 67 ?_
        refine doneT (by kernel_rfl) ?_ _
        clear hHeld
        have HX:=zh hx5
        clear hx5 hb5
        go_wp2_with fail
        go_meet
        exact⟨by rw[HOI.out],HX⟩
       exact AllReadyT.nil
      have t1:decide (xv<yv)=false:=decide_eq_false h1
      by_cases h2:xv=yv
      ·have t2:(xv==yv)=true:=by simpa using h2
       obtain⟨c,hc⟩:=zx (decide (xs≤ys))
       have t3:decide (xs≤ys)=c:=hc.symm
       have HOI:=zh (show nb=c from by
        rw[hord2,hc]
        by_cases h3:xs≤ys
        ·rw[decide_eq_true h3,decide_eq_false (by omega)];rfl
        ·rw[decide_eq_false h3,decide_eq_true (by omega)];rfl)
       clear hordat hord2 h1 h2 hc
       refine region_tail (S:=(fun w'=>(w'.cell? ⟨z,0,none⟩=some (.int .i64 EX)∧w'.cell? ⟨z,1,none⟩=some vl∧w'.cell? ⟨z,2,none⟩=some vm∧w'.cell? ⟨z,3,none⟩=some vd∧w'.cell? ⟨z,4,none⟩=some (.slice Ad ND cd)∧w'.cell? ⟨z,5,none⟩=some (.slice (some ⟨pb,pof,none⟩) NP cp)∧w'.cell? ⟨z,6,none⟩=some (.slice (some ⟨ob,oof,none⟩) NO co))∧(w'.cell? ⟨b,off+i * 5,none⟩=some (.int .i64 xv)∧w'.cell? ⟨b,off+i * 5+1,none⟩=some (.int .i64 xs)∧w'.cell? ⟨b,off+i * 5+2,none⟩=some (.bool xl)∧w'.cell? ⟨b,off+i * 5+3,none⟩=some (.int .i64 xn)∧w'.cell? ⟨b,off+i * 5+4,none⟩=some (.slice Ax CN cx))∧(w'.cell? ⟨b,off+(i - 1) * 5,none⟩=some (.int .i64 yv)∧w'.cell? ⟨b,off+(i - 1) * 5+1,none⟩=some (.int .i64 ys))∧Below w1.heap.size w1 w')) [] (by kernel_rfl) (HSC.out _ HBR.out.drew) (fun hHeld=>?_)
       refine tk 0 15 ?_
       refine tk 1 16 ?_
       refine tk 2 17 ?_
       refine tk 3 18 ?_
       refine tk 4 19 ?_
       refine readyT (rs:=[5]) (by kernel_rfl) (by simp) ?_
       refine AllReadyT.cons rfl (fun K hK=>?_) ?_
       ·go_simp
        refine(HONE.out _ HBR.out.drew).mono ?_
        rintro e w5 ⟨rfl,hb5⟩
        have hx5:=(HBR.out.drew).trans (hb5.mono (HBR.out.drew).size)
        refine hK.out _ _ ?_ (fun hHeld=>?_)
        ·exact HSC.out _ hx5
        clear hK K
        (try simp only[Act.put,z1,z2,z3])
        refine tk 6 21 ?_
        refine tk 7 22 ?_
        refine tk 8 23 ?_
        refine tk 9 24 ?_
        refine tk 10 25 ?_
        refine tk 11 26 ?_
        refine tk 12 27 ?_
        refine tk 13 28 ?_
        refine tk 14 29 ?_
        refine tk 15 30 ?_
        refine tk 16 31 ?_
        refine tk 17 32 ?_
        refine tk 18 33 ?_
        refine tk 19 34 ?_
        refine tk 20 35 ?_
        refine tk 21 36 ?_
        refine tk 22 37 ?_
        refine tk 23 38 ?_
        refine tk 24 39 ?_
        refine tk 25 40 ?_
        refine tk 26 41 ?_
        refine tk 27 42 ?_
        refine tk 28 43 ?_
        refine tk 29 44 ?_
        refine tk 30 45 ?_
        refine tk 31 46 ?_
        refine tk 32 47 ?_
        refine tk 33 48 ?_
        refine tk 34 49 ?_
        refine tk 35 50 ?_
        refine tk 36 51 ?_
        refine tk 37 52 ?_
        refine tk 38 53 ?_
        refine tk 39 54 ?_
        refine tk 40 55 ?_
        refine tk 41 56 ?_
        refine tk 42 57 ?_
        refine tk 43 58 ?_
        refine tk 44 59 ?_
        refine tk 45 60 ?_
        refine tk 46 61 ?_
        refine tk 47 62 ?_
        refine tk 48 63 ?_
        refine tk 49 64 ?_
        refine tk 50 65 ?_
        refine tk 51 66 ?_
        refine tk 52 67 ?_
        refine doneT (by kernel_rfl) ?_ _
        clear hHeld
        have HX:=zh hx5
        clear hx5 hb5
        go_wp2_with fail
        go_meet
        exact⟨by rw[HOI.out],HX⟩
       exact AllReadyT.nil
      ·have t2:(xv==yv)=false:=by simpa using h2
       have HOI:=zh (show nb=false from by rw[hord2,decide_eq_true (by omega)];rfl)
       clear hordat hord2 h1 h2
       refine region_tail (S:=(fun w'=>(w'.cell? ⟨z,0,none⟩=some (.int .i64 EX)∧w'.cell? ⟨z,1,none⟩=some vl∧w'.cell? ⟨z,2,none⟩=some vm∧w'.cell? ⟨z,3,none⟩=some vd∧w'.cell? ⟨z,4,none⟩=some (.slice Ad ND cd)∧w'.cell? ⟨z,5,none⟩=some (.slice (some ⟨pb,pof,none⟩) NP cp)∧w'.cell? ⟨z,6,none⟩=some (.slice (some ⟨ob,oof,none⟩) NO co))∧(w'.cell? ⟨b,off+i * 5,none⟩=some (.int .i64 xv)∧w'.cell? ⟨b,off+i * 5+1,none⟩=some (.int .i64 xs)∧w'.cell? ⟨b,off+i * 5+2,none⟩=some (.bool xl)∧w'.cell? ⟨b,off+i * 5+3,none⟩=some (.int .i64 xn)∧w'.cell? ⟨b,off+i * 5+4,none⟩=some (.slice Ax CN cx))∧(w'.cell? ⟨b,off+(i - 1) * 5,none⟩=some (.int .i64 yv)∧w'.cell? ⟨b,off+(i - 1) * 5+1,none⟩=some (.int .i64 ys))∧Below w1.heap.size w1 w')) [] (by kernel_rfl) (HSC.out _ HBR.out.drew) (fun hHeld=>?_)
       refine tk 0 15 ?_
       refine tk 1 16 ?_
       refine tk 2 17 ?_
       refine tk 3 18 ?_
       refine tk 4 19 ?_
       refine readyT (rs:=[5]) (by kernel_rfl) (by simp) ?_
       refine AllReadyT.cons rfl (fun K hK=>?_) ?_
       ·go_simp
        refine(HONE.out _ HBR.out.drew).mono ?_
        rintro e w5 ⟨rfl,hb5⟩
        have hx5:=(HBR.out.drew).trans (hb5.mono (HBR.out.drew).size)
        refine hK.out _ _ ?_ (fun hHeld=>?_)
        ·exact HSC.out _ hx5
        clear hK K
        (try simp only[Act.put,z1,z2,z3])
        refine tk 6 21 ?_
        refine tk 7 22 ?_
        refine tk 8 23 ?_
        refine tk 9 24 ?_
        refine tk 10 25 ?_
        refine tk 11 26 ?_
        refine tk 12 27 ?_
        refine tk 13 28 ?_
        refine tk 14 29 ?_
        refine tk 15 30 ?_
        refine tk 16 31 ?_
        refine tk 17 32 ?_
        refine tk 18 33 ?_
        refine tk 19 34 ?_
        refine tk 20 35 ?_
        refine tk 21 36 ?_
        refine tk 22 37 ?_
        refine tk 23 38 ?_
        refine tk 24 39 ?_
        refine tk 25 40 ?_
        refine tk 26 41 ?_
        refine tk 27 42 ?_
        refine tk 28 43 ?_
        refine tk 29 44 ?_
        refine tk 30 45 ?_
        refine tk 31 46 ?_
        refine tk 32 47 ?_
        refine tk 33 48 ?_
        refine tk 34 49 ?_
        refine tk 35 50 ?_
        refine tk 36 51 ?_
        refine takeT (i:=37) (d:=52) (v:=undef) rfl rfl (by kernel_rfl) (by kernel_rfl) (by kernel_rfl) (by kernel_rfl) (fun _ _ _ h=>h) (Or.inr ⟨by kernel_rfl,rfl⟩) (by assumption) ?_
        (try simp only[Act.put,z1,z2,z3])
        refine takeT (i:=38) (d:=53) (v:=undef) rfl rfl (by kernel_rfl) (by kernel_rfl) (by kernel_rfl) (by kernel_rfl) (fun _ _ _ h=>h) (Or.inr ⟨by kernel_rfl,rfl⟩) (by assumption) ?_
        (try simp only[Act.put,z1,z2,z3])
        refine takeT (i:=39) (d:=54) (v:=undef) rfl rfl (by kernel_rfl) (by kernel_rfl) (by kernel_rfl) (by kernel_rfl) (fun _ _ _ h=>h) (Or.inr ⟨by kernel_rfl,rfl⟩) (by assumption) ?_
        (try simp only[Act.put,z1,z2,z3])
        refine takeT (i:=40) (d:=55) (v:=undef) rfl rfl (by kernel_rfl) (by kernel_rfl) (by kernel_rfl) (by kernel_rfl) (fun _ _ _ h=>h) (Or.inr ⟨by kernel_rfl,rfl⟩) (by assumption) ?_
        (try simp only[Act.put,z1,z2,z3])
        refine takeT (i:=41) (d:=56) (v:=undef) rfl rfl (by kernel_rfl) (by kernel_rfl) (by kernel_rfl) (by kernel_rfl) (fun _ _ _ h=>h) (Or.inr ⟨by kernel_rfl,rfl⟩) (by assumption) ?_
        (try simp only[Act.put,z1,z2,z3])
        refine takeT (i:=42) (d:=57) (v:=undef) rfl rfl (by kernel_rfl) (by kernel_rfl) (by kernel_rfl) (by kernel_rfl) (fun _ _ _ h=>h) (Or.inr ⟨by kernel_rfl,rfl⟩) (by assumption) ?_
        (try simp only[Act.put,z1,z2,z3])
        refine takeT (i:=43) (d:=58) (v:=undef) rfl rfl (by kernel_rfl) (by kernel_rfl) (by kernel_rfl) (by kernel_rfl) (fun _ _ _ h=>h) (Or.inr ⟨by kernel_rfl,rfl⟩) (by assumption) ?_
        (try simp only[Act.put,z1,z2,z3])
        refine takeT (i:=44) (d:=59) (v:=undef) rfl rfl (by kernel_rfl) (by kernel_rfl) (by kernel_rfl) (by kernel_rfl) (fun _ _ _ h=>h) (Or.inr ⟨by kernel_rfl,rfl⟩) (by assumption) ?_
        (try simp only[Act.put,z1,z2,z3])
        refine takeT (i:=45) (d:=60) (v:=undef) rfl rfl (by kernel_rfl) (by kernel_rfl) (by kernel_rfl) (by kernel_rfl) (fun _ _ _ h=>h) (Or.inr ⟨by kernel_rfl,rfl⟩) (by assumption) ?_
        (try simp only[Act.put,z1,z2,z3])
        refine takeT (i:=46) (d:=61) (v:=undef) rfl rfl (by kernel_rfl) (by kernel_rfl) (by kernel_rfl) (by kernel_rfl) (fun _ _ _ h=>h) (Or.inr ⟨by kernel_rfl,rfl⟩) (by assumption) ?_
        (try simp only[Act.put,z1,z2,z3])
        refine takeT (i:=47) (d:=62) (v:=undef) rfl rfl (by kernel_rfl) (by kernel_rfl) (by kernel_rfl) (by kernel_rfl) (fun _ _ _ h=>h) (Or.inr ⟨by kernel_rfl,rfl⟩) (by assumption) ?_
        (try simp only[Act.put,z1,z2,z3])
        refine takeT (i:=48) (d:=63) (v:=undef) rfl rfl (by kernel_rfl) (by kernel_rfl) (by kernel_rfl) (by kernel_rfl) (fun _ _ _ h=>h) (Or.inr ⟨by kernel_rfl,rfl⟩) (by assumption) ?_
        (try simp only[Act.put,z1,z2,z3])
        refine tk 49 64 ?_
        refine tk 50 65 ?_
        refine tk 51 66 ?_
        refine tk 52 67 ?_
        refine doneT (by kernel_rfl) ?_ _
        clear hHeld
        have HX:=zh hx5
        clear hx5 hb5
        go_wp2_with fail
        go_meet
        exact⟨by rw[HOI.out],HX⟩
       exact AllReadyT.nil
   case rest =>
    obtain⟨rfl,HBC⟩:=hcut
    cases nb with
    | true =>
     have HR:=zh (show VR=false from by
      have h:=HNBE.out
      cases hO:OB with
      | false=>exact HMI.out hO
      | true =>
       rw[hO] at h
       have h2:ordAt L i=false:=by simpa using h.symm
       exact HMO.out h2)
     clear hil
     go_wp2_with fail
     go_ret
     exact⟨ret_b HR.out.symm,HRE.out _ (HB1.out.trans (HBC.out.mono HB1.out.size))⟩
    | false =>
     have HN:=zh (show ∀k,k<i+1→okAt F L k=true from by
      have h:=HNBE.out
      cases hO:OB with
      | false=>rw[hO] at h;simp at h
      | true =>
       rw[hO] at h
       exact HOKI.out hO (by simpa using h.symm))
     clear hil
     have HL1:=zh (show i<LN from HLT.out)
     go_wp2_with fail
     go_roundg (LN - (i+1))
     case measure=>have:=HL1.out;omega
     case rel=>exact⟨i+1,by go_num,by have:=HL1.out;omega,rfl,HN,HBC⟩
  ·have HR:=zh (HHIT.out (fun k hk=>HOKS.out k (by have:=HLN.out;omega)))
   go_wp2_with fail
   go_ret
   exact⟨ret_b HR.out.symm,HB0.out.trans ((HB1.out.trans (HBR.out.mono HB1.out.size)).mono HB0.out.size)⟩
end Go.Proofs.YtcfkllnpkmebpaaGreatDoor
