/- The program's Explain on a made fleet, walked. -/
import Derived.Test.YtcfkllnpkmebpaaGreatDoorMi25
import Derived.Test.YtcfkllnpkmebpaaGreatDoorMi26
import Derived.Test.YtcfkllnpkmebpaaGreatDoorMi01
import Derived.Test.YtcfkllnpkmebpaaGreatDoorMi22
import Derived.Test.YtcfkllnpkmebpaaGreatDoorMi23
import Derived.Test.YtcfkllnpkmebpaaGreatDoorMi24
import Derived.ProofKit
import Derived.OpenShut
import Derived.Lib.SmallJoins
import Derived.Deep.Slices
import Derived.Deep.Fields
import Derived.ChangeSame
import Derived.Test.YtcfkllnpkmebpaaGreatDoorMi04
set_option maxRecDepth 100000
set_option maxHeartbeats 12800000
namespace Go.Proofs.YtcfkllnpkmebpaaGreatDoor
open Go.RowKit
open Go.ChangeMaps Go.MapKept Go.WideShapes
set_option linter.unusedVariables false
set_option linter.unusedSimpArgs false
theorem explain_out(N:Nat) (hN:N≤12) (vl vm vd vv vp vo vp0 vo0 va0:Value) (F:FltM) (r:Re) (w:World) (hf:FleetS w (Bl w.heap.size) vl vm vd vv vp vo F) (hok:FleetOk N F) (h:ReS w (Bl w.heap.size) vp0 vo0 va0 r) (hx:F.dves.length<r.plat.length∨F.dves.length<r.on.length) :
  Calls Tryz.prog 28 #[.agg #[.int .i64 F.ext,vl,vm,vd,vv,vp,vo],.agg #[vp0,vo0,va0]] w fun e w'=>e=.returned (.slice none 0 0)∧Below w.heap.size w w':=by
 obtain⟨Ad,cd,rfl,-,hmd⟩:=SlS.form hf.2.2.2.1
 obtain⟨Ap,cp,rfl,-,hmp⟩:=h.1.form
 obtain⟨Ao,co,rfl,-,hmo⟩:=h.2.1.form
 unfold maxLen at hmd hmp hmo
 obtain⟨W0,hW0⟩:=zx ((w.alloc (.cells #[.int .i64 F.ext,vl,vm,vd,.slice Ad F.dves.length cd,vp,vo] 35)).alloc (.cells #[.slice Ap r.plat.length cp,.slice Ao r.on.length co,va0] 40))
 obtain⟨z,hz⟩:=zx w.heap.size
 obtain⟨y,hy⟩:=zx (w.heap.size+1)
 have hb0:Below w.heap.size w W0:=by rw[hW0];exact((Below.refl _ _).alloc (Nat.le_refl _) _).alloc (by simp) _
 have hyk:W0.heap[y]?=some (.cells #[.slice Ap r.plat.length cp,.slice Ao r.on.length co,va0] 40 (0,0)):=by
  rw[hW0];exact heap_alloc_at _ _ _ (by rw[hy];simp)
 have hzk:W0.heap[z]?=some (.cells #[.int .i64 F.ext,vl,vm,vd,.slice Ad F.dves.length cd,vp,vo] 35 (0,0)):=by
  rw[hW0,hz];exact(Below.heap_alloc _ _ _ (by simp)).trans (heap_alloc_new w _)
 have hyl:y<W0.heap.size:=(Array.getElem?_eq_some_iff.1 hyk).1
 have hzl:z<W0.heap.size:=(Array.getElem?_eq_some_iff.1 hzk).1
 have HVA:=zh (fvalidate_any N hN vl vm vd _ vp vo F W0 (hf.below hb0) hok)
 have HC:=zh (fun(w':World) (hb:Below W0.heap.size W0 w')=>And.intro (cells7 ((hb.block z hzl).trans hzk)) (cells3 ((hb.block y hyl).trans hyk)))
 have HW0:=zh hW0
 have HZ:=zh (And.intro hz hy)
 have HB0:=zh hb0
 obtain⟨⟨c0,c1,c2,c3,c4,c5,c6⟩,-⟩:=HC.out W0 (Below.refl _ _)
 obtain⟨EX,hEX⟩:=zx F.ext
 obtain⟨ND,hND⟩:=zx F.dves.length
 obtain⟨NPL,hNPL⟩:=zx r.plat.length
 obtain⟨NOL,hNOL⟩:=zx r.on.length
 rw[←hEX,←hND] at HVA HW0 HC ⊢
 rw[←hEX] at c0
 rw[←hND] at c4 hmd
 rw[←hNPL,←hNOL] at HW0 HC ⊢
 rw[←hNPL] at hmp
 rw[←hNOL] at hmo
 rw[←hND,←hNPL,←hNOL] at hx
 by_cases hc:ND<NPL
 ·have t1:decide (ND<NPL)=true:=decide_eq_true hc
  clear hf hok h hW0 hz hy hb0 hyk hzk hyl hzl hEX hND hNPL hNOL hx hc
  go_enter Tryz.func28,Tryz.ntmps28
  go_wp2_with fail
  rw[←HW0.out,←HZ.out.2,←HZ.out.1]
  refine HVA.out.mono ?_
  rintro e w1 ⟨rfl,hb1⟩
  have HB1:=zh hb1
  clear c0 c1 c2 c3 c4 c5 c6 hb1
  obtain⟨⟨c0,c1,c2,c3,c4,c5,c6⟩,y0,y1,y2,-⟩:=HC.out w1 HB1.out
  go_wp2_with fail
  go_ret
  exact⟨rfl,HB0.out.trans (HB1.out.mono HB0.out.size)⟩
 ·have t1:decide (ND<NPL)=false:=decide_eq_false hc
  have t2:decide (ND<NOL)=true:=decide_eq_true (hx.resolve_left hc)
  clear hf hok h hW0 hz hy hb0 hyk hzk hyl hzl hEX hND hNPL hNOL hx hc
  go_enter Tryz.func28,Tryz.ntmps28
  go_wp2_with fail
  rw[←HW0.out,←HZ.out.2,←HZ.out.1]
  refine HVA.out.mono ?_
  rintro e w1 ⟨rfl,hb1⟩
  have HB1:=zh hb1
  clear c0 c1 c2 c3 c4 c5 c6 hb1
  obtain⟨⟨c0,c1,c2,c3,c4,c5,c6⟩,y0,y1,y2,-⟩:=HC.out w1 HB1.out
  go_wp2_with fail
  go_ret
  exact⟨rfl,HB0.out.trans (HB1.out.mono HB0.out.size)⟩
theorem explain_empty(vp0 vo0 va0:Value) (w:World) :
  Calls Tryz.prog 28 #[.agg #[.int .i64 0,.slice none 0 0,.slice none 0 0,.slice none 0 0,.slice none 0 0,.slice none 0 0,.slice none 0 0],.agg #[vp0,vo0,va0]] w fun e w'=>e=.returned (.slice none 0 0)∧Below w.heap.size w w':=by
 obtain⟨W0,hW0⟩:=zx ((w.alloc (.cells #[.int .i64 0,.slice none 0 0,.slice none 0 0,.slice none 0 0,.slice none 0 0,.slice none 0 0,.slice none 0 0] 35)).alloc (.cells #[vp0,vo0,va0] 40))
 obtain⟨z,hz⟩:=zx w.heap.size
 have hb0:Below w.heap.size w W0:=by rw[hW0];exact((Below.refl _ _).alloc (Nat.le_refl _) _).alloc (by simp) _
 have hzk:W0.heap[z]?=some (.cells #[.int .i64 0,.slice none 0 0,.slice none 0 0,.slice none 0 0,.slice none 0 0,.slice none 0 0,.slice none 0 0] 35 (0,0)):=by
  rw[hW0,hz];exact(Below.heap_alloc _ _ _ (by simp)).trans (heap_alloc_new w _)
 obtain⟨c0,c1,c2,c3,c4,c5,c6⟩:=cells7 hzk
 have HVA:=zh (fvalidate_empty W0)
 have HW0:=zh hW0
 have HZ:=zh hz
 have HB0:=zh hb0
 clear hW0 hz hb0 hzk
 go_enter Tryz.func28,Tryz.ntmps28
 go_wp2_with fail
 rw[←HW0.out,←HZ.out]
 refine HVA.out.mono ?_
 rintro e w1 ⟨rfl,hb1⟩
 have HB1:=zh hb1
 clear c0 c1 c2 c3 c4 c5 c6 hb1
 go_wp2_with fail
 go_ret
 exact⟨rfl,HB0.out.trans (HB1.out.mono HB0.out.size)⟩
theorem OwnKy.apart{w w':World} {B B':Nat} {u v:Value} {ks:List (Nat×Nat)} {L:List IncW} (h:OwnKy w B u ks) (hi:IncsS w B' v L) (hg:w.grownBy w' v.ownBlock):OwnKy w' B u ks:=by
 refine World.ownsRow.kept h hg ?_
 cases hu:u.ownBlock with
 | none=>exact .inl rfl
 | some g =>
  refine .inr fun e=>?_
  exact own_apart h hi.row (by decide) hu e.symm rfl
theorem keyL_mem2{F:FltM} {r:Re} {cond:Int→Int→Int→Bool} {ext NO:Nat} {x:Nat×Nat} (h:x∈keyL F r cond ext NO 0):x.1<NO∧x.2<ext∧keyP F r cond x=true:=by
 unfold keyL at h
 obtain⟨h1,h2⟩:=List.mem_filter.1 h
 unfold keysTo at h1
 rcases List.mem_append.1 h1 with h3 | h3
 ·obtain⟨v,hv,h4⟩:=List.mem_flatMap.1 h3
  obtain⟨s,hs,rfl⟩:=List.mem_map.1 h4
  exact⟨List.mem_range.1 hv,List.mem_range.1 hs,h2⟩
 ·simp at h3
theorem keysTo_ne(ext v s:Nat) (hs:s≤ext):(keysTo ext v s).Pairwise (fun a b=>a≠b):=(keysTo_rise ext v s hs).imp (fun h e=>by subst e;omega)
theorem sorted_incL{F:FltM} {r:Re} {ext NV:Nat} {l:List Inc} (hp:l.Perm ((keyL F r (condR true) ext NV 0).map (incOf F r true)++(keyL F r (condR false) ext NV 0).map (incOf F r false))) (hs:l.Pairwise (fun a b=>¬incLt b a)):l=incL F r ext NV 0:=by
 refine incL_sorted hp ?_
 have hd:l.Pairwise (fun a b:Inc=>¬(a.vol=b.vol∧a.stripe=b.stripe)):=by
  rw[List.Perm.pairwise_iff (R:=fun a b:Inc=>¬(a.vol=b.vol∧a.stripe=b.stripe)) (fun {x y} h e=>h ⟨e.1.symm,e.2.symm⟩) hp]
  have hne:=keysTo_ne ext NV 0 (Nat.zero_le _)
  have hone:∀(c:Int→Int→Int→Bool) (lb:Bool),((keyL F r c ext NV 0).map (incOf F r lb)).Pairwise (fun a b:Inc=>¬(a.vol=b.vol∧a.stripe=b.stripe)):=fun c lb=>by
   rw[List.pairwise_map]
   refine(hne.filter _).imp ?_
   intro a b h e
   obtain⟨a1,a2⟩:=a
   obtain⟨b1,b2⟩:=b
   have e1:(a1:Int)=(b1:Int):=e.1
   have e2:(a2:Int)=(b2:Int):=e.2
   exact h (by rw[show a1=b1 by omega,show a2=b2 by omega])
  rw[List.pairwise_append]
  refine⟨hone _ _,hone _ _,fun a ha b hb e=>?_⟩
  obtain⟨⟨p1,p2⟩,hp1,rfl⟩:=List.mem_map.1 ha
  obtain⟨⟨q1,q2⟩,hq1,rfl⟩:=List.mem_map.1 hb
  have e1:(p1:Int)=(q1:Int):=e.1
  have e2:(p2:Int)=(q2:Int):=e.2
  obtain rfl:p1=q1:=by omega
  obtain rfl:p2=q2:=by omega
  have h1:lostP F r (p1,p2)=true:=(List.mem_filter.1 hp1).2
  have h2:awayP F r (p1,p2)=true:=(List.mem_filter.1 hq1).2
  rw[lost_away F r _ h1] at h2;cases h2
 refine(hs.and hd).imp ?_
 intro a b h
 unfold incLt at *
 omega
theorem explain_in(N:Nat) (hN:N≤3) (vl vm vd vv vp vo vp0 vo0 va0:Value) (F:FltM) (r:Re) (EX:Nat) (w:World) (hf:FleetS w (Bl w.heap.size) vl vm vd vv vp vo F) (hok:FleetOk N F) (h:ReS w (Bl w.heap.size) vp0 vo0 va0 r) (hp:r.plat.length≤24) (hl:∀l∈r.plat,l.length≤1000) (hac:r.acks.length≤1000000) (hEX:F.ext=(EX:Int))
  (hx1:r.plat.length≤F.dves.length) (hx2:r.on.length≤F.dves.length) :
  Calls Tryz.prog 28 #[.agg #[.int .i64 F.ext,vl,vm,vd,vv,vp,vo],.agg #[vp0,vo0,va0]] w fun e w'=>∃u,e=.returned u∧SlS 5 IncK w' (Fr w.heap.size w'.heap.size) u (incL F r EX F.vols.length 0)∧Below w.heap.size w w':=by
 have HKM:=zh (fun(a:Nat) (ha:a<F.vols.length)=>kmq_ok hok ha)
 obtain⟨pb,pof,ob,oof,cp,co,rfl,rfl,-,-,-⟩:=polAt hf hok
 obtain⟨Ad,cd,rfl,-,hmd⟩:=SlS.form hf.2.2.2.1
 obtain⟨Ap,cpl,rfl,-,-⟩:=h.1.form
 obtain⟨Ao,col,rfl,-,hmo⟩:=h.2.1.form
 obtain⟨Aa,cal,rfl,-,hma⟩:=h.2.2.form
 unfold maxLen at hmd hmo
 have HLO:=zh (fun(w':World) (hb:Below w.heap.size w w')=>lost_any N (by omega) vl vm vd _ _ _ _ _ _ F r w' (hf.below hb) hok (h.below hb) (by omega) hl hac)
 have HUN:=zh (fun(w':World) (hb:Below w.heap.size w w')=>unav_any N (by omega) vl vm vd _ _ _ _ _ _ F r w' (hf.below hb) hok (h.below hb) (by omega) hl hac)
 have HOD:=zh (fun(w':World) (hb:Below w.heap.size w w')=>old_any _ _ _ r w' (h.below hb) (by omega) hl)
 have HEX0:=zh (fun(lb:Bool) (a b KN KM gm n:Nat) (w':World) (hb:Below w.heap.size w w') (ha:a<F.vols.length) (hbb:b<EX) (hKN:kOf F a=(KN:Int)) (hKM:kOf F a+mOf F a=(KM:Int)) (hM:MapG w' 210 k3 gm n (fun k=>(oldD r k.v k.f k.s).map dV))=>explain_any N (by omega) vl vm vd _ _ _ _ _ _ F r a b EX KN KM gm n lb w' (hf.below hb) hok (h.below hb) hp hl hac ha hEX hbb hKN hKM hM)
 have hex:EX≤2:=by have:=hok.ext;omega
 have hno:=hok.volN
 have HEXN:=zh (show F.ext.toNat=EX by omega)
 obtain⟨KL1,hKL1⟩:=zx (keyL F r (condR true) F.ext.toNat F.vols.length 0)
 obtain⟨KL2,hKL2⟩:=zx (keyL F r (condR false) F.ext.toNat F.vols.length 0)
 have hkl:KL1.length≤6∧KL2.length≤6:=by
  have h1:=keyL_len F r (condR true) F.ext.toNat F.vols.length 0
  have h2:=keyL_len F r (condR false) F.ext.toNat F.vols.length 0
  have h3:F.vols.length * F.ext.toNat≤3 * 2:=Nat.mul_le_mul (by omega) (by omega)
  rw[hKL1,hKL2]
  omega
 have HKL6:=zh hkl
 have HKL:=zh (And.intro hKL1 hKL2)
 rw[←hKL1] at HLO
 rw[←hKL2] at HUN
 rw[hEX] at HLO HUN HEX0 ⊢
 obtain⟨W0,hW0⟩:=zx ((w.alloc (.cells #[.int .i64 (EX:Int),vl,vm,vd,.slice Ad F.dves.length cd,.slice (some ⟨pb,pof,none⟩) F.pols.length cp,.slice (some ⟨ob,oof,none⟩) F.vols.length co] 35)).alloc (.cells #[.slice Ap r.plat.length cpl,.slice Ao r.on.length col,.slice Aa r.acks.length cal] 40))
 obtain⟨z,hz⟩:=zx w.heap.size
 obtain⟨y,hy⟩:=zx (w.heap.size+1)
 have hb0:Below w.heap.size w W0:=by rw[hW0];exact((Below.refl _ _).alloc (Nat.le_refl _) _).alloc (by simp) _
 have HVA:=zh (show Calls Tryz.prog 48 #[.agg #[.int .i64 (EX:Int),vl,vm,vd,.slice Ad F.dves.length cd,.slice (some ⟨pb,pof,none⟩) F.pols.length cp,.slice (some ⟨ob,oof,none⟩) F.vols.length co]] W0 fun e w'=>e=.returned (.int .i64 0)∧Below W0.heap.size W0 w' from by rw[←hEX];exact fvalidate_any N (by omega) vl vm vd _ _ _ F W0 (hf.below hb0) hok)
 obtain⟨ND,hND⟩:=zx F.dves.length
 obtain⟨NO,hNO⟩:=zx F.vols.length
 obtain⟨NP,hNP⟩:=zx F.pols.length
 obtain⟨NPL,hNPL⟩:=zx r.plat.length
 obtain⟨NOL,hNOL⟩:=zx r.on.length
 obtain⟨NAL,hNAL⟩:=zx r.acks.length
 have HNO:=zh hNO
 rw[←hND] at HLO HUN HEX0 HVA hW0 hx1 hx2 hmd
 rw[←hNO] at HLO HUN HEX0 HVA hW0 hno ⊢
 rw[←hNP] at HLO HUN HEX0 HVA hW0
 rw[←hNPL] at HLO HUN HEX0 HOD hW0 hx1 hp
 rw[←hNOL] at HLO HUN HEX0 HOD hW0 hx2 hmo
 rw[←hNAL] at HLO HUN HEX0 HOD hW0
 rw[←hND,←hNP,←hNPL,←hNOL,←hNAL]
 have hyk:W0.heap[y]?=some (.cells #[.slice Ap NPL cpl,.slice Ao NOL col,.slice Aa NAL cal] 40 (0,0)):=by
  rw[hW0];exact heap_alloc_at _ _ _ (by rw[hy];simp)
 have hzk:W0.heap[z]?=some (.cells #[.int .i64 (EX:Int),vl,vm,vd,.slice Ad ND cd,.slice (some ⟨pb,pof,none⟩) NP cp,.slice (some ⟨ob,oof,none⟩) NO co] 35 (0,0)):=by
  rw[hW0,hz];exact(Below.heap_alloc _ _ _ (by simp)).trans (heap_alloc_new w _)
 have hyl:y<W0.heap.size:=(Array.getElem?_eq_some_iff.1 hyk).1
 have hzl:z<W0.heap.size:=(Array.getElem?_eq_some_iff.1 hzk).1
 have HS3:=zh (fun(w':World) (hb:Below W0.heap.size W0 w')=>(show w'.cell? ⟨z,0,none⟩=some (.int .i64 (EX:Int))∧w'.cell? ⟨z,1,none⟩=some vl∧w'.cell? ⟨z,2,none⟩=some vm∧w'.cell? ⟨z,3,none⟩=some vd∧w'.cell? ⟨z,4,none⟩=some (.slice Ad ND cd)∧w'.cell? ⟨z,5,none⟩=some (.slice (some ⟨pb,pof,none⟩) NP cp)∧w'.cell? ⟨z,6,none⟩=some (.slice (some ⟨ob,oof,none⟩) NO co)∧w'.cell? ⟨y,0,none⟩=some (.slice Ap NPL cpl)∧w'.cell? ⟨y,1,none⟩=some (.slice Ao NOL col)∧w'.cell? ⟨y,2,none⟩=some (.slice Aa NAL cal) from by
  obtain⟨c0,c1,c2,c3,c4,c5,c6⟩:=cells7 ((hb.block z hzl).trans hzk)
  obtain⟨y0,y1,y2,-⟩:=cells3 ((hb.block y hyl).trans hyk)
  exact⟨c0,c1,c2,c3,c4,c5,c6,y0,y1,y2⟩))
 have HRE:=zh (fun(w':World) (hb:Below W0.heap.size W0 w')=>hb0.trans (hb.mono hb0.size))
 have HW0:=zh hW0
 have HZ:=zh (And.intro hz hy)
 have HB0:=zh hb0
 have HSM:=zh (show EX≤2∧NO≤3 from⟨hex,by omega⟩)
 have t1:decide (ND<NPL)=false:=decide_eq_false (by omega)
 have t2:decide (ND<NOL)=false:=decide_eq_false (by omega)
 obtain⟨c0,c1,c2,c3,c4,c5,c6,y0,y1,y2⟩:=HS3.out W0 (Below.refl _ _)
 clear hf hok h hW0 hz hy hb0 hyk hzk hyl hzl hND hNO hNP hNPL hNOL hNAL hEX hKL1 hKL2 hl hN hx1 hx2 hp hac hkl hma
 go_enter Tryz.func28,Tryz.ntmps28
 go_wp2_with fail
 rw[←HW0.out,←HZ.out.2,←HZ.out.1]
 refine HVA.out.mono ?_
 rintro e w2 ⟨rfl,hb2⟩
 have HB2:=zh hb2
 clear c0 c1 c2 c3 c4 c5 c6 y0 y1 y2 hb2
 obtain⟨c0,c1,c2,c3,c4,c5,c6,y0,y1,y2⟩:=HS3.out w2 HB2.out
 go_wp2_with fail
 refine(HOD.out _ (HRE.out _ HB2.out)).mono ?_
 rintro e w2b ⟨gm,nm,rfl,-,hMG,hb2b⟩
 have HB2b:=zh (HB2.out.trans (hb2b.mono HB2.out.size))
 have HMG:=zh hMG
 clear c0 c1 c2 c3 c4 c5 c6 y0 y1 y2 hMG hb2b t1 t2
 obtain⟨c0,c1,c2,c3,c4,c5,c6,y0,y1,y2⟩:=HS3.out w2b HB2b.out
 go_wp2_with fail
 refine(HLO.out _ (HRE.out _ HB2b.out)).mono ?_
 rintro e w3 ⟨u1,rfl,ho1,hb3⟩
 obtain⟨A1,cu1,hu1⟩:=ho1.form
 obtain⟨N1,hN1⟩:=zx KL1.length
 rw[←hN1] at hu1
 subst hu1
 have HNtrue:=zh hN1
 have HPtrue:=zh (show([]:List Inc).length=0 from rfl)
 have HB3:=zh (HB2b.out.trans (hb3.mono HB2b.out.size))
 have HMG3:=zh (HMG.out.below hb3 HMG.out.lt)
 have HO1:=zh (ho1.base (Nat.le_trans HB0.out.size HB2b.out.size))
 have hn16:(N1:Int)≤6:=by have:=HKL6.out.1;omega
 have HEXP:=zh (fun(lb:Bool) (a b KN KM:Nat) (w':World) (hb:Below w3.heap.size w3 w') (ha:a<F.vols.length) (hbb:b<EX) (hKN:kOf F a=(KN:Int)) (hKM:kOf F a+mOf F a=(KM:Int))=>HEX0.out lb a b KN KM gm nm w' (HRE.out w' (HB3.out.trans (hb.mono HB3.out.size))) (by rw[HNO.out];exact ha) hbb hKN hKM (HMG3.out.below hb HMG3.out.lt))
 clear c0 c1 c2 c3 c4 c5 c6 y0 y1 y2 ho1 hb3 hN1
 go_wp2_with fail
 go_loopg [6,38] N1 (fun z7 vs v38 wr=>∃(j:Nat) (L:List IncW) (v6:Value),v6=vs∧v38=.int .i64 (j:Int)∧j≤N1∧z7=N1 - j∧Hid (IncsS wr w3.heap.size v6 L)∧Hid (L.map (·.x)=([]:List Inc)++(KL1.take j).map (incOf F r true))∧Hid (Below w3.heap.size w3 wr)∧Hid (OwnKy wr w.heap.size (.slice A1 N1 cu1) KL1))
 case atStart=>exact⟨0,[],_,rfl,rfl,Nat.zero_le _,rfl,zh (IncsS.nil _ _),zh rfl,zh (Below.refl _ _),HO1⟩
 case round =>
  clear HO1
  obtain⟨j,L,v6,rfl,rfl,hj,rfl,HIN,HLL,HBR,HOK⟩:=hrel
  by_cases hlt:j<N1
  ·have HLT:=zh hlt
   have hjl:j<KL1.length:=by rw[←HNtrue.out];exact hlt
   obtain⟨b,off,cs,hA,-,-,hc,hcs⟩:=HOK.out.slS.at_ (k:=j) hjl
   obtain⟨e0,e1⟩:=two_ky hc hcs
   subst hA
   obtain⟨hm1,hm2,-⟩:=keyL_mem2 (show KL1[j]∈keyL F r (condR true) F.ext.toNat F.vols.length 0 from by rw[←HKL.out.1];exact List.getElem_mem hjl)
   have HTK:=zh (show KL1.take (j+1)=KL1.take j++[KL1[j]] from List.take_succ_eq_append_getElem hjl)
   obtain⟨x,hx⟩:=zx (KL1[j])
   rw[←hx] at e0 e1 hm1 hm2 HTK
   obtain⟨x1,x2⟩:=x
   simp only at e0 e1 hm1 hm2
   obtain⟨hk12,hm0',hm2',-,-⟩:=HKM.out x1 hm1
   obtain⟨KN,hKN⟩:∃k:Nat,kOf F x1=(k:Int):=⟨(kOf F x1).toNat,by omega⟩
   obtain⟨KM,hKM⟩:∃k:Nat,kOf F x1+mOf F x1=(k:Int):=⟨(kOf F x1+mOf F x1).toNat,by omega⟩
   have HIO:=zh (incOf_eq F r true x1 x2 KN KM hKN hKM)
   obtain⟨W5,hW5⟩:=zx (wr.alloc (.cells #[.int .i64 (x1:Int),.int .i64 (x2:Int)] 67))
   obtain⟨gk2,hgk⟩:=zx wr.heap.size
   have hb5:Below wr.heap.size wr W5:=by rw[hW5];exact(Below.refl _ _).alloc (Nat.le_refl _) _
   have hqk:W5.heap[gk2]?=some (.cells #[.int .i64 (x1:Int),.int .i64 (x2:Int)] 67 (0,0)):=by rw[hW5,hgk];exact heap_alloc_new wr _
   have HB5:=zh (HBR.out.trans (hb5.mono HBR.out.size))
   have HCL:=zh (HEXP.out true x1 x2 KN KM W5 HB5.out hm1 (by have:=HEXN.out;omega) hKN hKM)
   have HIN5:=zh (HIN.out.below hb5)
   have HOK5:=zh (HOK.out.below hb5)
   have q0:W5.cell? ⟨gk2,0,none⟩=some (.int .i64 (x1:Int)):=by rw[cell_of_row _ _ _ _ _ _ hqk];rfl
   have q1:W5.cell? ⟨gk2,1,none⟩=some (.int .i64 (x2:Int)):=by rw[cell_of_row _ _ _ _ _ _ hqk];rfl
   obtain⟨c0,c1,c2,c3,c4,c5,c6,y0,y1,y2⟩:=HS3.out W5 (HB3.out.trans (HB5.out.mono HB3.out.size))
   have HW5:=zh hW5
   have HGK2:=zh hgk
   have HLTR:=zh (show ∀bb,v6.ownBlock=some bb→bb<W5.heap.size from fun bb e=>Nat.lt_of_lt_of_le (HIN.out.row.lt bb e).2 hb5.size)
   have HLEN:=zh (show L.length+1≤16777216 by
    have h1:=congrArg List.length HLL.out
    rw[List.length_map,List.length_append,List.length_map,List.length_take] at h1
    have h2:=HPtrue.out
    have h3:=HNtrue.out
    have h4:=HLT.out
    omega)
   clear hc hcs hjl hx hm1 hm2 hk12 hm0' hm2' hKN hKM hW5 hgk hb5 hqk hlt
   go_upto_region 8 with fail
   clear e0 e1
   rw[←HW5.out,←HGK2.out]
   go_wp2_with (first | (go_at_call 78;refine HCL.out.mono ?_;rintro e w6 ⟨cv,rfl,hsl6,hb6⟩;have HIN6:=zh (HIN5.out.below hb6);have HOK6:=zh (HOK5.out.below hb6);have HB6:=zh (HB5.out.trans (hb6.mono HB5.out.size));have HNEW:=zh (show SlS 2 CauK w6 (IncR w6 w3.heap.size v6) cv (causL r (x1:Int) (x2:Int) KM) from SlS.mono cauK hsl6 (fun bb hx=>⟨Nat.le_trans HB5.out.size hx.1,hx.2,fun e=>(by have h1:=HLTR.out bb e;have:=hx.1;omega)⟩));clear hsl6 hb6) | (at_builtin;refine app_inc ⟨(x1:Int),(x2:Int),true,(KN:Int),causL r (x1:Int) (x2:Int) KM⟩ cv (.tmp 42) (.tmp 48) rfl rfl w3.heap.size v6 L (by rfl) HIN6.out HNEW.out (by rfl) HLEN.out HB6.out.size ?_;intro v8 w8 hi8 hg8;have HI8:=zh hi8;have HG8:=zh hg8;clear hi8 hg8))
   go_roundg (N1 - (j+1))
   case measure=>have:=HLT.out;omega
   case rel =>
    refine⟨j+1,_,_,rfl,by go_num,by have:=HLT.out;omega,rfl,HI8,zh ?_,zh (HB6.out.grown HG8.out HB6.out.size (fun bb hx=>(HIN6.out.row.lt bb hx).1)),zh (HOK6.out.apart HIN6.out HG8.out)⟩
    rw[HTK.out,List.map_append,List.map_append,HLL.out,List.append_assoc]
    show _++(_++[_])=_++(_++[_])
    rw[HIO.out]
  ·have HP0:=zh (show L.map (·.x)=KL1.map (incOf F r true) from by
    rw[HLL.out,List.nil_append,List.take_of_length_le (by have:=HNtrue.out;omega)])
   obtain⟨P0,hP0⟩:∃P:List Inc,P=KL1.map (incOf F r true):=⟨_,rfl⟩
   have HPfalse:=zh (show P0.length≤6 by rw[hP0,List.length_map];exact HKL6.out.1)
   have HPE:=zh hP0
   rw[←hP0] at HP0
   obtain⟨c0,c1,c2,c3,c4,c5,c6,y0,y1,y2⟩:=HS3.out wr (HB3.out.trans (HBR.out.mono HB3.out.size))
   clear hP0
   go_wp2_with fail
   refine(HUN.out _ (HRE.out _ (HB3.out.trans (HBR.out.mono HB3.out.size)))).mono ?_
   rintro e w4 ⟨u2,rfl,ho2,hb4⟩
   obtain⟨A2,cu2,hu2⟩:=ho2.form
   obtain⟨N2,hN2⟩:=zx KL2.length
   rw[←hN2] at hu2
   subst hu2
   have HNfalse:=zh hN2
   have HIN4:=zh (HIN.out.below hb4)
   have HBR4:=zh (HBR.out.trans (hb4.mono HBR.out.size))
   have HO2:=zh (ho2.base (Nat.le_trans (Nat.le_trans HB0.out.size HB3.out.size) HBR.out.size))
   have hn26:(N2:Int)≤6:=by have:=HKL6.out.2;omega
   have HL4:=zh (show L.map (·.x)=P0++(KL2.take 0).map (incOf F r false) by rw[HP0.out];simp)
   clear c0 c1 c2 c3 c4 c5 c6 y0 y1 y2 ho2 hb4 hN2 HLL HIN HBR HOK
   go_wp2_with fail
   go_loopg [6,55] N2 (fun z7 vs v38 wr=>∃(j:Nat) (L:List IncW) (v6:Value),v6=vs∧v38=.int .i64 (j:Int)∧j≤N2∧z7=N2 - j∧Hid (IncsS wr w3.heap.size v6 L)∧Hid (L.map (·.x)=P0++(KL2.take j).map (incOf F r false))∧Hid (Below w3.heap.size w3 wr)∧Hid (OwnKy wr w.heap.size (.slice A2 N2 cu2) KL2))
   case atStart=>exact⟨0,L,_,rfl,rfl,Nat.zero_le _,rfl,HIN4,HL4,HBR4,HO2⟩
   case round =>
    clear HIN4 HL4 HBR4 HO2 HP0
    obtain⟨j,L,v6,rfl,rfl,hj,rfl,HIN,HLL,HBR,HOK⟩:=hrel
    by_cases hlt:j<N2
    ·have HLT:=zh hlt
     have hjl:j<KL2.length:=by rw[←HNfalse.out];exact hlt
     obtain⟨b,off,cs,hA,-,-,hc,hcs⟩:=HOK.out.slS.at_ (k:=j) hjl
     obtain⟨e0,e1⟩:=two_ky hc hcs
     subst hA
     obtain⟨hm1,hm2,-⟩:=keyL_mem2 (show KL2[j]∈keyL F r (condR false) F.ext.toNat F.vols.length 0 from by rw[←HKL.out.2];exact List.getElem_mem hjl)
     have HTK:=zh (show KL2.take (j+1)=KL2.take j++[KL2[j]] from List.take_succ_eq_append_getElem hjl)
     obtain⟨x,hx⟩:=zx (KL2[j])
     rw[←hx] at e0 e1 hm1 hm2 HTK
     obtain⟨x1,x2⟩:=x
     simp only at e0 e1 hm1 hm2
     obtain⟨hk12,hm0',hm2',-,-⟩:=HKM.out x1 hm1
     obtain⟨KN,hKN⟩:∃k:Nat,kOf F x1=(k:Int):=⟨(kOf F x1).toNat,by omega⟩
     obtain⟨KM,hKM⟩:∃k:Nat,kOf F x1+mOf F x1=(k:Int):=⟨(kOf F x1+mOf F x1).toNat,by omega⟩
     have HIO:=zh (incOf_eq F r false x1 x2 KN KM hKN hKM)
     obtain⟨W5,hW5⟩:=zx (wr.alloc (.cells #[.int .i64 (x1:Int),.int .i64 (x2:Int)] 67))
     obtain⟨gk2,hgk⟩:=zx wr.heap.size
     have hb5:Below wr.heap.size wr W5:=by rw[hW5];exact(Below.refl _ _).alloc (Nat.le_refl _) _
     have hqk:W5.heap[gk2]?=some (.cells #[.int .i64 (x1:Int),.int .i64 (x2:Int)] 67 (0,0)):=by rw[hW5,hgk];exact heap_alloc_new wr _
     have HB5:=zh (HBR.out.trans (hb5.mono HBR.out.size))
     have HCL:=zh (HEXP.out false x1 x2 KN KM W5 HB5.out hm1 (by have:=HEXN.out;omega) hKN hKM)
     have HIN5:=zh (HIN.out.below hb5)
     have HOK5:=zh (HOK.out.below hb5)
     have q0:W5.cell? ⟨gk2,0,none⟩=some (.int .i64 (x1:Int)):=by rw[cell_of_row _ _ _ _ _ _ hqk];rfl
     have q1:W5.cell? ⟨gk2,1,none⟩=some (.int .i64 (x2:Int)):=by rw[cell_of_row _ _ _ _ _ _ hqk];rfl
     obtain⟨c0,c1,c2,c3,c4,c5,c6,y0,y1,y2⟩:=HS3.out W5 (HB3.out.trans (HB5.out.mono HB3.out.size))
     have HW5:=zh hW5
     have HGK2:=zh hgk
     have HLTR:=zh (show ∀bb,v6.ownBlock=some bb→bb<W5.heap.size from fun bb e=>Nat.lt_of_lt_of_le (HIN.out.row.lt bb e).2 hb5.size)
     have HLEN:=zh (show L.length+1≤16777216 by
      have h1:=congrArg List.length HLL.out
      rw[List.length_map,List.length_append,List.length_map,List.length_take] at h1
      have h2:=HPfalse.out
      have h3:=HNfalse.out
      have h4:=HLT.out
      omega)
     clear hc hcs hjl hx hm1 hm2 hk12 hm0' hm2' hKN hKM hW5 hgk hb5 hqk hlt
     go_upto_region 13 with fail
     clear e0 e1
     rw[←HW5.out,←HGK2.out]
     go_wp2_with (first | (go_at_call 78;refine HCL.out.mono ?_;rintro e w6 ⟨cv,rfl,hsl6,hb6⟩;have HIN6:=zh (HIN5.out.below hb6);have HOK6:=zh (HOK5.out.below hb6);have HB6:=zh (HB5.out.trans (hb6.mono HB5.out.size));have HNEW:=zh (show SlS 2 CauK w6 (IncR w6 w3.heap.size v6) cv (causL r (x1:Int) (x2:Int) KM) from SlS.mono cauK hsl6 (fun bb hx=>⟨Nat.le_trans HB5.out.size hx.1,hx.2,fun e=>(by have h1:=HLTR.out bb e;have:=hx.1;omega)⟩));clear hsl6 hb6) | (at_builtin;refine app_inc ⟨(x1:Int),(x2:Int),false,(KN:Int),causL r (x1:Int) (x2:Int) KM⟩ cv (.tmp 59) (.tmp 65) rfl rfl w3.heap.size v6 L (by rfl) HIN6.out HNEW.out (by rfl) HLEN.out HB6.out.size ?_;intro v8 w8 hi8 hg8;have HI8:=zh hi8;have HG8:=zh hg8;clear hi8 hg8))
     go_roundg (N2 - (j+1))
     case measure=>have:=HLT.out;omega
     case rel =>
      refine⟨j+1,_,_,rfl,by go_num,by have:=HLT.out;omega,rfl,HI8,zh ?_,zh (HB6.out.grown HG8.out HB6.out.size (fun bb hx=>(HIN6.out.row.lt bb hx).1)),zh (HOK6.out.apart HIN6.out HG8.out)⟩
      rw[HTK.out,List.map_append,List.map_append,HLL.out,List.append_assoc]
      show _++(_++[_])=_++(_++[_])
      rw[HIO.out]
    ·have HPM:=zh (show(L.map (·.x)).Perm ((keyL F r (condR true) F.ext.toNat F.vols.length 0).map (incOf F r true)++(keyL F r (condR false) F.ext.toNat F.vols.length 0).map (incOf F r false)) from by
      have h2:KL2.take j=KL2:=List.take_of_length_le (by have:=HNfalse.out;omega)
      have e:L.map (·.x)=(keyL F r (condR true) F.ext.toNat F.vols.length 0).map (incOf F r true)++(keyL F r (condR false) F.ext.toNat F.vols.length 0).map (incOf F r false):=by rw[HLL.out,h2,HPE.out,←HKL.out.1,←HKL.out.2]
      exact e▸List.Perm.refl _)
     have HL12:=zh (show L.length≤12 by
      have h1:=congrArg List.length HLL.out
      rw[List.length_map,List.length_append,List.length_map,List.length_take] at h1
      have:=HKL6.out
      have:=HPfalse.out
      omega)
     have HBD:=zh (show ∀s∈L,(0≤s.x.vol∧s.x.vol<4096)∧(0≤s.x.stripe∧s.x.stripe<4096) from fun s hs=>by
      have h1:s.x∈L.map (·.x):=List.mem_map.2 ⟨s,hs,rfl⟩
      rw[HPM.out.mem_iff,List.mem_append,List.mem_map,List.mem_map] at h1
      have h3:=HSM.out
      have h4:=HNO.out
      have h5:=HEXN.out
      rcases h1 with ⟨q,hq,e⟩ | ⟨q,hq,e⟩
      ·obtain⟨g1,g2,-⟩:=keyL_mem2 hq
       rw[←e]
       show(0≤(q.1:Int)∧(q.1:Int)<4096)∧(0≤(q.2:Int)∧(q.2:Int)<4096)
       omega
      ·obtain⟨g1,g2,-⟩:=keyL_mem2 hq
       rw[←e]
       show(0≤(q.1:Int)∧(q.1:Int)<4096)∧(0≤(q.2:Int)∧(q.2:Int)<4096)
       omega)
     have HSO:=zh (sortinc_any v6 w3.heap.size L wr HIN.out HL12.out HBD.out)
     go_wp2_with (go_at_call 79;refine HSO.out.mono ?_;rintro e w9 ⟨rfl,L',hperm,hsort,hsl,hb9⟩;have HF:=zh (And.intro hperm (And.intro hsort (And.intro hsl hb9)));clear hperm hsort hsl hb9)
     go_ret
     obtain⟨hperm,hsort,hsl,hb9⟩:=HF.out
     have hb39:=HBR.out.trans hb9
     have hL':=sorted_incL (hperm.trans HPM.out) hsort
     rw[HEXN.out,←HNO.out] at hL'
     refine⟨_,rfl,?_,HB0.out.trans ((HB3.out.trans (hb39.mono HB3.out.size)).mono HB0.out.size)⟩
     rw[←hL']
     exact SlS.mono incK hsl (fun b hb=>⟨Nat.le_trans (Nat.le_trans HB0.out.size HB3.out.size) hb.1,hb.2⟩)
end Go.Proofs.YtcfkllnpkmebpaaGreatDoor

namespace Go.Proofs.YtcfkllnpkmebpaaGreatDoor
open Go.RowKit
set_option linter.unusedVariables false
set_option linter.unusedSimpArgs false
theorem explain_all(N:Nat) (hN:N≤3) (vl vm vd vv vp vo vp0 vo0 va0:Value) (F:FltM) (r:Re) (w:World) (hf:FleetS w (Bl w.heap.size) vl vm vd vv vp vo F) (hok:FleetOk N F) (h:ReS w (Bl w.heap.size) vp0 vo0 va0 r) (hp:r.plat.length≤24) (hl:∀l∈r.plat,l.length≤1000) (hac:r.acks.length≤1000000) :
  Calls Tryz.prog 28 #[.agg #[.int .i64 F.ext,vl,vm,vd,vv,vp,vo],.agg #[vp0,vo0,va0]] w fun e w'=>∃u,e=.returned u∧SlS 5 IncK w' (Fr w.heap.size w'.heap.size) u (expl F r)∧Below w.heap.size w w':=by
 unfold expl
 by_cases hx:r.plat.length≤F.dves.length∧r.on.length≤F.dves.length
 ·rw[if_pos hx]
  exact explain_in N hN vl vm vd vv vp vo vp0 vo0 va0 F r F.ext.toNat w hf hok h hp hl hac (by have:=hok.ext;omega) hx.1 hx.2
 ·rw[if_neg hx]
  exact(explain_out N (by omega) vl vm vd vv vp vo vp0 vo0 va0 F r w hf hok h (by omega)).mono fun e w' ⟨he,hb⟩=>⟨_,he,Row.nil _ _ _,hb⟩
theorem rexplain_all(N:Nat) (hN:N≤12) (vl vm vd vv vp vo vp0 vo0 va0:Value) (F:FltM) (r:Re) (w:World) (hf:FleetS w (Bl w.heap.size) vl vm vd vv vp vo F) (hok:FleetOk N F) (h:ReS w (Bl w.heap.size) vp0 vo0 va0 r) (hp:r.plat.length≤24) (hl:∀l∈r.plat,l.length≤1000) :
  Calls Tryz.prog 12 #[.agg #[.int .i64 F.ext,vl,vm,vd,vv,vp,vo],.agg #[vp0,vo0,va0]] w fun e w'=>∃u,e=.returned u∧SlS 5 IncK w' (Fr w.heap.size w'.heap.size) u (expl F r)∧Below w.heap.size w w':=by
 unfold expl
 by_cases hx:r.plat.length≤F.dves.length∧r.on.length≤F.dves.length
 ·rw[if_pos hx]
  exact rexplain_in N hN vl vm vd vv vp vo vp0 vo0 va0 F r F.ext.toNat w hf hok h hp hl (by have:=hok.ext;omega) hx.1 hx.2
 ·rw[if_neg hx]
  exact(rexplain_out N hN vl vm vd vv vp vo vp0 vo0 va0 F r w hf hok h (by omega)).mono fun e w' ⟨he,hb⟩=>⟨_,he,Row.nil _ _ _,hb⟩
theorem explains_any(HMade:∀(vt:Value) (xs:List Int) (w:World) (R:Nat→Prop),IntS w R vt xs→(∀b,R b→b<w.heap.size)→Calls Tryz.prog 11 #[vt] w (MadePost w)) (vl vp vo va:Value) (xs:List Int) (raw:Re) (w:World) (hl:IntS w (Bl w.heap.size) vl xs) (hr:ReS w (Bl w.heap.size) vp vo va raw) :
  Calls Tryz.prog 7 #[vl,.agg #[vp,vo,va]] w fun e w'=>e=.returned (.bool true)∧Below w.heap.size w w':=by
 have HLI:=zh (fun w1 h1=>light44_any vp vo va raw w1 h1)
 have HAW:=zh (fun w1=>awake44_any w1)
 have HMD:=zh HMade
 obtain⟨Al,nl,cl,rfl⟩:=hl.form3
 obtain⟨W0,hW0⟩:=zx (w.alloc (.cells #[vp,vo,va] 40))
 obtain⟨q,hq⟩:=zx w.heap.size
 have c0:W0.cell? ⟨q,0,none⟩=some vp:=by rw[hW0,hq];simp
 have c1:W0.cell? ⟨q,1,none⟩=some vo:=by rw[hW0,hq];simp
 have c2:W0.cell? ⟨q,2,none⟩=some va:=by rw[hW0,hq];simp
 have hb0:Below w.heap.size w W0:=by rw[hW0];exact(Below.refl _ _).alloc (Nat.le_refl _) _
 have hq0:q<W0.heap.size:=by rw[hW0,hq];simp
 have HQ0:=zh hq0
 have HQ1:=zh hq
 have HW0:=zh hW0
 have HB0:=zh hb0
 have HR0:=zh (hr.below hb0)
 have HL0:=zh ((hl.keep (kept_below hb0)).mono (Bl.mono hb0.size))
 have HQC:=zh (And.intro c0 (And.intro c1 c2))
 clear hl hr hW0 hq hb0 hq0 HMade
 go_enter Tryz.func7,Tryz.ntmps7
 go_wp2_with fail
 rw[←HW0.out,←HQ1.out]
 refine(HLI.out _ HR0.out).mono ?_
 rintro e w1 ⟨rfl,hb1⟩
 cases hlb:lightB raw with
 | false =>
  go_wp2_with fail
  refine(HAW.out _).mono ?_
  rintro e w2 ⟨rfl,hb2⟩
  have HBB:=zh ((HB0.out.trans (hb1.mono HB0.out.size)).trans (hb2.mono (Nat.le_trans HB0.out.size hb1.size)))
  clear hb1 hb2 c0 c1 c2
  go_wp2_with fail
  go_ret
  exact⟨rfl,HBB.out⟩
 | true =>
  have HLB:=zh ((lightB_iff raw).1 hlb)
  clear hlb
  have HL1:=zh ((HL0.out.keep (kept_below hb1)).mono (Bl.mono hb1.size))
  have HR1:=zh (HR0.out.below hb1)
  have HB1:=zh (HB0.out.trans (hb1.mono HB0.out.size))
  have HB01:=zh hb1
  clear hb1 c0 c1 c2
  go_wp2_with fail
  refine(HMD.out _ xs w1 _ HL1.out (fun b h=>h)).mono ?_
  rintro e w2 ⟨fl,fm,fd,fv,fp,fo,F,zp,zo,za,r,gM,n,f,st,rfl,hfs,hok,hre,hmo,hmp,hdo,hgM,hb2⟩
  obtain⟨A1,c1,hf1,-⟩:=SlS.form hfs.1
  obtain⟨A2,c2,hf2,-⟩:=SlS.form hfs.2.1
  obtain⟨A3,c3,hf3,-⟩:=SlS.form hfs.2.2.1
  obtain⟨A4,c4,hf4,-⟩:=SlS.form hfs.2.2.2.1
  obtain⟨A5,c5,hf5,-⟩:=SlS.form hfs.2.2.2.2.1
  obtain⟨A6,c6,hf6,-⟩:=SlS.form hfs.2.2.2.2.2
  obtain⟨B1,d1,hz1,-⟩:=SlS.form hre.1
  obtain⟨B2,d2,hz2,-⟩:=SlS.form hre.2.1
  obtain⟨B3,d3,hz3,-⟩:=SlS.form hre.2.2
  obtain⟨n1,hn1⟩:=zx F.laws.length
  obtain⟨n2,hn2⟩:=zx F.models.length
  obtain⟨n3,hn3⟩:=zx F.doms.length
  obtain⟨n4,hn4⟩:=zx F.dves.length
  obtain⟨n5,hn5⟩:=zx F.pols.length
  obtain⟨n6,hn6⟩:=zx F.vols.length
  obtain⟨m1,hm1⟩:=zx r.plat.length
  obtain⟨m2,hm2⟩:=zx r.on.length
  obtain⟨m3,hm3⟩:=zx r.acks.length
  rw[←hn1] at hf1
  rw[←hn2] at hf2
  rw[←hn3] at hf3
  rw[←hn4] at hf4
  rw[←hn5] at hf5
  rw[←hn6] at hf6
  rw[←hm1] at hz1
  rw[←hm2] at hz2
  rw[←hm3] at hz3
  have HFS2:=zh (hfs.mono Fr.bl)
  have HOK:=zh hok
  have HRE:=zh (hre.mono Fr.bl)
  have HPL:=zh (show r.plat.length≤9 from by rw[hmo.plat];have:=hok.dveN;omega)
  have HLEN:=zh hmo.len
  have hak:r.acks.length≤1000000:=by
   have h1:=congrArg List.length hmo.keys
   rw[List.length_map] at h1
   have h2:=keysTo_le F.ext.toNat F.vols.length 0 (by have:=hok.ext;omega) hok.volN (by omega)
   rw[hmo.acks,List.length_map];omega
  have HAK:=zh hak
  have HB2:=zh hb2
  obtain⟨EX,hEX⟩:=zx F.ext
  rw[←hEX]
  have HEX:=zh hEX
  clear hfs hok hre hmo hmp hdo hgM hb2 hEX hak hn1 hn2 hn3 hn4 hn5 hn6 hm1 hm2 hm3
  rw[hf1,hf2,hf3,hf4,hf5,hf6,hz1,hz2,hz3]
  have HEF:=zh (And.intro hf1 (And.intro hf2 (And.intro hf3 (And.intro hf4 (And.intro hf5 hf6)))))
  have HEZ:=zh (And.intro hz1 (And.intro hz2 hz3))
  clear hf1 hf2 hf3 hf4 hf5 hf6 hz1 hz2 hz3
  go_upto_region 4 with fail
  rw[←HEF.out.1,←HEF.out.2.1,←HEF.out.2.2.1,←HEF.out.2.2.2.1,←HEF.out.2.2.2.2.1,←HEF.out.2.2.2.2.2,←HEZ.out.1,←HEZ.out.2.1,←HEZ.out.2.2]
  clear HEF HEZ
  obtain⟨g,hg⟩:=zx w2.heap.size
  obtain⟨p,hp⟩:=zx (w2.heap.size+1)
  obtain⟨W4,hW4⟩:=zx (((w2.alloc (.cells #[.int .i64 EX,fl,fm,fd,fv,fp,fo] 35)).alloc (.cells #[zp,zo,za] 40)))
  rw[←hW4,←hp,←hg]
  have hsz4:W4.heap.size=w2.heap.size+1+1:=by rw[hW4];simp
  have hb4:Below w2.heap.size w2 W4:=by rw[hW4];exact((Below.refl _ _).alloc (Nat.le_refl _) _).alloc (by simp) _
  have hbR:W4.heap[p]?=some (.cells #[zp,zo,za] 40 (0,0)):=by
   rw[hW4];exact heap_alloc_at _ _ _ (by rw[hp];simp)
  have hbF:W4.heap[g]?=some (.cells #[.int .i64 EX,fl,fm,fd,fv,fp,fo] 35 (0,0)):=by
   rw[hW4,hg];exact(Below.heap_alloc _ _ _ (by simp)).trans (heap_alloc_new w2 _)
  obtain⟨k0,k1,k2,k3,k4,k5,k6⟩:=cells7 hbF
  obtain⟨z0,z1,z2,-⟩:=cells3 hbR
  have hb04:Below W0.heap.size W0 W4:=HB01.out.trans ((HB2.out.trans (hb4.mono HB2.out.size)).mono HB01.out.size)
  have mq:∀i x,W0.cell? ⟨q,i,none⟩=some x→W4.drew.cell? ⟨q,i,none⟩=some x:=fun i x hx=>(hb04.cell (p:=⟨q,i,none⟩) HQ0.out).trans hx
  have HS4:=zh (show HeldL W4 g p q (.int .i64 EX) fl fm fd fv fp fo zp zo za vp vo va W4.drew from⟨k0,k1,k2,k3,k4,k5,k6,z0,z1,z2,mq _ _ HQC.out.1,mq _ _ HQC.out.2.1,mq _ _ HQC.out.2.2,(Below.refl _ _).drew⟩)
  have HQ4:=zh (show g<W4.heap.size∧p<W4.heap.size∧q<W4.heap.size from⟨by omega,by omega,Nat.lt_of_lt_of_le HQ0.out hb04.size⟩)
  have HB4:=zh (HB0.out.trans (hb04.mono HB0.out.size))
  have HFS:=zh (HFS2.out.below hb4)
  have HM4:=zh (HRE.out.below hb4)
  have HR4:=zh ((HR1.out.below HB2.out).below hb4)
  have hp9:r.plat.length≤1000:=by have:=HPL.out;omega
  have hr9:raw.plat.length≤1000:=by have:=HLB.out.1;omega
  have hrl:∀l∈raw.plat,l.length≤1000:=fun l h=>by have:=HLB.out.2.2.2 l h;omega
  have hra:raw.acks.length≤1000000:=by have:=HLB.out.2.2.1;omega
  have hEX:=HEX.out
  have hr24:raw.plat.length≤24:=by have:=HLB.out.1;omega
  have hp24:r.plat.length≤24:=by have:=HPL.out;omega
  have HP1:=zh (fun W (hb:Below W4.heap.size W4 W)=>explain_all 2 (by omega) fl fm fd fv fp fo zp zo za F r W (HFS.out.below hb) HOK.out (HM4.out.below hb) hp24 HLEN.out HAK.out)
  rw[←hEX] at HP1
  have HP2:=zh (fun W (hb:Below W4.heap.size W4 W)=>rexplain_all 2 (by omega) fl fm fd fv fp fo zp zo za F r W (HFS.out.below hb) HOK.out (HM4.out.below hb) hp24 HLEN.out)
  rw[←hEX] at HP2
  have HP3:=zh (fun W (hb:Below W4.heap.size W4 W)=>explain_all 2 (by omega) fl fm fd fv fp fo vp vo va F raw W (HFS.out.below hb) HOK.out (HR4.out.below hb) hr24 hrl hra)
  rw[←hEX] at HP3
  have HP4:=zh (fun W (hb:Below W4.heap.size W4 W)=>rexplain_all 2 (by omega) fl fm fd fv fp fo vp vo va F raw W (HFS.out.below hb) HOK.out (HR4.out.below hb) hr24 hrl)
  rw[←hEX] at HP4
  have HP9:=zh (fun W (hb:Below W4.heap.size W4 W)=>explain_empty zp zo za W)
  obtain⟨E1,hE1⟩:=zx (expl F r)
  obtain⟨E2,hE2⟩:=zx (expl F raw)
  rw[←hE1] at HP1 HP2
  rw[←hE2] at HP3 HP4
  clear hr24 hp24 hE1 hE2
  clear hW4 hg hp hsz4 hb4 hbR hbF k0 k1 k2 k3 k4 k5 k6 z0 z1 z2 hb04 mq hp9 hr9 hrl hra hEX
  refine region_tail (S:=(fun w'=>w'.cell? ⟨g,0,none⟩=some (.int .i64 EX)∧w'.cell? ⟨g,1,none⟩=some fl∧w'.cell? ⟨g,2,none⟩=some fm∧w'.cell? ⟨g,3,none⟩=some fd∧w'.cell? ⟨g,4,none⟩=some fv∧w'.cell? ⟨g,5,none⟩=some fp∧w'.cell? ⟨g,6,none⟩=some fo∧w'.cell? ⟨p,0,none⟩=some zp∧w'.cell? ⟨p,1,none⟩=some zo∧w'.cell? ⟨p,2,none⟩=some za∧w'.cell? ⟨q,0,none⟩=some vp∧w'.cell? ⟨q,1,none⟩=some vo∧w'.cell? ⟨q,2,none⟩=some va∧Below W4.heap.size W4 w')) [] (by kernel_rfl) HS4.out (fun hHeld=>?_)
  refine readyT (rs:=[0]) (by kernel_rfl) (by simp) ?_
  refine AllReadyT.cons rfl (fun K hK=>?_) ?_
  ·go_simp
   (go_at_call 10;refine(awake44_any _).mono ?_;rintro e w0 ⟨rfl,hb0⟩)
   go_wp2_with fail
   refine hK.out _ _ ?_ (fun hHeld=>?_)
   ·(first|exact HeldL.below (by assumption) hb22 HQ4.out.1 HQ4.out.2.1 HQ4.out.2.2|exact HeldL.below (by assumption) hb17 HQ4.out.1 HQ4.out.2.1 HQ4.out.2.2|exact HeldL.below (by assumption) hb16 HQ4.out.1 HQ4.out.2.1 HQ4.out.2.2|exact HeldL.below (by assumption) hb13 HQ4.out.1 HQ4.out.2.1 HQ4.out.2.2|exact HeldL.below (by assumption) hb8 HQ4.out.1 HQ4.out.2.1 HQ4.out.2.2|exact HeldL.below (by assumption) hb7 HQ4.out.1 HQ4.out.2.1 HQ4.out.2.2|exact HeldL.below (by assumption) hb4 HQ4.out.1 HQ4.out.2.1 HQ4.out.2.2|exact HeldL.below (by assumption) hb0 HQ4.out.1 HQ4.out.2.1 HQ4.out.2.2)
   clear hK K
   (try simp only[Act.put,z1,z2,z3])
   refine tk 1 19 ?_
   refine tk 2 20 ?_
   refine tk 3 21 ?_
   refine tk 5 23 ?_
   refine tk 6 24 ?_
   refine readyT (rs:=[4]) (by kernel_rfl) (by simp) ?_
   refine AllReadyT.cons rfl (fun K hK=>?_) ?_
   ·go_simp
    (go_at_call 28;refine(HP1.out _ (HeldL.bl (by assumption))).mono ?_;rintro e w4 ⟨u4,rfl,hO4,hb4⟩)
    go_wp2_with fail
    refine hK.out _ _ ?_ (fun hHeld=>?_)
    ·(first|exact HeldL.below (by assumption) hb22 HQ4.out.1 HQ4.out.2.1 HQ4.out.2.2|exact HeldL.below (by assumption) hb17 HQ4.out.1 HQ4.out.2.1 HQ4.out.2.2|exact HeldL.below (by assumption) hb16 HQ4.out.1 HQ4.out.2.1 HQ4.out.2.2|exact HeldL.below (by assumption) hb13 HQ4.out.1 HQ4.out.2.1 HQ4.out.2.2|exact HeldL.below (by assumption) hb8 HQ4.out.1 HQ4.out.2.1 HQ4.out.2.2|exact HeldL.below (by assumption) hb7 HQ4.out.1 HQ4.out.2.1 HQ4.out.2.2|exact HeldL.below (by assumption) hb4 HQ4.out.1 HQ4.out.2.1 HQ4.out.2.2|exact HeldL.below (by assumption) hb0 HQ4.out.1 HQ4.out.2.1 HQ4.out.2.2)
    clear hK K
    (try simp only[Act.put,z1,z2,z3])
    refine readyT (rs:=[7]) (by kernel_rfl) (by simp) ?_
    refine AllReadyT.cons rfl (fun K hK=>?_) ?_
    ·go_simp
     (go_at_call 12;refine(HP2.out _ (HeldL.bl (by assumption))).mono ?_;rintro e w7 ⟨u7,rfl,hO7,hb7⟩)
     go_wp2_with fail
     refine hK.out _ _ ?_ (fun hHeld=>?_)
     ·(first|exact HeldL.below (by assumption) hb22 HQ4.out.1 HQ4.out.2.1 HQ4.out.2.2|exact HeldL.below (by assumption) hb17 HQ4.out.1 HQ4.out.2.1 HQ4.out.2.2|exact HeldL.below (by assumption) hb16 HQ4.out.1 HQ4.out.2.1 HQ4.out.2.2|exact HeldL.below (by assumption) hb13 HQ4.out.1 HQ4.out.2.1 HQ4.out.2.2|exact HeldL.below (by assumption) hb8 HQ4.out.1 HQ4.out.2.1 HQ4.out.2.2|exact HeldL.below (by assumption) hb7 HQ4.out.1 HQ4.out.2.1 HQ4.out.2.2|exact HeldL.below (by assumption) hb4 HQ4.out.1 HQ4.out.2.1 HQ4.out.2.2|exact HeldL.below (by assumption) hb0 HQ4.out.1 HQ4.out.2.1 HQ4.out.2.2)
     clear hK K
     (try simp only[Act.put,z1,z2,z3])
     refine readyT (rs:=[8]) (by kernel_rfl) (by simp) ?_
     refine AllReadyT.cons rfl (fun K hK=>?_) ?_
     ·have hx:=SlS.mono (R':=Bl w7.heap.size) incK (SlS.keep incK hO4 (fun x h=>hb7.block x h.2)) (fun x h=>Nat.lt_of_lt_of_le h.2 hb7.size)
      have hy:=hO7
      go_simp
      (go_at_call 21;refine(sameincs_any _ _ _ _ _ _ hx hy).mono ?_;rintro e w8 ⟨rfl,k8,rfl⟩)
      go_wp2_with fail
      have hb8:=Below.drewN' (Below.refl w7.heap.size w7) k8
      clear hx hy
      refine hK.out _ _ ?_ (fun hHeld=>?_)
      ·(first|exact HeldL.below (by assumption) hb22 HQ4.out.1 HQ4.out.2.1 HQ4.out.2.2|exact HeldL.below (by assumption) hb17 HQ4.out.1 HQ4.out.2.1 HQ4.out.2.2|exact HeldL.below (by assumption) hb16 HQ4.out.1 HQ4.out.2.1 HQ4.out.2.2|exact HeldL.below (by assumption) hb13 HQ4.out.1 HQ4.out.2.1 HQ4.out.2.2|exact HeldL.below (by assumption) hb8 HQ4.out.1 HQ4.out.2.1 HQ4.out.2.2|exact HeldL.below (by assumption) hb7 HQ4.out.1 HQ4.out.2.1 HQ4.out.2.2|exact HeldL.below (by assumption) hb4 HQ4.out.1 HQ4.out.2.1 HQ4.out.2.2|exact HeldL.below (by assumption) hb0 HQ4.out.1 HQ4.out.2.1 HQ4.out.2.2)
      clear hK K
      (try simp only[Act.put,z1,z2,z3])
      refine tk 9 27 ?_
      refine tk 10 28 ?_
      refine tk 11 29 ?_
      refine tk 12 30 ?_
      refine tk 14 32 ?_
      refine tk 15 33 ?_
      refine readyT (rs:=[13]) (by kernel_rfl) (by simp) ?_
      refine AllReadyT.cons rfl (fun K hK=>?_) ?_
      ·go_simp
       (go_at_call 28;refine(HP3.out _ (HeldL.bl (by assumption))).mono ?_;rintro e w13 ⟨u13,rfl,hO13,hb13⟩)
       go_wp2_with fail
       refine hK.out _ _ ?_ (fun hHeld=>?_)
       ·(first|exact HeldL.below (by assumption) hb22 HQ4.out.1 HQ4.out.2.1 HQ4.out.2.2|exact HeldL.below (by assumption) hb17 HQ4.out.1 HQ4.out.2.1 HQ4.out.2.2|exact HeldL.below (by assumption) hb16 HQ4.out.1 HQ4.out.2.1 HQ4.out.2.2|exact HeldL.below (by assumption) hb13 HQ4.out.1 HQ4.out.2.1 HQ4.out.2.2|exact HeldL.below (by assumption) hb8 HQ4.out.1 HQ4.out.2.1 HQ4.out.2.2|exact HeldL.below (by assumption) hb7 HQ4.out.1 HQ4.out.2.1 HQ4.out.2.2|exact HeldL.below (by assumption) hb4 HQ4.out.1 HQ4.out.2.1 HQ4.out.2.2|exact HeldL.below (by assumption) hb0 HQ4.out.1 HQ4.out.2.1 HQ4.out.2.2)
       clear hK K
       (try simp only[Act.put,z1,z2,z3])
       refine readyT (rs:=[16]) (by kernel_rfl) (by simp) ?_
       refine AllReadyT.cons rfl (fun K hK=>?_) ?_
       ·go_simp
        (go_at_call 12;refine(HP4.out _ (HeldL.bl (by assumption))).mono ?_;rintro e w16 ⟨u16,rfl,hO16,hb16⟩)
        go_wp2_with fail
        refine hK.out _ _ ?_ (fun hHeld=>?_)
        ·(first|exact HeldL.below (by assumption) hb22 HQ4.out.1 HQ4.out.2.1 HQ4.out.2.2|exact HeldL.below (by assumption) hb17 HQ4.out.1 HQ4.out.2.1 HQ4.out.2.2|exact HeldL.below (by assumption) hb16 HQ4.out.1 HQ4.out.2.1 HQ4.out.2.2|exact HeldL.below (by assumption) hb13 HQ4.out.1 HQ4.out.2.1 HQ4.out.2.2|exact HeldL.below (by assumption) hb8 HQ4.out.1 HQ4.out.2.1 HQ4.out.2.2|exact HeldL.below (by assumption) hb7 HQ4.out.1 HQ4.out.2.1 HQ4.out.2.2|exact HeldL.below (by assumption) hb4 HQ4.out.1 HQ4.out.2.1 HQ4.out.2.2|exact HeldL.below (by assumption) hb0 HQ4.out.1 HQ4.out.2.1 HQ4.out.2.2)
        clear hK K
        (try simp only[Act.put,z1,z2,z3])
        refine readyT (rs:=[17]) (by kernel_rfl) (by simp) ?_
        refine AllReadyT.cons rfl (fun K hK=>?_) ?_
        ·have hx:=SlS.mono (R':=Bl w16.heap.size) incK (SlS.keep incK hO13 (fun x h=>hb16.block x h.2)) (fun x h=>Nat.lt_of_lt_of_le h.2 hb16.size)
         have hy:=hO16
         go_simp
         (go_at_call 21;refine(sameincs_any _ _ _ _ _ _ hx hy).mono ?_;rintro e w17 ⟨rfl,k17,rfl⟩)
         go_wp2_with fail
         have hb17:=Below.drewN' (Below.refl w16.heap.size w16) k17
         clear hx hy
         refine hK.out _ _ ?_ (fun hHeld=>?_)
         ·(first|exact HeldL.below (by assumption) hb22 HQ4.out.1 HQ4.out.2.1 HQ4.out.2.2|exact HeldL.below (by assumption) hb17 HQ4.out.1 HQ4.out.2.1 HQ4.out.2.2|exact HeldL.below (by assumption) hb16 HQ4.out.1 HQ4.out.2.1 HQ4.out.2.2|exact HeldL.below (by assumption) hb13 HQ4.out.1 HQ4.out.2.1 HQ4.out.2.2|exact HeldL.below (by assumption) hb8 HQ4.out.1 HQ4.out.2.1 HQ4.out.2.2|exact HeldL.below (by assumption) hb7 HQ4.out.1 HQ4.out.2.1 HQ4.out.2.2|exact HeldL.below (by assumption) hb4 HQ4.out.1 HQ4.out.2.1 HQ4.out.2.2|exact HeldL.below (by assumption) hb0 HQ4.out.1 HQ4.out.2.1 HQ4.out.2.2)
         clear hK K
         (try simp only[Act.put,z1,z2,z3])
         refine tk 18 36 ?_
         refine tk 19 37 ?_
         refine tk 20 38 ?_
         refine tk 21 39 ?_
         refine readyT (rs:=[22]) (by kernel_rfl) (by simp) ?_
         refine AllReadyT.cons rfl (fun K hK=>?_) ?_
         ·go_simp
          (go_at_call 28;refine(HP9.out _ (HeldL.bl (by assumption))).mono ?_;rintro e w22 ⟨rfl,hb22⟩)
          go_wp2_with fail
          refine hK.out _ _ ?_ (fun hHeld=>?_)
          ·(first|exact HeldL.below (by assumption) hb22 HQ4.out.1 HQ4.out.2.1 HQ4.out.2.2|exact HeldL.below (by assumption) hb17 HQ4.out.1 HQ4.out.2.1 HQ4.out.2.2|exact HeldL.below (by assumption) hb16 HQ4.out.1 HQ4.out.2.1 HQ4.out.2.2|exact HeldL.below (by assumption) hb13 HQ4.out.1 HQ4.out.2.1 HQ4.out.2.2|exact HeldL.below (by assumption) hb8 HQ4.out.1 HQ4.out.2.1 HQ4.out.2.2|exact HeldL.below (by assumption) hb7 HQ4.out.1 HQ4.out.2.1 HQ4.out.2.2|exact HeldL.below (by assumption) hb4 HQ4.out.1 HQ4.out.2.1 HQ4.out.2.2|exact HeldL.below (by assumption) hb0 HQ4.out.1 HQ4.out.2.1 HQ4.out.2.2)
          clear hK K
          (try simp only[Act.put,z1,z2,z3])
          refine tk 23 41 ?_
          refine tk 24 42 ?_
          refine tk 25 43 ?_
          refine tk 26 4 ?_
          refine doneT (by kernel_rfl) ?_ _
          have hbz:=HeldL.bl hHeld
          go_wp2_with fail
          go_ret
          exact⟨rfl,HB4.out.trans (hbz.mono HB4.out.size)⟩
         exact AllReadyT.nil
        exact AllReadyT.nil
       exact AllReadyT.nil
      exact AllReadyT.nil
     exact AllReadyT.nil
    exact AllReadyT.nil
   exact AllReadyT.nil
  exact AllReadyT.nil
end Go.Proofs.YtcfkllnpkmebpaaGreatDoor

namespace Go.Proofs.YtcfkllnpkmebpaaGreatDoor
open Go.RowKit Go.ChangeShapes Go.WideShapes Go.ChangeAt Go.Deep Go.Joins
set_option linter.unusedVariables false
set_option linter.unusedSimpArgs false
theorem wf_i64{x:Int} (h:(Lit.int .i64 x).wf=true):I64 x:=by
 simpa[Lit.wf,IntKind.min,IntKind.max,IntKind.signed,IntKind.bits,I64] using h
def RowsAt{α:Type} (w:World) (size:Nat) (K:List Value→α→Prop) (els:List α) (b off:Nat):Prop :=
 ∀k a,els[k]?=some a→∃cs,cs.length=size∧(∀i v,cs[i]?=some v→w.cell? ⟨b,off+k * size+i,none⟩=some v)∧K cs a
section
variable {H : Type} {enc : TypeId × Value → H} {P : Program} {W : World}
theorem open_intS{t e:TypeId} {spare:Nat→Bool} {held:Bool} {base fuel:Nat} {v:Value} {x:DataW H×List MemPlace} (ht:P.underlying t=some (.slice e)) (he:P.underlying e=some (.int .i64)) (hc:P.cellsOf e=1)
  (h:DataW.trod enc P W base spare held fuel t [v]=some x):∃xs,IntS W (Bl W.heap.size) v xs:=by
 rcases open_ints ht he hc h with ⟨hcs,_⟩ | ⟨a,len,cap,zs,hcs,_,hl,hm,hz,_,hcell,hwz⟩
 ·simp at hcs;subst hcs
  exact⟨[],IntS.nil _ _ _⟩
 ·simp at hcs;subst hcs
  have hzl:len≤zs.length:=by rw[hz];split <;> omega
  have hxl:(zs.take len).length=len:=by rw[List.length_take];omega
  refine⟨zs.take len,⟨some a,cap,by rw[hxl],by rw[hxl];exact hl,by rw[hxl];omega,fun hn=>?_⟩,fun y hy=>wf_i64 (hwz y (List.mem_of_mem_take hy))⟩
  rw[hxl] at hn
  obtain⟨b,off,spot⟩:=a
  have g0:=hcell 0 (by omega)
  have hspot:spot=none:=by simpa[Addr.add] using World.cell?_spot g0
  subst hspot
  have hb:=block_lt_of_cell g0
  refine⟨b,off,rfl,by simpa[Addr.add,Bl] using hb,fun k y hk=>?_⟩
  have hkl:k<(zs.take len).length:=(List.getElem?_eq_some_iff.1 hk).1
  rw[hxl] at hkl
  have g:=hcell k (by omega)
  have e1:(⟨b,off,none⟩:Addr).add k=⟨b,off+k,none⟩:=by unfold Addr.add;split <;> simp_all
  rw[e1] at g
  rw[g]
  rw[List.getElem?_take_of_lt hkl] at hk
  rw[List.getD,hk];rfl
theorem open_int1{t:TypeId} {spare:Nat→Bool} {held:Bool} {base fuel:Nat} {v:Value} {x:DataW H×List MemPlace} (ht:P.underlying t=some (.int .i64))
  (h:DataW.trod enc P W base spare held fuel t [v]=some x):∃a,v=.int .i64 a∧I64 a:=by
 obtain⟨a,e0,_,wa⟩:=DataW.trod_int ht h
 simp at e0
 exact⟨a,e0,wf_i64 wa⟩
theorem open_rows{α:Type} {t te:TypeId} {size fuel:Nat} {v:Value} {x:DataW H×List MemPlace} (K:List Value→α→Prop) (ht:P.underlying t=some (.slice te)) (hC:P.cellsOf te=size) (h0:0<size)
  (hel:∀n cs y,DataW.trod enc P W 0 (fun _=>true) true n te cs=some y→cs.length=size→∃a,K cs a)
  (h:DataW.trod enc P W 0 (fun _=>true) true fuel t [v]=some x):∃els,Row (Bl W.heap.size) v els.length (RowsAt W size K els)∧∀a∈els,∃cs,K cs a:=by
 rcases open_slice ht h with ⟨hcs1,_⟩ | ⟨a,len,cap,m,n,D,Pl,hcs1,hb,hl,hm,hmm,_,hi⟩
 ·simp at hcs1;subst hcs1
  exact⟨[],Row.nil _ _ _,fun a ha=>by cases ha⟩
 ·simp at hcs1;subst hcs1
  have hlm:len≤m:=by rw[hmm];split <;> omega
  have key:∀i,i<m→∃(e:α) (cs:List Value),cs.length=size∧(∀j u,cs[j]?=some u→W.cell? (a.add (i * size+j))=some u)∧K cs e:=by
   intro i him
   obtain⟨cs',hcell,ht'⟩:=hi i him
   rw[hC] at hcell
   obtain⟨_,hl2,hat⟩:=World.cells?_some hcell
   obtain⟨e,he⟩:=hel _ _ _ ht' hl2
   refine⟨e,cs',hl2,fun j u hu=>?_,he⟩
   have hj:j<cs'.length:=(List.getElem?_eq_some_iff.1 hu).1
   have g:=hat j (by omega)
   have e2:(a.add (i * size)).add j=a.add (i * size+j):=by
    unfold Addr.add
    by_cases hi0:i * size=0 <;> by_cases hj0:j=0 <;> simp[hi0,hj0,Nat.add_assoc]
   rw[e2] at g
   rw[g]
   exact hu
  have hex:∃els:List α,els.length=len∧∀k e,els[k]?=some e→∃cs:List Value,cs.length=size∧(∀j u,cs[j]?=some u→W.cell? (a.add (k * size+j))=some u)∧K cs e:=by
   have:∀q,q≤len→∃els:List α,els.length=q∧∀k e,els[k]?=some e→∃cs:List Value,cs.length=size∧(∀j u,cs[j]?=some u→W.cell? (a.add (k * size+j))=some u)∧K cs e:=by
    intro q
    induction q with
    | zero=>intro _;exact⟨[],rfl,fun k e he=>by simp at he⟩
    | succ q ih =>
     intro hq
     obtain⟨els,h1,h2⟩:=ih (by omega)
     obtain⟨e,cs,h3⟩:=key q (by omega)
     refine⟨els++[e],by simp[h1],fun k e' he'=>?_⟩
     rcases Nat.lt_or_ge k els.length with hk | hk
     ·rw[List.getElem?_append_left hk] at he'
      exact h2 k e' he'
     ·rw[List.getElem?_append_right hk] at he'
      have:k - els.length=0:=by
       rcases Nat.eq_zero_or_pos (k - els.length) with h0 | h0
       ·exact h0
       ·rw[List.getElem?_eq_none (by simp;omega)] at he';cases he'
      rw[this] at he'
      simp at he'
      subst he'
      have hkq:k=q:=by omega
      subst hkq
      exact⟨cs,h3⟩
   exact this len (Nat.le_refl _)
  obtain⟨els,hal,has⟩:=hex
  refine⟨els,⟨some a,cap,by rw[hal],by rw[hal];exact hl,by rw[hal];omega,fun hn=>?_⟩,fun e he=>?_⟩
  ·rw[hal] at hn
   obtain⟨b,off,spot⟩:=a
   obtain⟨cs0,hc0,hc1,-⟩:=has 0 els[0] (List.getElem?_eq_getElem (by omega))
   have g0:=hc1 0 cs0[0] (List.getElem?_eq_getElem (by omega))
   have hspot:spot=none:=by simpa[Addr.add] using World.cell?_spot g0
   subst hspot
   have hbb:=block_lt_of_cell g0
   refine⟨b,off,rfl,by simpa[Addr.add,Bl] using hbb,fun k e hk=>?_⟩
   obtain⟨cs,q1,q2,q3⟩:=has k e hk
   refine⟨cs,q1,fun i u hu=>?_,q3⟩
   have:=q2 i u hu
   rw[←this]
   unfold Addr.add;split <;> simp_all [Nat.add_assoc]
  ·obtain⟨k,hk,rfl⟩:=List.getElem_of_mem he
   obtain⟨cs,_,_,q3⟩:=has k _ (List.getElem?_eq_getElem hk)
   exact⟨cs,q3⟩
end
end Go.Proofs.YtcfkllnpkmebpaaGreatDoor

namespace Go.Proofs.YtcfkllnpkmebpaaGreatDoor
open Go.RowKit Go.ChangeShapes Go.WideShapes Go.ChangeAt Go.Deep Go.Joins
set_option linter.unusedVariables false
set_option linter.unusedSimpArgs false
section
variable {H : Type} {enc : TypeId × Value → H} {P : Program} {W : World}
theorem open_sls{α:Type} {t te:TypeId} {size fuel:Nat} {v:Value} {x:DataW H×List MemPlace} (K:World→(Nat→Prop)→List Value→α→Prop) (ht:P.underlying t=some (.slice te)) (hC:P.cellsOf te=size) (h0:0<size)
  (hel:∀n cs y,DataW.trod enc P W 0 (fun _=>true) true n te cs=some y→cs.length=size→∃a,K W (Bl W.heap.size) cs a)
  (h:DataW.trod enc P W 0 (fun _=>true) true fuel t [v]=some x):∃es,SlS size K W (Bl W.heap.size) v es:=by
 obtain⟨es,h1,-⟩:=open_rows (fun cs a=>K W (Bl W.heap.size) cs a) ht hC h0 hel h
 exact⟨es,h1⟩
theorem open_strS{t te:TypeId} {fuel:Nat} {v:Value} {x:DataW H×List MemPlace} (ht:P.underlying t=some (.slice te)) (he:P.underlying te=some .string) (hC:P.cellsOf te=1)
  (h:DataW.trod enc P W 0 (fun _=>true) true fuel t [v]=some x):∃l,SlS 1 StrK W (Bl W.heap.size) v l :=
 open_sls StrK ht hC (by omega) (fun n cs y hy _=>by
  obtain⟨s,e,-,hs⟩:=DataW.trod_string he hy
  exact⟨s,e,hs⟩) h
theorem open_boolS{t te:TypeId} {fuel:Nat} {v:Value} {x:DataW H×List MemPlace} (ht:P.underlying t=some (.slice te)) (he:P.underlying te=some .bool) (hC:P.cellsOf te=1)
  (h:DataW.trod enc P W 0 (fun _=>true) true fuel t [v]=some x):∃l,SlS 1 BoolK W (Bl W.heap.size) v l :=
 open_sls BoolK ht hC (by omega) (fun n cs y hy _=>by
  obtain⟨s,e,-⟩:=DataW.trod_bool he hy
  exact⟨s,e⟩) h
end
theorem open_re{H:Type} {enc:TypeId×Value→H} {W:World} {r:Reach} {b0:Nat} {v:Value} {d:DataW H} {p:List MemPlace} (hv:Value.okWide Tryz.prog W r b0 40 v) (h:DataW.Trod enc Tryz.prog W 0 (fun _=>true) true 40 v d p) :
  ∃vp vo va r,v=.agg #[vp,vo,va]∧ReS W (Bl W.heap.size) vp vo va r:=by
 obtain⟨v0,v1,v2,y0,y1,y2,m,rfl,-,-,g0,g1,g2⟩:=open_agg3 Tryz.underlying40 (by kernel_rfl) (by kernel_rfl) hv h
 obtain⟨lp,hp⟩:=open_sls (size:=1) DrvK Tryz.underlying36 (by kernel_rfl) (by omega) (fun n cs y hy hl=>by
  match cs,hl with
  | [u],_ =>
   obtain⟨l,hl⟩:=open_strS Tryz.underlying54 Tryz.underlying9 (by kernel_rfl) hy
   exact⟨l,u,rfl,hl⟩) g0
 obtain⟨lo,ho⟩:=open_boolS Tryz.underlying37 Tryz.underlying4 (by kernel_rfl) g1
 obtain⟨la,ha⟩:=open_sls (α:=Ac) AcK Tryz.underlying38 (size:=4) (by kernel_rfl) (by omega) (fun n cs y hy hl=>by
  obtain⟨xs,n,_,rfl,-,hlen,hf⟩:=DataW.trod_struct Tryz.underlying89 hy
  have hc1:Tryz.prog.cellsOf 3=1:=by kernel_rfl
  match cs,hl,xs,hlen,hf with
  | [u0,u1,u2,u3],_,[z0,z1,z2,z3],_,hf =>
   have t0:=hf 0 _ rfl
   have t1:=hf 1 _ rfl
   have t2:=hf 2 _ rfl
   have t3:=hf 3 _ rfl
   obtain⟨k0,rfl,h0⟩:=open_int1 (t:=3) Tryz.underlying3 (by simpa[hc1] using t0)
   obtain⟨k1,rfl,h1⟩:=open_int1 (t:=3) Tryz.underlying3 (by simpa[hc1] using t1)
   obtain⟨k2,rfl,h2⟩:=open_int1 (t:=3) Tryz.underlying3 (by simpa[hc1] using t2)
   obtain⟨k3,rfl,h3⟩:=open_int1 (t:=3) Tryz.underlying3 (by simpa[hc1] using t3)
   exact⟨⟨k0,k1,k2,k3⟩,rfl,h0,h1,h2,h3⟩) g2
 exact⟨v0,v1,v2,⟨lp,lo,la⟩,rfl,hp,ho,ha⟩
end Go.Proofs.YtcfkllnpkmebpaaGreatDoor
