/- Rescue at numbers that name no stripe, and for both texts at any numbers. -/
import Derived.Test.YtcfkllnpkmebpaaGreatDoorMh25
import Derived.Test.YtcfkllnpkmebpaaGreatDoorMh27
import Derived.Test.YtcfkllnpkmebpaaGreatDoorMh01
import Derived.Test.YtcfkllnpkmebpaaGreatDoorMh22
import Derived.Test.YtcfkllnpkmebpaaGreatDoorMh02
import Derived.Test.YtcfkllnpkmebpaaGreatDoorMh23
import Derived.ProofKit
import Derived.OpenShut
import Derived.Lib.SmallJoins
import Derived.Deep.Slices
import Derived.Deep.Fields
import Derived.ChangeSame
import Derived.Test.YtcfkllnpkmebpaaGreatDoorMh04
set_option maxRecDepth 100000
set_option maxHeartbeats 12800000
namespace Go.Proofs.YtcfkllnpkmebpaaGreatDoor
open Go.RowKit
set_option linter.unusedVariables false
set_option linter.unusedSimpArgs false
theorem rescue_bad(N:Nat) (hN:N≤12) (vl vm vd vv vp vo vp0 vo0 va0:Value) (F:FltM) (v s:Int) (w:World) (hf:FleetS w (Bl w.heap.size) vl vm vd vv vp vo F) (hok:FleetOk N F) (hbad:isStr F.vols.length F.ext v s=false) :
  Calls Tryz.prog 23 #[.agg #[.int .i64 F.ext,vl,vm,vd,vv,vp,vo],.agg #[vp0,vo0,va0],.int .i64 v,.int .i64 s] w fun e w'=>e=.returned (.tuple #[.slice none 0 0,.int .i64 1])∧Below w.heap.size w w':=by
 obtain⟨Ao,co,rfl,-,-⟩:=hf.2.2.2.2.2.form
 obtain⟨W0,hW0⟩:=zx ((w.alloc (.cells #[.int .i64 F.ext,vl,vm,vd,vv,vp,.slice Ao F.vols.length co] 35)).alloc (.cells #[vp0,vo0,va0] 40))
 obtain⟨z,hz⟩:=zx w.heap.size
 obtain⟨y,hy⟩:=zx (w.heap.size+1)
 have hb0:Below w.heap.size w W0:=by rw[hW0];exact((Below.refl _ _).alloc (Nat.le_refl _) _).alloc (by simp) _
 have hzk:W0.heap[z]?=some (.cells #[.int .i64 F.ext,vl,vm,vd,vv,vp,.slice Ao F.vols.length co] 35 (0,0)):=by
  rw[hW0,hz];exact(Below.heap_alloc _ _ _ (by simp)).trans (heap_alloc_new w _)
 have hzl:z<W0.heap.size:=(Array.getElem?_eq_some_iff.1 hzk).1
 have HC:=zh (fun(w':World) (hb:Below W0.heap.size W0 w')=>cells7 ((hb.block z hzl).trans hzk))
 have HV:=zh (fvalidate_any N hN vl vm vd vv vp _ F W0 (hf.below hb0) hok)
 have HIS:=zh (fun(w':World)=>iisStripe_any vl vm vd vv vp Ao F.vols.length co F.ext v s w' (by have:=hok.volN;omega))
 rw[hbad] at HIS
 obtain⟨EX,hEX⟩:=zx F.ext
 obtain⟨NO,hNO⟩:=zx F.vols.length
 rw[←hEX,←hNO] at HV HIS hW0 HC ⊢
 have HW0:=zh hW0
 have HZ:=zh hz
 have HY:=zh hy
 have HB0:=zh hb0
 obtain⟨c0,c1,c2,c3,c4,c5,c6⟩:=HC.out W0 (Below.refl _ _)
 clear hf hok hW0 hz hy hb0 hzk hzl hEX hNO hbad
 go_enter Tryz.func23,Tryz.ntmps23
 go_upto_region 1 with fail
 rw[←HW0.out,←HY.out,←HZ.out]
 go_wp2_with fail
 refine HV.out.mono ?_
 rintro e w1 ⟨rfl,hb1⟩
 have HB1:=zh hb1
 clear c0 c1 c2 c3 c4 c5 c6 hb1
 obtain⟨c0,c1,c2,c3,c4,c5,c6⟩:=HC.out w1 HB1.out
 go_wp2_with fail
 refine(HIS.out _).mono ?_
 rintro e w2 ⟨rfl,hb2⟩
 have HB2:=zh (HB1.out.trans (hb2.mono HB1.out.size))
 clear c0 c1 c2 c3 c4 c5 c6 hb2
 go_wp2_with fail
 go_ret2
 exact⟨rfl,HB0.out.trans (HB2.out.mono HB0.out.size)⟩
theorem rescue_empty(vp0 vo0 va0:Value) (v s:Int) (w:World) :
  Calls Tryz.prog 23 #[.agg #[.int .i64 0,.slice none 0 0,.slice none 0 0,.slice none 0 0,.slice none 0 0,.slice none 0 0,.slice none 0 0],.agg #[vp0,vo0,va0],.int .i64 v,.int .i64 s] w fun e w'=>e=.returned (.tuple #[.slice none 0 0,.int .i64 1])∧Below w.heap.size w w':=by
 obtain⟨W0,hW0⟩:=zx ((w.alloc (.cells #[.int .i64 0,.slice none 0 0,.slice none 0 0,.slice none 0 0,.slice none 0 0,.slice none 0 0,.slice none 0 0] 35)).alloc (.cells #[vp0,vo0,va0] 40))
 obtain⟨z,hz⟩:=zx w.heap.size
 obtain⟨y,hy⟩:=zx (w.heap.size+1)
 have hb0:Below w.heap.size w W0:=by rw[hW0];exact((Below.refl _ _).alloc (Nat.le_refl _) _).alloc (by simp) _
 have hzk:W0.heap[z]?=some (.cells #[.int .i64 0,.slice none 0 0,.slice none 0 0,.slice none 0 0,.slice none 0 0,.slice none 0 0,.slice none 0 0] 35 (0,0)):=by
  rw[hW0,hz];exact(Below.heap_alloc _ _ _ (by simp)).trans (heap_alloc_new w _)
 obtain⟨c0,c1,c2,c3,c4,c5,c6⟩:=cells7 hzk
 have HV:=zh (fvalidate_empty W0)
 have HW0:=zh hW0
 have HZ:=zh hz
 have HY:=zh hy
 have HB0:=zh hb0
 clear hW0 hz hy hb0 hzk
 go_enter Tryz.func23,Tryz.ntmps23
 go_upto_region 1 with fail
 rw[←HW0.out,←HY.out,←HZ.out]
 go_wp2_with fail
 refine HV.out.mono ?_
 rintro e w1 ⟨rfl,hb1⟩
 have HB1:=zh hb1
 clear c0 c1 c2 c3 c4 c5 c6 hb1
 go_wp2_with fail
 go_ret2
 exact⟨rfl,HB0.out.trans (HB1.out.mono HB0.out.size)⟩
theorem rrescue_bad(N:Nat) (hN:N≤12) (vl vm vd vv vp vo vp0 vo0 va0:Value) (F:FltM) (v s:Int) (w:World) (hf:FleetS w (Bl w.heap.size) vl vm vd vv vp vo F) (hok:FleetOk N F) (hbad:isStr F.vols.length F.ext v s=false) :
  Calls Tryz.prog 24 #[.agg #[.int .i64 F.ext,vl,vm,vd,vv,vp,vo],.agg #[vp0,vo0,va0],.int .i64 v,.int .i64 s] w fun e w'=>e=.returned (.tuple #[.slice none 0 0,.int .i64 1])∧Below w.heap.size w w':=by
 obtain⟨Ao,co,rfl,-,-⟩:=hf.2.2.2.2.2.form
 obtain⟨W0,hW0⟩:=zx ((w.alloc (.cells #[.int .i64 F.ext,vl,vm,vd,vv,vp,.slice Ao F.vols.length co] 35)).alloc (.cells #[vp0,vo0,va0] 40))
 obtain⟨z,hz⟩:=zx w.heap.size
 obtain⟨y,hy⟩:=zx (w.heap.size+1)
 have hb0:Below w.heap.size w W0:=by rw[hW0];exact((Below.refl _ _).alloc (Nat.le_refl _) _).alloc (by simp) _
 have hzk:W0.heap[z]?=some (.cells #[.int .i64 F.ext,vl,vm,vd,vv,vp,.slice Ao F.vols.length co] 35 (0,0)):=by
  rw[hW0,hz];exact(Below.heap_alloc _ _ _ (by simp)).trans (heap_alloc_new w _)
 have hzl:z<W0.heap.size:=(Array.getElem?_eq_some_iff.1 hzk).1
 have HC:=zh (fun(w':World) (hb:Below W0.heap.size W0 w')=>cells7 ((hb.block z hzl).trans hzk))
 have HV:=zh (rvalidate_any N hN vl vm vd vv vp _ F W0 (hf.below hb0) hok)
 have hno:=hok.volN
 have hex:=hok.ext
 obtain⟨EX,hEX⟩:=zx F.ext
 obtain⟨NO,hNO⟩:=zx F.vols.length
 rw[←hEX] at hex
 rw[←hNO] at hno
 rw[←hEX,←hNO] at HV hW0 HC hbad ⊢
 have hb4:¬(0≤v∧v<(NO:Int)∧0≤s∧s<EX):=of_decide_eq_false hbad
 have hEXb:EX≤2:=by omega
 have HW0:=zh hW0
 have HZ:=zh hz
 have HY:=zh hy
 have HB0:=zh hb0
 obtain⟨c0,c1,c2,c3,c4,c5,c6⟩:=HC.out W0 (Below.refl _ _)
 clear hf hok hW0 hz hy hb0 hzk hzl hEX hNO hbad hex
 go_enter Tryz.func24,Tryz.ntmps24
 go_upto_region 1 with fail
 rw[←HW0.out,←HY.out,←HZ.out]
 go_wp2_with fail
 refine HV.out.mono ?_
 rintro e w1 ⟨rfl,hb1⟩
 have HB1:=zh hb1
 clear c0 c1 c2 c3 c4 c5 c6 hb1
 obtain⟨c0,c1,c2,c3,c4,c5,c6⟩:=HC.out w1 HB1.out
 by_cases h1:v<0
 ·clear hb4
  go_wp2_with fail
  go_ret2
  exact⟨rfl,HB0.out.trans (HB1.out.mono HB0.out.size)⟩
 ·by_cases h2:(NO:Int)≤v
  ·clear hb4
   go_wp2_with fail
   go_ret2
   exact⟨rfl,HB0.out.trans (HB1.out.mono HB0.out.size)⟩
  ·by_cases h3:s<0
   ·clear hb4
    go_wp2_with fail
    go_ret2
    exact⟨rfl,HB0.out.trans (HB1.out.mono HB0.out.size)⟩
   ·have h4:EX≤s:=by omega
    clear hb4
    go_wp2_with fail
    go_ret2
    exact⟨rfl,HB0.out.trans (HB1.out.mono HB0.out.size)⟩
def RescP(F:FltM) (r:Re) (v s:Int) (w:World) (e:Ending) (w':World):Prop :=
 ∃u,e=.returned (.tuple #[u,.int .i64 (resS F r v s).2])∧OwnI w' w.heap.size u ((resS F r v s).1.map (fun x:Nat=>(x:Int)))∧Below w.heap.size w w'
theorem rescP_bad{F:FltM} {r:Re} {v s:Int} {w w':World} {e:Ending} (hbad:isStr F.vols.length F.ext v s=false) (h:e=.returned (.tuple #[.slice none 0 0,.int .i64 1])∧Below w.heap.size w w'):RescP F r v s w e w':=by
 unfold RescP
 rw[resS_arg hbad]
 exact⟨_,h.1,OwnI.nil _ _,h.2⟩
theorem str_nat{N:Nat} {F:FltM} (hok:FleetOk N F) {v s:Int} (h:isStr F.vols.length F.ext v s=true):∃(a b EX KN KM:Nat),v=(a:Int)∧s=(b:Int)∧a<F.vols.length∧F.ext=(EX:Int)∧b<EX∧kOf F a=(KN:Int)∧kOf F a+mOf F a=(KM:Int):=by
 obtain⟨h1,h2,h3,h4⟩:=of_decide_eq_true (show decide (0≤v∧v<(F.vols.length:Int)∧0≤s∧s<F.ext)=true from h)
 have hex:=hok.ext
 have ha:v.toNat<F.vols.length:=by omega
 obtain⟨kk,m1,m2,-,-⟩:=kmq_ok hok ha
 exact⟨v.toNat,s.toNat,F.ext.toNat,(kOf F v.toNat).toNat,(kOf F v.toNat+mOf F v.toNat).toNat,by omega,by omega,ha,by omega,by omega,by omega,by omega⟩
theorem rescue_any(N:Nat) (hN:N≤12) (vl vm vd vv vp vo vp0 vo0 va0:Value) (F:FltM) (r:Re) (v s:Int) (w:World) (hf:FleetS w (Bl w.heap.size) vl vm vd vv vp vo F) (hok:FleetOk N F) (h:ReS w (Bl w.heap.size) vp0 vo0 va0 r) (hp:r.plat.length≤24) (hl:∀l∈r.plat,l.length≤1000) (hac:r.acks.length≤1000000) :
  Calls Tryz.prog 23 #[.agg #[.int .i64 F.ext,vl,vm,vd,vv,vp,vo],.agg #[vp0,vo0,va0],.int .i64 v,.int .i64 s] w (RescP F r v s w):=by
 cases hb:isStr F.vols.length F.ext v s with
 | false=>exact(rescue_bad N hN vl vm vd vv vp vo vp0 vo0 va0 F v s w hf hok hb).mono fun e w' h=>rescP_bad hb h
 | true =>
  obtain⟨a,b,EX,KN,KM,rfl,rfl,h1,h2,h3,h4,h5⟩:=str_nat hok hb
  exact rescue_in N hN vl vm vd vv vp vo vp0 vo0 va0 F r a b EX KN KM w hf hok h hp hl hac h1 h2 h3 h4 h5
theorem rrescue_any(N:Nat) (hN:N≤12) (vl vm vd vv vp vo vp0 vo0 va0:Value) (F:FltM) (r:Re) (v s:Int) (w:World) (hf:FleetS w (Bl w.heap.size) vl vm vd vv vp vo F) (hok:FleetOk N F) (h:ReS w (Bl w.heap.size) vp0 vo0 va0 r) (hp:r.plat.length≤24) (hl:∀l∈r.plat,l.length≤1000) (hac:r.acks.length≤1000000) :
  Calls Tryz.prog 24 #[.agg #[.int .i64 F.ext,vl,vm,vd,vv,vp,vo],.agg #[vp0,vo0,va0],.int .i64 v,.int .i64 s] w (RescP F r v s w):=by
 cases hb:isStr F.vols.length F.ext v s with
 | false=>exact(rrescue_bad N hN vl vm vd vv vp vo vp0 vo0 va0 F v s w hf hok hb).mono fun e w' h=>rescP_bad hb h
 | true =>
  obtain⟨a,b,EX,KN,KM,rfl,rfl,h1,h2,h3,h4,h5⟩:=str_nat hok hb
  exact rrescue_in N hN vl vm vd vv vp vo vp0 vo0 va0 F r a b EX KN KM w hf hok h hp hl hac h1 h2 h3 h4 h5
end Go.Proofs.YtcfkllnpkmebpaaGreatDoor

namespace Go.Proofs.YtcfkllnpkmebpaaGreatDoor
open Go.RowKit
set_option linter.unusedVariables false
set_option linter.unusedSimpArgs false
theorem find_two{l:List Nat} {f:Nat→Option (List Nat)} {x:List Nat} (hf:∀a∈l,∀y,f a=some y→∀z∈y,z∈l) (h:l.findSome? f=some x):∀z∈x,z∈l:=by
 obtain⟨a,ha,h1⟩:=List.exists_of_findSome?_eq_some h
 exact hf a ha x h1
theorem pick_two{f:Nat→Nat→Option (List Nat)} {x:List Nat} (hf:∀a b y,f a b=some y→y=[a,b]):∀{l:List Nat},pick2 f l=some x→∀z∈x,z∈l
 | [],h=>by cases h
 | a :: l,h=>by
  have h':(l.findSome? (f a)).or (pick2 f l)=some x:=h
  cases h1:l.findSome? (f a) with
  | some y =>
   rw[h1] at h'
   injection h' with h'
   subst h'
   obtain⟨b,hb,h2⟩:=List.exists_of_findSome?_eq_some h1
   rw[hf a b y h2]
   intro z hz
   simp only[List.mem_cons,List.not_mem_nil,or_false] at hz
   rcases hz with rfl | rfl
   ·simp
   ·simp[hb]
  | none =>
   rw[h1] at h'
   intro z hz
   exact List.mem_cons_of_mem _ (pick_two hf h' z hz)
theorem two_shape{c:Prop} [Decidable c] {a b:Nat} {y:List Nat} (h:(if c then some [a,b] else none)=some y):y=[a,b]:=by
 by_cases hc:c
 ·rw[if_pos hc] at h;injection h with h;exact h.symm
 ·rw[if_neg hc] at h;cases h
theorem resS_lt(F:FltM) (r:Re) (v s:Int):∀x∈(resS F r v s).1,x<r.plat.length:=fun x hx=>by
 have hoff:∀n,∀z∈offD r v s n,z<r.plat.length:=fun n z hz=>by
  unfold offD at hz
  exact List.mem_range.1 (List.mem_filter.1 hz).1
 unfold resS at hx
 split at hx
 ·split at hx
  ·cases hx
  ·split at hx
   ·simp only at hx
    generalize (kOf F v.toNat+mOf F v.toNat).toNat=n at hx
    generalize (kOf F v.toNat).toNat=K at hx
    refine hoff n x ?_
    unfold rescL at hx
    cases h1:(offD r v s n).findSome? (fun d=>if K≤cntS r v s n [d] then some [d] else none) with
    | some y =>
     rw[h1] at hx
     refine find_two (fun a ha y hy z hz=>?_) h1 x hx
     split at hy
     ·injection hy with hy;rw[←hy,List.mem_singleton] at hz;rw[hz];exact ha
     ·cases hy
    | none =>
     rw[h1] at hx
     cases h2:pick2 (fun a b=>if K≤cntS r v s n [a,b] then some [a,b] else none) (offD r v s n) with
     | some y =>
      rw[h2] at hx
      exact pick_two (fun a b y hy=>two_shape hy) h2 x hx
     | none=>rw[h2] at hx;cases hx
   ·cases hx
 ·cases hx
theorem rescues_any(HMade:∀(vt:Value) (xs:List Int) (w:World) (R:Nat→Prop),IntS w R vt xs→(∀b,R b→b<w.heap.size)→Calls Tryz.prog 11 #[vt] w (MadePost w)) (vl vp vo va:Value) (xs:List Int) (raw:Re) (vol stripe:Int) (w:World) (hvol:I64 vol) (hstr:I64 stripe) (hl:IntS w (Bl w.heap.size) vl xs) (hr:ReS w (Bl w.heap.size) vp vo va raw) :
  Calls Tryz.prog 5 #[vl,.agg #[vp,vo,va],.int .i64 vol,.int .i64 stripe] w fun e w'=>e=.returned (.bool true)∧Below w.heap.size w w':=by
 have HLI:=zh (fun w1 h1=>light44_any vp vo va raw w1 h1)
 have HAW:=zh (fun w1=>awake44_any w1)
 have HMD:=zh HMade
 obtain⟨Al,nl,cl,rfl⟩:=hl.form3
 obtain⟨W0,hW0⟩:=zx (w.alloc (.cells #[vp,vo,va] 40))
 obtain⟨q,hq⟩:=zx w.heap.size
 have c0:W0.cell? ⟨q,0,none⟩=some vp:=by rw[hW0,hq];simp
 have c1:W0.cell? ⟨q,1,none⟩=some vo:=by rw[hW0,hq];simp
 have c2:W0.cell? ⟨q,2,none⟩=some va:=by rw[hW0,hq];simp
 have hb0:Below w.heap.size w W0:=by rw[hW0];exact(Below.refl _ _).alloc (Nat.le_refl _) _
 have hq0:q<W0.heap.size:=by rw[hW0,hq];simp
 have HQ0:=zh hq0
 have HQ1:=zh hq
 have HW0:=zh hW0
 have HB0:=zh hb0
 have HR0:=zh (hr.below hb0)
 have HL0:=zh ((hl.keep (kept_below hb0)).mono (Bl.mono hb0.size))
 have HQC:=zh (And.intro c0 (And.intro c1 c2))
 clear hl hr hW0 hq hb0 hq0 HMade
 go_enter Tryz.func5,Tryz.ntmps5
 go_wp2_with fail
 rw[←HW0.out,←HQ1.out]
 refine(HLI.out _ HR0.out).mono ?_
 rintro e w1 ⟨rfl,hb1⟩
 cases hlb:lightB raw with
 | false =>
  go_wp2_with fail
  refine(HAW.out _).mono ?_
  rintro e w2 ⟨rfl,hb2⟩
  have HBB:=zh ((HB0.out.trans (hb1.mono HB0.out.size)).trans (hb2.mono (Nat.le_trans HB0.out.size hb1.size)))
  clear hb1 hb2 c0 c1 c2
  go_wp2_with fail
  go_ret
  exact⟨rfl,HBB.out⟩
 | true =>
  have HLB:=zh ((lightB_iff raw).1 hlb)
  clear hlb
  have HL1:=zh ((HL0.out.keep (kept_below hb1)).mono (Bl.mono hb1.size))
  have HR1:=zh (HR0.out.below hb1)
  have HB1:=zh (HB0.out.trans (hb1.mono HB0.out.size))
  have HB01:=zh hb1
  clear hb1 c0 c1 c2
  go_wp2_with fail
  refine(HMD.out _ xs w1 _ HL1.out (fun b h=>h)).mono ?_
  rintro e w2 ⟨fl,fm,fd,fv,fp,fo,F,zp,zo,za,r,gM,n,f,st,rfl,hfs,hok,hre,hmo,hmp,hdo,hgM,hb2⟩
  obtain⟨A1,c1,hf1,-⟩:=SlS.form hfs.1
  obtain⟨A2,c2,hf2,-⟩:=SlS.form hfs.2.1
  obtain⟨A3,c3,hf3,-⟩:=SlS.form hfs.2.2.1
  obtain⟨A4,c4,hf4,-⟩:=SlS.form hfs.2.2.2.1
  obtain⟨A5,c5,hf5,-⟩:=SlS.form hfs.2.2.2.2.1
  obtain⟨A6,c6,hf6,-⟩:=SlS.form hfs.2.2.2.2.2
  obtain⟨B1,d1,hz1,-⟩:=SlS.form hre.1
  obtain⟨B2,d2,hz2,-⟩:=SlS.form hre.2.1
  obtain⟨B3,d3,hz3,-⟩:=SlS.form hre.2.2
  obtain⟨n1,hn1⟩:=zx F.laws.length
  obtain⟨n2,hn2⟩:=zx F.models.length
  obtain⟨n3,hn3⟩:=zx F.doms.length
  obtain⟨n4,hn4⟩:=zx F.dves.length
  obtain⟨n5,hn5⟩:=zx F.pols.length
  obtain⟨n6,hn6⟩:=zx F.vols.length
  obtain⟨m1,hm1⟩:=zx r.plat.length
  obtain⟨m2,hm2⟩:=zx r.on.length
  obtain⟨m3,hm3⟩:=zx r.acks.length
  rw[←hn1] at hf1
  rw[←hn2] at hf2
  rw[←hn3] at hf3
  rw[←hn4] at hf4
  rw[←hn5] at hf5
  rw[←hn6] at hf6
  rw[←hm1] at hz1
  rw[←hm2] at hz2
  rw[←hm3] at hz3
  have HFS2:=zh (hfs.mono Fr.bl)
  have HOK:=zh hok
  have HRE:=zh (hre.mono Fr.bl)
  have HPL:=zh (show r.plat.length≤9 from by rw[hmo.plat];have:=hok.dveN;omega)
  have HLEN:=zh hmo.len
  have hak:r.acks.length≤1000000:=by
   have h1:=congrArg List.length hmo.keys
   rw[List.length_map] at h1
   have h2:=keysTo_le F.ext.toNat F.vols.length 0 (by have:=hok.ext;omega) hok.volN (by omega)
   rw[hmo.acks,List.length_map];omega
  have HAK:=zh hak
  have HFO:=zh (show fo=.slice A6 n6 c6 from hf6)
  have HN6:=zh (show n6=F.vols.length∧n6≤2∧1≤F.ext∧F.ext≤2 from⟨hn6,by rw[hn6];exact hok.volN,by have:=hok.ext;omega,by have:=hok.ext;omega⟩)
  have HB2:=zh hb2
  obtain⟨EX,hEX⟩:=zx F.ext
  rw[←hEX]
  have HEX:=zh hEX
  clear hfs hok hre hmo hmp hdo hgM hb2 hEX hak hn1 hn2 hn3 hn4 hn5 hn6 hm1 hm2 hm3
  rw[hf1,hf2,hf3,hf4,hf5,hf6,hz1,hz2,hz3]
  have HEF:=zh (And.intro hf1 (And.intro hf2 (And.intro hf3 (And.intro hf4 (And.intro hf5 hf6)))))
  have HEZ:=zh (And.intro hz1 (And.intro hz2 hz3))
  clear hf1 hf2 hf3 hf4 hf5 hf6 hz1 hz2 hz3
  go_upto_region 4 with fail
  rw[←HEF.out.1,←HEF.out.2.1,←HEF.out.2.2.1,←HEF.out.2.2.2.1,←HEF.out.2.2.2.2.1,←HEF.out.2.2.2.2.2,←HEZ.out.1,←HEZ.out.2.1,←HEZ.out.2.2]
  clear HEF HEZ
  obtain⟨g,hg⟩:=zx w2.heap.size
  obtain⟨p,hp⟩:=zx (w2.heap.size+1)
  obtain⟨W4,hW4⟩:=zx (((w2.alloc (.cells #[.int .i64 EX,fl,fm,fd,fv,fp,fo] 35)).alloc (.cells #[zp,zo,za] 40)))
  rw[←hW4,←hp,←hg]
  have hsz4:W4.heap.size=w2.heap.size+1+1:=by rw[hW4];simp
  have hb4:Below w2.heap.size w2 W4:=by rw[hW4];exact((Below.refl _ _).alloc (Nat.le_refl _) _).alloc (by simp) _
  have hbR:W4.heap[p]?=some (.cells #[zp,zo,za] 40 (0,0)):=by
   rw[hW4];exact heap_alloc_at _ _ _ (by rw[hp];simp)
  have hbF:W4.heap[g]?=some (.cells #[.int .i64 EX,fl,fm,fd,fv,fp,fo] 35 (0,0)):=by
   rw[hW4,hg];exact(Below.heap_alloc _ _ _ (by simp)).trans (heap_alloc_new w2 _)
  obtain⟨k0,k1,k2,k3,k4,k5,k6⟩:=cells7 hbF
  obtain⟨z0,z1,z2,-⟩:=cells3 hbR
  have hb04:Below W0.heap.size W0 W4:=HB01.out.trans ((HB2.out.trans (hb4.mono HB2.out.size)).mono HB01.out.size)
  have HC:=zh (fun(w':World) (hb:Below W4.heap.size W4 w')=>And.intro (cells7 ((hb.block g (by omega)).trans hbF)) (And.intro (cells3 ((hb.block p (by omega)).trans hbR)) (show w'.cell? ⟨q,0,none⟩=some vp∧w'.cell? ⟨q,1,none⟩=some vo∧w'.cell? ⟨q,2,none⟩=some va from
   have h:=hb04.trans (hb.mono hb04.size)
   ⟨(h.cell (p:=⟨q,0,none⟩) HQ0.out).trans HQC.out.1,(h.cell (p:=⟨q,1,none⟩) HQ0.out).trans HQC.out.2.1,(h.cell (p:=⟨q,2,none⟩) HQ0.out).trans HQC.out.2.2⟩)))
  have HQ4:=zh (show g<W4.heap.size∧p<W4.heap.size∧q<W4.heap.size from⟨by omega,by omega,Nat.lt_of_lt_of_le HQ0.out hb04.size⟩)
  have HB4:=zh (HB0.out.trans (hb04.mono HB0.out.size))
  have HFS:=zh (HFS2.out.below hb4)
  have HM4:=zh (HRE.out.below hb4)
  have HR4:=zh ((HR1.out.below HB2.out).below hb4)
  have hr24:raw.plat.length≤24:=by have:=HLB.out.1;omega
  have hp24:r.plat.length≤24:=by have:=HPL.out;omega
  have hrl:∀l∈raw.plat,l.length≤1000:=fun l h=>by have:=HLB.out.2.2.2 l h;omega
  have hra:raw.acks.length≤1000000:=by have:=HLB.out.2.2.1;omega
  have hEX:=HEX.out
  have hn6:=HN6.out
  rw[←hEX] at hn6
  obtain⟨a,ha⟩:=zx (within vol ((n6:Int)+1))
  obtain⟨b,hb⟩:=zx (within stripe (EX+1))
  have e1:IntKind.i64.wrap ((n6:Int)+1)=(n6:Int)+1:=IntWalk.i64_in _ (by omega)
  have e2:IntKind.i64.wrap (EX+1)=EX+1:=IntWalk.i64_in _ (by omega)
  have hw1:=fun w=>within_any vol ((n6:Int)+1) w hvol (by unfold I64;omega)
  have hw2:=fun w=>within_any stripe (EX+1) w hstr (by unfold I64;omega)
  rw[←ha,←e1] at hw1
  rw[←hb,←e2] at hw2
  have HW1:=zh hw1
  have HW2:=zh hw2
  obtain⟨L1,hL1⟩:=zx ((resS F r a b).1)
  obtain⟨E1,hE1⟩:=zx ((resS F r a b).2)
  obtain⟨L2,hL2⟩:=zx ((resS F raw vol stripe).1)
  obtain⟨E2,hE2⟩:=zx ((resS F raw vol stripe).2)
  have HI1:=zh (show ∀x∈L1.map (fun x:Nat=>(x:Int)),I64 x from fun x hx=>by obtain⟨y,hy,rfl⟩:=List.mem_map.1 hx;rw[hL1] at hy;have:=resS_lt F r a b y hy;unfold I64;omega)
  have HI2:=zh (show ∀x∈L2.map (fun x:Nat=>(x:Int)),I64 x from fun x hx=>by obtain⟨y,hy,rfl⟩:=List.mem_map.1 hx;rw[hL2] at hy;have:=resS_lt F raw vol stripe y hy;unfold I64;omega)
  have h1:=fun(W:World) (hb:Below W4.heap.size W4 W)=>rescue_any 2 (by omega) fl fm fd fv fp fo zp zo za F r a b W (HFS.out.below hb) HOK.out (HM4.out.below hb) hp24 HLEN.out HAK.out
  have h2:=fun(W:World) (hb:Below W4.heap.size W4 W)=>rrescue_any 2 (by omega) fl fm fd fv fp fo zp zo za F r a b W (HFS.out.below hb) HOK.out (HM4.out.below hb) hp24 HLEN.out HAK.out
  have h3:=fun(W:World) (hb:Below W4.heap.size W4 W)=>rescue_any 2 (by omega) fl fm fd fv fp fo vp vo va F raw vol stripe W (HFS.out.below hb) HOK.out (HR4.out.below hb) hr24 hrl hra
  have h4:=fun(W:World) (hb:Below W4.heap.size W4 W)=>rrescue_any 2 (by omega) fl fm fd fv fp fo vp vo va F raw vol stripe W (HFS.out.below hb) HOK.out (HR4.out.below hb) hr24 hrl hra
  unfold RescP at h1 h2 h3 h4
  rw[←hL1,←hE1,←hEX] at h1 h2
  rw[←hL2,←hE2,←hEX] at h3 h4
  have HP1:=zh h1
  have HP2:=zh h2
  have HP3:=zh h3
  have HP4:=zh h4
  have HP5:=zh (fun(W:World)=>rescue_empty zp zo za 0 0 W)
  have hx1:EX≤2:=hn6.2.2.2
  have hx2:1≤EX:=hn6.2.2.1
  have hx3:(n6:Int)≤2:=by omega
  have HS4:=zh (show W4.drew.cell? ⟨g,6,none⟩=some (.slice A6 n6 c6)∧W4.drew.cell? ⟨g,0,none⟩=some (.int .i64 EX) from⟨by rw[←HFO.out];exact k6,k0⟩)
  clear hW4 hg hp hsz4 hb4 hbR hbF k0 k1 k2 k3 k4 k5 k6 z0 z1 z2 hb04 hr24 hp24 hrl hra hEX hn6 ha hb hw1 hw2 e1 e2 hL1 hE1 hL2 hE2 h1 h2 h3 h4
  refine region_tail (S:=(fun w'=>w'.cell? ⟨g,6,none⟩=some (.slice A6 n6 c6)∧w'.cell? ⟨g,0,none⟩=some (.int .i64 EX))) [] (by kernel_rfl) HS4.out (fun hHeld=>?_)
  refine tk 0 34 ?_
  refine tk 1 35 ?_
  refine tk 2 36 ?_
  refine tk 3 37 ?_
  refine tk 4 38 ?_
  refine tk 6 40 ?_
  refine tk 7 41 ?_
  refine tk 8 42 ?_
  refine tk 9 43 ?_
  refine readyT (rs:=[5]) (by kernel_rfl) (by simp) ?_
  refine AllReadyT.cons rfl (fun K hK=>?_) ?_
  ·go_simp
   refine(HW1.out _).mono ?_
   rintro e w' ⟨rfl,rfl⟩
   refine hK.out _ _ ?_ (fun hHeld=>?_)
   ·assumption
   clear hK K
   (try simp only[Act.put,z1,z2,z3])
   refine readyT (rs:=[10]) (by kernel_rfl) (by simp) ?_
   refine AllReadyT.cons rfl (fun K hK=>?_) ?_
   ·go_simp
    refine(HW2.out _).mono ?_
    rintro e w' ⟨rfl,rfl⟩
    refine hK.out _ _ ?_ (fun hHeld=>?_)
    ·assumption
    clear hK K
    (try simp only[Act.put,z1,z2,z3])
    refine tk 11 12 ?_
    refine tk 12 13 ?_
    refine doneT (by kernel_rfl) ?_ _
    have HBW:=zh (Below.refl W4.heap.size W4).drew
    clear hHeld
    obtain⟨WA,hWA⟩:=zx W4.drew
    rw[←hWA] at HBW ⊢
    clear hWA
    obtain⟨⟨k0,k1,k2,k3,k4,k5,k6⟩,⟨z0,z1,z2,-⟩,-⟩:=HC.out WA HBW.out
    go_wp2_with fail
    refine(HP1.out _ HBW.out).mono ?_
    rintro e w5 ⟨u1,rfl,hO1,hb5⟩
    have HB5:=zh (HBW.out.trans (hb5.mono HBW.out.size))
    have HO1:=zh (hO1.intS HI1.out)
    clear k0 k1 k2 k3 k4 k5 k6 z0 z1 z2 hO1 hb5
    obtain⟨⟨k0,k1,k2,k3,k4,k5,k6⟩,⟨z0,z1,z2,-⟩,-⟩:=HC.out w5 HB5.out
    go_wp2_with fail
    refine(HP2.out _ HB5.out).mono ?_
    rintro e w6 ⟨u2,rfl,hO2,hb6⟩
    have HB6:=zh (HB5.out.trans (hb6.mono HB5.out.size))
    have HX6:=zh hb6
    have HO2:=zh (hO2.intS HI1.out)
    clear k0 k1 k2 k3 k4 k5 k6 z0 z1 z2 hO2 hb6
    obtain⟨⟨k0,k1,k2,k3,k4,k5,k6⟩,-,q0,q1,q2⟩:=HC.out w6 HB6.out
    go_wp2_with fail
    refine(HP3.out _ HB6.out).mono ?_
    rintro e w7 ⟨u3,rfl,hO3,hb7⟩
    have HB7:=zh (HB6.out.trans (hb7.mono HB6.out.size))
    have HX7:=zh hb7
    have HO3:=zh (hO3.intS HI2.out)
    clear k0 k1 k2 k3 k4 k5 k6 q0 q1 q2 hO3 hb7
    obtain⟨⟨k0,k1,k2,k3,k4,k5,k6⟩,-,q0,q1,q2⟩:=HC.out w7 HB7.out
    go_wp2_with fail
    refine(HP4.out _ HB7.out).mono ?_
    rintro e w8 ⟨u4,rfl,hO4,hb8⟩
    have HB8:=zh (HB7.out.trans (hb8.mono HB7.out.size))
    have HX8:=zh hb8
    have HO4:=zh (hO4.intS HI2.out)
    clear k0 k1 k2 k3 k4 k5 k6 q0 q1 q2 hO4 hb8
    obtain⟨-,⟨z0,z1,z2,-⟩,-⟩:=HC.out w8 HB8.out
    go_wp2_with fail
    refine(HP5.out _).mono ?_
    rintro e w9 ⟨rfl,hb9⟩
    have HX9:=zh hb9
    clear z0 z1 z2 hb9
    go_wp2_with fail
    refine(HAW.out _).mono ?_
    rintro e wA ⟨rfl,hbA⟩
    have HX8A:=zh (HX9.out.trans (hbA.mono HX9.out.size))
    have HX7A:=zh (HX8.out.trans (HX8A.out.mono HX8.out.size))
    have HX6A:=zh (HX7.out.trans (HX7A.out.mono HX7.out.size))
    have HX5A:=zh (HX6.out.trans (HX6A.out.mono HX6.out.size))
    have HSI1:=zh (sameints_any u1 u2 _ _ _ wA (HO1.out.keep (fun b hb=>HX5A.out.block b hb.2)) (HO2.out.keep (fun b hb=>HX6A.out.block b hb.2)))
    clear hbA
    go_wp2_with fail
    refine HSI1.out.mono ?_
    rintro e wB ⟨rfl,k,rfl⟩
    have HXB:=zh (fun n (b:Nat) (hb:b<wA.heap.size)=>(Below.drewN' (Below.refl wA.heap.size wA) n).block b hb)
    obtain⟨wB,hwB⟩:=zx (wA.drewN k)
    have hbB:Below wA.heap.size wA wB:=by rw[hwB];exact Below.drewN' (Below.refl _ _) k
    rw[←hwB]
    have HSI2:=zh (sameints_any u3 u4 _ _ _ wB (HO3.out.keep (fun b hb=>(hbB.block b (Nat.lt_of_lt_of_le hb.2 HX7A.out.size)).trans (HX7A.out.block b hb.2))) (HO4.out.keep (fun b hb=>(hbB.block b (Nat.lt_of_lt_of_le hb.2 HX8A.out.size)).trans (HX8A.out.block b hb.2))))
    have HBB:=zh hbB
    clear hwB hbB HXB
    go_wp2_with fail
    refine HSI2.out.mono ?_
    rintro e wC ⟨rfl,k2,rfl⟩
    go_wp2_with fail
    go_ret
    have h4A:=HB8.out.trans (HX8A.out.mono HB8.out.size)
    have h4B:=h4A.trans (HBB.out.mono h4A.size)
    exact⟨rfl,Below.drewN' (HB4.out.trans (h4B.mono HB4.out.size)) k2⟩
   exact AllReadyT.nil
  exact AllReadyT.nil
end Go.Proofs.YtcfkllnpkmebpaaGreatDoor

namespace Go.Proofs.YtcfkllnpkmebpaaGreatDoor
open Go.RowKit Go.ChangeShapes Go.WideShapes Go.ChangeAt Go.Deep Go.Joins
set_option linter.unusedVariables false
set_option linter.unusedSimpArgs false
theorem wf_i64{x:Int} (h:(Lit.int .i64 x).wf=true):I64 x:=by
 simpa[Lit.wf,IntKind.min,IntKind.max,IntKind.signed,IntKind.bits,I64] using h
def RowsAt{α:Type} (w:World) (size:Nat) (K:List Value→α→Prop) (els:List α) (b off:Nat):Prop :=
 ∀k a,els[k]?=some a→∃cs,cs.length=size∧(∀i v,cs[i]?=some v→w.cell? ⟨b,off+k * size+i,none⟩=some v)∧K cs a
section
variable {H : Type} {enc : TypeId × Value → H} {P : Program} {W : World}
theorem open_intS{t e:TypeId} {spare:Nat→Bool} {held:Bool} {base fuel:Nat} {v:Value} {x:DataW H×List MemPlace} (ht:P.underlying t=some (.slice e)) (he:P.underlying e=some (.int .i64)) (hc:P.cellsOf e=1)
  (h:DataW.trod enc P W base spare held fuel t [v]=some x):∃xs,IntS W (Bl W.heap.size) v xs:=by
 rcases open_ints ht he hc h with ⟨hcs,_⟩ | ⟨a,len,cap,zs,hcs,_,hl,hm,hz,_,hcell,hwz⟩
 ·simp at hcs;subst hcs
  exact⟨[],IntS.nil _ _ _⟩
 ·simp at hcs;subst hcs
  have hzl:len≤zs.length:=by rw[hz];split <;> omega
  have hxl:(zs.take len).length=len:=by rw[List.length_take];omega
  refine⟨zs.take len,⟨some a,cap,by rw[hxl],by rw[hxl];exact hl,by rw[hxl];omega,fun hn=>?_⟩,fun y hy=>wf_i64 (hwz y (List.mem_of_mem_take hy))⟩
  rw[hxl] at hn
  obtain⟨b,off,spot⟩:=a
  have g0:=hcell 0 (by omega)
  have hspot:spot=none:=by simpa[Addr.add] using World.cell?_spot g0
  subst hspot
  have hb:=block_lt_of_cell g0
  refine⟨b,off,rfl,by simpa[Addr.add,Bl] using hb,fun k y hk=>?_⟩
  have hkl:k<(zs.take len).length:=(List.getElem?_eq_some_iff.1 hk).1
  rw[hxl] at hkl
  have g:=hcell k (by omega)
  have e1:(⟨b,off,none⟩:Addr).add k=⟨b,off+k,none⟩:=by unfold Addr.add;split <;> simp_all
  rw[e1] at g
  rw[g]
  rw[List.getElem?_take_of_lt hkl] at hk
  rw[List.getD,hk];rfl
theorem open_int1{t:TypeId} {spare:Nat→Bool} {held:Bool} {base fuel:Nat} {v:Value} {x:DataW H×List MemPlace} (ht:P.underlying t=some (.int .i64))
  (h:DataW.trod enc P W base spare held fuel t [v]=some x):∃a,v=.int .i64 a∧I64 a:=by
 obtain⟨a,e0,_,wa⟩:=DataW.trod_int ht h
 simp at e0
 exact⟨a,e0,wf_i64 wa⟩
theorem open_rows{α:Type} {t te:TypeId} {size fuel:Nat} {v:Value} {x:DataW H×List MemPlace} (K:List Value→α→Prop) (ht:P.underlying t=some (.slice te)) (hC:P.cellsOf te=size) (h0:0<size)
  (hel:∀n cs y,DataW.trod enc P W 0 (fun _=>true) true n te cs=some y→cs.length=size→∃a,K cs a)
  (h:DataW.trod enc P W 0 (fun _=>true) true fuel t [v]=some x):∃els,Row (Bl W.heap.size) v els.length (RowsAt W size K els)∧∀a∈els,∃cs,K cs a:=by
 rcases open_slice ht h with ⟨hcs1,_⟩ | ⟨a,len,cap,m,n,D,Pl,hcs1,hb,hl,hm,hmm,_,hi⟩
 ·simp at hcs1;subst hcs1
  exact⟨[],Row.nil _ _ _,fun a ha=>by cases ha⟩
 ·simp at hcs1;subst hcs1
  have hlm:len≤m:=by rw[hmm];split <;> omega
  have key:∀i,i<m→∃(e:α) (cs:List Value),cs.length=size∧(∀j u,cs[j]?=some u→W.cell? (a.add (i * size+j))=some u)∧K cs e:=by
   intro i him
   obtain⟨cs',hcell,ht'⟩:=hi i him
   rw[hC] at hcell
   obtain⟨_,hl2,hat⟩:=World.cells?_some hcell
   obtain⟨e,he⟩:=hel _ _ _ ht' hl2
   refine⟨e,cs',hl2,fun j u hu=>?_,he⟩
   have hj:j<cs'.length:=(List.getElem?_eq_some_iff.1 hu).1
   have g:=hat j (by omega)
   have e2:(a.add (i * size)).add j=a.add (i * size+j):=by
    unfold Addr.add
    by_cases hi0:i * size=0 <;> by_cases hj0:j=0 <;> simp[hi0,hj0,Nat.add_assoc]
   rw[e2] at g
   rw[g]
   exact hu
  have hex:∃els:List α,els.length=len∧∀k e,els[k]?=some e→∃cs:List Value,cs.length=size∧(∀j u,cs[j]?=some u→W.cell? (a.add (k * size+j))=some u)∧K cs e:=by
   have:∀q,q≤len→∃els:List α,els.length=q∧∀k e,els[k]?=some e→∃cs:List Value,cs.length=size∧(∀j u,cs[j]?=some u→W.cell? (a.add (k * size+j))=some u)∧K cs e:=by
    intro q
    induction q with
    | zero=>intro _;exact⟨[],rfl,fun k e he=>by simp at he⟩
    | succ q ih =>
     intro hq
     obtain⟨els,h1,h2⟩:=ih (by omega)
     obtain⟨e,cs,h3⟩:=key q (by omega)
     refine⟨els++[e],by simp[h1],fun k e' he'=>?_⟩
     rcases Nat.lt_or_ge k els.length with hk | hk
     ·rw[List.getElem?_append_left hk] at he'
      exact h2 k e' he'
     ·rw[List.getElem?_append_right hk] at he'
      have:k - els.length=0:=by
       rcases Nat.eq_zero_or_pos (k - els.length) with h0 | h0
       ·exact h0
       ·rw[List.getElem?_eq_none (by simp;omega)] at he';cases he'
      rw[this] at he'
      simp at he'
      subst he'
      have hkq:k=q:=by omega
      subst hkq
      exact⟨cs,h3⟩
   exact this len (Nat.le_refl _)
  obtain⟨els,hal,has⟩:=hex
  refine⟨els,⟨some a,cap,by rw[hal],by rw[hal];exact hl,by rw[hal];omega,fun hn=>?_⟩,fun e he=>?_⟩
  ·rw[hal] at hn
   obtain⟨b,off,spot⟩:=a
   obtain⟨cs0,hc0,hc1,-⟩:=has 0 els[0] (List.getElem?_eq_getElem (by omega))
   have g0:=hc1 0 cs0[0] (List.getElem?_eq_getElem (by omega))
   have hspot:spot=none:=by simpa[Addr.add] using World.cell?_spot g0
   subst hspot
   have hbb:=block_lt_of_cell g0
   refine⟨b,off,rfl,by simpa[Addr.add,Bl] using hbb,fun k e hk=>?_⟩
   obtain⟨cs,q1,q2,q3⟩:=has k e hk
   refine⟨cs,q1,fun i u hu=>?_,q3⟩
   have:=q2 i u hu
   rw[←this]
   unfold Addr.add;split <;> simp_all [Nat.add_assoc]
  ·obtain⟨k,hk,rfl⟩:=List.getElem_of_mem he
   obtain⟨cs,_,_,q3⟩:=has k _ (List.getElem?_eq_getElem hk)
   exact⟨cs,q3⟩
end
end Go.Proofs.YtcfkllnpkmebpaaGreatDoor

namespace Go.Proofs.YtcfkllnpkmebpaaGreatDoor
open Go.RowKit Go.ChangeShapes Go.WideShapes Go.ChangeAt Go.Deep Go.Joins
set_option linter.unusedVariables false
set_option linter.unusedSimpArgs false
section
variable {H : Type} {enc : TypeId × Value → H} {P : Program} {W : World}
theorem open_sls{α:Type} {t te:TypeId} {size fuel:Nat} {v:Value} {x:DataW H×List MemPlace} (K:World→(Nat→Prop)→List Value→α→Prop) (ht:P.underlying t=some (.slice te)) (hC:P.cellsOf te=size) (h0:0<size)
  (hel:∀n cs y,DataW.trod enc P W 0 (fun _=>true) true n te cs=some y→cs.length=size→∃a,K W (Bl W.heap.size) cs a)
  (h:DataW.trod enc P W 0 (fun _=>true) true fuel t [v]=some x):∃es,SlS size K W (Bl W.heap.size) v es:=by
 obtain⟨es,h1,-⟩:=open_rows (fun cs a=>K W (Bl W.heap.size) cs a) ht hC h0 hel h
 exact⟨es,h1⟩
theorem open_strS{t te:TypeId} {fuel:Nat} {v:Value} {x:DataW H×List MemPlace} (ht:P.underlying t=some (.slice te)) (he:P.underlying te=some .string) (hC:P.cellsOf te=1)
  (h:DataW.trod enc P W 0 (fun _=>true) true fuel t [v]=some x):∃l,SlS 1 StrK W (Bl W.heap.size) v l :=
 open_sls StrK ht hC (by omega) (fun n cs y hy _=>by
  obtain⟨s,e,-,hs⟩:=DataW.trod_string he hy
  exact⟨s,e,hs⟩) h
theorem open_boolS{t te:TypeId} {fuel:Nat} {v:Value} {x:DataW H×List MemPlace} (ht:P.underlying t=some (.slice te)) (he:P.underlying te=some .bool) (hC:P.cellsOf te=1)
  (h:DataW.trod enc P W 0 (fun _=>true) true fuel t [v]=some x):∃l,SlS 1 BoolK W (Bl W.heap.size) v l :=
 open_sls BoolK ht hC (by omega) (fun n cs y hy _=>by
  obtain⟨s,e,-⟩:=DataW.trod_bool he hy
  exact⟨s,e⟩) h
end
theorem open_re{H:Type} {enc:TypeId×Value→H} {W:World} {r:Reach} {b0:Nat} {v:Value} {d:DataW H} {p:List MemPlace} (hv:Value.okWide Tryz.prog W r b0 40 v) (h:DataW.Trod enc Tryz.prog W 0 (fun _=>true) true 40 v d p) :
  ∃vp vo va r,v=.agg #[vp,vo,va]∧ReS W (Bl W.heap.size) vp vo va r:=by
 obtain⟨v0,v1,v2,y0,y1,y2,m,rfl,-,-,g0,g1,g2⟩:=open_agg3 Tryz.underlying40 (by kernel_rfl) (by kernel_rfl) hv h
 obtain⟨lp,hp⟩:=open_sls (size:=1) DrvK Tryz.underlying36 (by kernel_rfl) (by omega) (fun n cs y hy hl=>by
  match cs,hl with
  | [u],_ =>
   obtain⟨l,hl⟩:=open_strS Tryz.underlying54 Tryz.underlying9 (by kernel_rfl) hy
   exact⟨l,u,rfl,hl⟩) g0
 obtain⟨lo,ho⟩:=open_boolS Tryz.underlying37 Tryz.underlying4 (by kernel_rfl) g1
 obtain⟨la,ha⟩:=open_sls (α:=Ac) AcK Tryz.underlying38 (size:=4) (by kernel_rfl) (by omega) (fun n cs y hy hl=>by
  obtain⟨xs,n,_,rfl,-,hlen,hf⟩:=DataW.trod_struct Tryz.underlying89 hy
  have hc1:Tryz.prog.cellsOf 3=1:=by kernel_rfl
  match cs,hl,xs,hlen,hf with
  | [u0,u1,u2,u3],_,[z0,z1,z2,z3],_,hf =>
   have t0:=hf 0 _ rfl
   have t1:=hf 1 _ rfl
   have t2:=hf 2 _ rfl
   have t3:=hf 3 _ rfl
   obtain⟨k0,rfl,h0⟩:=open_int1 (t:=3) Tryz.underlying3 (by simpa[hc1] using t0)
   obtain⟨k1,rfl,h1⟩:=open_int1 (t:=3) Tryz.underlying3 (by simpa[hc1] using t1)
   obtain⟨k2,rfl,h2⟩:=open_int1 (t:=3) Tryz.underlying3 (by simpa[hc1] using t2)
   obtain⟨k3,rfl,h3⟩:=open_int1 (t:=3) Tryz.underlying3 (by simpa[hc1] using t3)
   exact⟨⟨k0,k1,k2,k3⟩,rfl,h0,h1,h2,h3⟩) g2
 exact⟨v0,v1,v2,⟨lp,lo,la⟩,rfl,hp,ho,ha⟩
end Go.Proofs.YtcfkllnpkmebpaaGreatDoor
