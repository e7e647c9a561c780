/- control.Valid, walked: the ways that end at its first question. -/
import Derived.BigQuiet
import Derived.Deep.QuietTactic
import Derived.Deep.MidRow
import Derived.Test.YtmacgpnlcdapfaaGreatMv10
import Derived.Test.YtmacgpnlcdapfaaGreatMv01
set_option linter.unusedSectionVars false
set_option maxRecDepth 100000
set_option maxHeartbeats 12800000
namespace Go.Proofs.YtmacgpnlcdapfaaGreat
open Go.RowKit
set_option linter.unusedVariables false
set_option linter.unusedSimpArgs false
theorem valid_nil(EX p1 p2 p3 p4 p5 p6:Int) (Al Am Ad Av Ap Ao Ay:Option Addr) (nl nm nd nv np no ny cl cm cd cv cp co cy:Nat) (w:World) (h0:∀w',Below w.heap.size w w'→Calls Tryz.prog 16 #[.agg #[.int .i64 EX,.slice Al nl cl,.slice Am nm cm,.slice Ad nd cd,.slice Av nv cv,.slice Ap np cp,.slice Ao no co]] w' fun e w''=>e=.returned (.int .i64 0)∧Below w'.heap.size w' w'') :
  Calls Tryz.prog 7 #[.agg #[.int .i64 EX,.slice Al nl cl,.slice Am nm cm,.slice Ad nd cd,.slice Av nv cv,.slice Ap np cp,.slice Ao no co,.slice Ay ny cy,.int .i64 p1,.int .i64 p2,.int .i64 p3,.int .i64 p4,.int .i64 p5,.int .i64 p6],.pointer none] w fun e w'=>e=.returned (.bool false)∧Below w.heap.size w w':=by
 obtain⟨W1,hW1⟩:=zx ((w.alloc (.cells #[.int .i64 EX,.slice Al nl cl,.slice Am nm cm,.slice Ad nd cd,.slice Av nv cv,.slice Ap np cp,.slice Ao no co,.slice Ay ny cy,.int .i64 p1,.int .i64 p2,.int .i64 p3,.int .i64 p4,.int .i64 p5,.int .i64 p6] 41)).alloc (.cells #[.int .i64 EX,.slice Al nl cl,.slice Am nm cm,.slice Ad nd cd,.slice Av nv cv,.slice Ap np cp,.slice Ao no co] 33))
 obtain⟨gC,hgC⟩:=zx w.heap.size
 obtain⟨gF,hgF⟩:=zx (w.heap.size+1)
 have hb1:Below w.heap.size w W1:=by rw[hW1];exact((Below.refl _ _).alloc (Nat.le_refl _) _).alloc (by simp) _
 have hck:W1.heap[gC]?=some (.cells #[.int .i64 EX,.slice Al nl cl,.slice Am nm cm,.slice Ad nd cd,.slice Av nv cv,.slice Ap np cp,.slice Ao no co,.slice Ay ny cy,.int .i64 p1,.int .i64 p2,.int .i64 p3,.int .i64 p4,.int .i64 p5,.int .i64 p6] 41 (0,0)):=by
  rw[hW1,hgC];exact(Below.heap_alloc _ _ _ (by simp)).trans (heap_alloc_new w _)
 have hfk:W1.heap[gF]?=some (.cells #[.int .i64 EX,.slice Al nl cl,.slice Am nm cm,.slice Ad nd cd,.slice Av nv cv,.slice Ap np cp,.slice Ao no co] 33 (0,0)):=by
  rw[hW1];exact heap_alloc_at _ _ _ (by rw[hgF];simp)
 have hcl:gC<W1.heap.size:=(Array.getElem?_eq_some_iff.1 hck).1
 have hfl:gF<W1.heap.size:=(Array.getElem?_eq_some_iff.1 hfk).1
 have HB1:=zh (show Below w.heap.size w W1.drew from hb1.drew)
 have HBK:=zh (show ∀w',Below W1.heap.size W1 w'→Below w.heap.size w w' from fun w' hb=>hb1.trans (hb.mono hb1.size))
 have HK:=zh (show ∀w',Below W1.heap.size W1 w'→w'.cell? ⟨gF,0,none⟩=some (.int .i64 EX)∧w'.cell? ⟨gF,1,none⟩=some (.slice Al nl cl)∧w'.cell? ⟨gF,2,none⟩=some (.slice Am nm cm)∧w'.cell? ⟨gF,3,none⟩=some (.slice Ad nd cd)∧w'.cell? ⟨gF,4,none⟩=some (.slice Av nv cv)∧w'.cell? ⟨gF,5,none⟩=some (.slice Ap np cp)∧w'.cell? ⟨gF,6,none⟩=some (.slice Ao no co) from fun w' hb=>(cells7 ((hb.block gF hfl).trans hfk)))
 have HV:=zh (h0 W1.drew HB1.out)
 have HZ:=zh (show Below W1.heap.size W1 W1.drew from(Below.refl _ _).drew)
 have HW1:=zh hW1
 have HGG:=zh (And.intro hgC hgF)
 clear hW1 hgC hgF hb1 hck hfk hcl hfl h0 
 go_enter Tryz.func7,Tryz.ntmps7
 go_upto_region 2 with fail
 rw[←HW1.out,←HGG.out.2,←HGG.out.1]
 refine region_tail (S:=(fun w'=>w'.cell? ⟨gF,0,none⟩=some (.int .i64 EX)∧w'.cell? ⟨gF,1,none⟩=some (.slice Al nl cl)∧w'.cell? ⟨gF,2,none⟩=some (.slice Am nm cm)∧w'.cell? ⟨gF,3,none⟩=some (.slice Ad nd cd)∧w'.cell? ⟨gF,4,none⟩=some (.slice Av nv cv)∧w'.cell? ⟨gF,5,none⟩=some (.slice Ap np cp)∧w'.cell? ⟨gF,6,none⟩=some (.slice Ao no co))) [] (by kernel_rfl) (HK.out _ HZ.out) (fun hHeld=>?_)
 refine tk 0 12 ?_
 refine readyT (rs:=[1]) (by kernel_rfl) (by simp) ?_
 refine AllReadyT.cons rfl (fun K hK=>?_) ?_
 ·go_simp
  (go_at_call 16;refine HV.out.mono ?_;rintro e w2 ⟨rfl,hb2⟩;have HB2:=zh (HZ.out.trans (hb2.mono HZ.out.size));clear hb2)
  go_wp2_with fail
  refine hK.out _ _ ?_ (fun hHeld=>?_)
  ·(first|exact HK.out _ HB2.out|assumption)
  clear hK K
  (try simp only[Act.put,z1,z2,z3])
  refine tk 2 14 ?_
  refine tk 3 15 ?_
  refine tk 4 16 ?_
  refine tk 5 17 ?_
  refine readyT (rs:=[6]) (by kernel_rfl) (by simp) ?_
  refine AllReadyT.cons rfl (fun K hK=>?_) ?_
  ·go_simp
   refine hK.out _ _ ?_ (fun hHeld=>?_)
   ·(first|exact HK.out _ HB2.out|assumption)
   clear hK K
   (try simp only[Act.put,z1,z2,z3])
   refine tk 7 19 ?_
   refine takeT (i:=8) (d:=20) (v:=undef) rfl rfl (by kernel_rfl) (by kernel_rfl) (by kernel_rfl) (by kernel_rfl) (fun _ _ _ h=>h) (Or.inr ⟨by kernel_rfl,rfl⟩) (by assumption) ?_
   (try simp only[Act.put,z1,z2,z3])
   refine takeT (i:=9) (d:=21) (v:=undef) rfl rfl (by kernel_rfl) (by kernel_rfl) (by kernel_rfl) (by kernel_rfl) (fun _ _ _ h=>h) (Or.inr ⟨by kernel_rfl,rfl⟩) (by assumption) ?_
   (try simp only[Act.put,z1,z2,z3])
   refine takeT (i:=10) (d:=22) (v:=undef) rfl rfl (by kernel_rfl) (by kernel_rfl) (by kernel_rfl) (by kernel_rfl) (fun _ _ _ h=>h) (Or.inr ⟨by kernel_rfl,rfl⟩) (by assumption) ?_
   (try simp only[Act.put,z1,z2,z3])
   refine takeT (i:=11) (d:=23) (v:=undef) rfl rfl (by kernel_rfl) (by kernel_rfl) (by kernel_rfl) (by kernel_rfl) (fun _ _ _ h=>h) (Or.inr ⟨by kernel_rfl,rfl⟩) (by assumption) ?_
   (try simp only[Act.put,z1,z2,z3])
   refine takeT (i:=12) (d:=24) (v:=undef) rfl rfl (by kernel_rfl) (by kernel_rfl) (by kernel_rfl) (by kernel_rfl) (fun _ _ _ h=>h) (Or.inr ⟨by kernel_rfl,rfl⟩) (by assumption) ?_
   (try simp only[Act.put,z1,z2,z3])
   refine readyT (rs:=[13]) (by kernel_rfl) (by simp) ?_
   refine AllReadyT.cons rfl (fun K hK=>?_) ?_
   ·go_simp
    refine hK.out _ _ ?_ (fun hHeld=>?_)
    ·(first|exact HK.out _ HB2.out|assumption)
    clear hK K
    (try simp only[Act.put,z1,z2,z3])
    refine tk 14 26 ?_
    refine takeT (i:=15) (d:=27) (v:=undef) rfl rfl (by kernel_rfl) (by kernel_rfl) (by kernel_rfl) (by kernel_rfl) (fun _ _ _ h=>h) (Or.inr ⟨by kernel_rfl,rfl⟩) (by assumption) ?_
    (try simp only[Act.put,z1,z2,z3])
    refine takeT (i:=16) (d:=28) (v:=undef) rfl rfl (by kernel_rfl) (by kernel_rfl) (by kernel_rfl) (by kernel_rfl) (fun _ _ _ h=>h) (Or.inr ⟨by kernel_rfl,rfl⟩) (by assumption) ?_
    (try simp only[Act.put,z1,z2,z3])
    refine takeT (i:=17) (d:=29) (v:=undef) rfl rfl (by kernel_rfl) (by kernel_rfl) (by kernel_rfl) (by kernel_rfl) (fun _ _ _ h=>h) (Or.inr ⟨by kernel_rfl,rfl⟩) (by assumption) ?_
    (try simp only[Act.put,z1,z2,z3])
    refine takeT (i:=18) (d:=30) (v:=undef) rfl rfl (by kernel_rfl) (by kernel_rfl) (by kernel_rfl) (by kernel_rfl) (fun _ _ _ h=>h) (Or.inr ⟨by kernel_rfl,rfl⟩) (by assumption) ?_
    (try simp only[Act.put,z1,z2,z3])
    refine takeT (i:=19) (d:=31) (v:=undef) rfl rfl (by kernel_rfl) (by kernel_rfl) (by kernel_rfl) (by kernel_rfl) (fun _ _ _ h=>h) (Or.inr ⟨by kernel_rfl,rfl⟩) (by assumption) ?_
    (try simp only[Act.put,z1,z2,z3])
    refine takeT (i:=20) (d:=32) (v:=undef) rfl rfl (by kernel_rfl) (by kernel_rfl) (by kernel_rfl) (by kernel_rfl) (fun _ _ _ h=>h) (Or.inr ⟨by kernel_rfl,rfl⟩) (by assumption) ?_
    (try simp only[Act.put,z1,z2,z3])
    refine takeT (i:=21) (d:=33) (v:=undef) rfl rfl (by kernel_rfl) (by kernel_rfl) (by kernel_rfl) (by kernel_rfl) (fun _ _ _ h=>h) (Or.inr ⟨by kernel_rfl,rfl⟩) (by assumption) ?_
    (try simp only[Act.put,z1,z2,z3])
    refine takeT (i:=22) (d:=34) (v:=undef) rfl rfl (by kernel_rfl) (by kernel_rfl) (by kernel_rfl) (by kernel_rfl) (fun _ _ _ h=>h) (Or.inr ⟨by kernel_rfl,rfl⟩) (by assumption) ?_
    (try simp only[Act.put,z1,z2,z3])
    refine takeT (i:=23) (d:=35) (v:=undef) rfl rfl (by kernel_rfl) (by kernel_rfl) (by kernel_rfl) (by kernel_rfl) (fun _ _ _ h=>h) (Or.inr ⟨by kernel_rfl,rfl⟩) (by assumption) ?_
    (try simp only[Act.put,z1,z2,z3])
    refine readyT (rs:=[24]) (by kernel_rfl) (by simp) ?_
    refine AllReadyT.cons rfl (fun K hK=>?_) ?_
    ·go_simp
     refine hK.out _ _ ?_ (fun hHeld=>?_)
     ·(first|exact HK.out _ HB2.out|assumption)
     clear hK K
     (try simp only[Act.put,z1,z2,z3])
     refine doneT (by kernel_rfl) ?_ _
     clear hHeld
     go_wp2_with fail
     go_ret
     exact⟨rfl,HBK.out _ HB2.out⟩
    exact AllReadyT.nil
   exact AllReadyT.nil
  exact AllReadyT.nil
 exact AllReadyT.nil
theorem valid_err(EX p1 p2 p3 p4 p5 p6:Int) (Al Am Ad Av Ap Ao Ay:Option Addr) (nl nm nd nv np no ny cl cm cd cv cp co cy:Nat) (p:Option Addr) (w:World) (h0:∀w',Below w.heap.size w w'→Calls Tryz.prog 16 #[.agg #[.int .i64 EX,.slice Al nl cl,.slice Am nm cm,.slice Ad nd cd,.slice Av nv cv,.slice Ap np cp,.slice Ao no co]] w' fun e w''=>e=.returned (.int .i64 1)∧Below w'.heap.size w' w'') :
  Calls Tryz.prog 7 #[.agg #[.int .i64 EX,.slice Al nl cl,.slice Am nm cm,.slice Ad nd cd,.slice Av nv cv,.slice Ap np cp,.slice Ao no co,.slice Ay ny cy,.int .i64 p1,.int .i64 p2,.int .i64 p3,.int .i64 p4,.int .i64 p5,.int .i64 p6],.pointer p] w fun e w'=>e=.returned (.bool false)∧Below w.heap.size w w':=by
 obtain⟨W1,hW1⟩:=zx ((w.alloc (.cells #[.int .i64 EX,.slice Al nl cl,.slice Am nm cm,.slice Ad nd cd,.slice Av nv cv,.slice Ap np cp,.slice Ao no co,.slice Ay ny cy,.int .i64 p1,.int .i64 p2,.int .i64 p3,.int .i64 p4,.int .i64 p5,.int .i64 p6] 41)).alloc (.cells #[.int .i64 EX,.slice Al nl cl,.slice Am nm cm,.slice Ad nd cd,.slice Av nv cv,.slice Ap np cp,.slice Ao no co] 33))
 obtain⟨gC,hgC⟩:=zx w.heap.size
 obtain⟨gF,hgF⟩:=zx (w.heap.size+1)
 have hb1:Below w.heap.size w W1:=by rw[hW1];exact((Below.refl _ _).alloc (Nat.le_refl _) _).alloc (by simp) _
 have hck:W1.heap[gC]?=some (.cells #[.int .i64 EX,.slice Al nl cl,.slice Am nm cm,.slice Ad nd cd,.slice Av nv cv,.slice Ap np cp,.slice Ao no co,.slice Ay ny cy,.int .i64 p1,.int .i64 p2,.int .i64 p3,.int .i64 p4,.int .i64 p5,.int .i64 p6] 41 (0,0)):=by
  rw[hW1,hgC];exact(Below.heap_alloc _ _ _ (by simp)).trans (heap_alloc_new w _)
 have hfk:W1.heap[gF]?=some (.cells #[.int .i64 EX,.slice Al nl cl,.slice Am nm cm,.slice Ad nd cd,.slice Av nv cv,.slice Ap np cp,.slice Ao no co] 33 (0,0)):=by
  rw[hW1];exact heap_alloc_at _ _ _ (by rw[hgF];simp)
 have hcl:gC<W1.heap.size:=(Array.getElem?_eq_some_iff.1 hck).1
 have hfl:gF<W1.heap.size:=(Array.getElem?_eq_some_iff.1 hfk).1
 have HB1:=zh (show Below w.heap.size w W1.drew from hb1.drew)
 have HBK:=zh (show ∀w',Below W1.heap.size W1 w'→Below w.heap.size w w' from fun w' hb=>hb1.trans (hb.mono hb1.size))
 have HK:=zh (show ∀w',Below W1.heap.size W1 w'→w'.cell? ⟨gF,0,none⟩=some (.int .i64 EX)∧w'.cell? ⟨gF,1,none⟩=some (.slice Al nl cl)∧w'.cell? ⟨gF,2,none⟩=some (.slice Am nm cm)∧w'.cell? ⟨gF,3,none⟩=some (.slice Ad nd cd)∧w'.cell? ⟨gF,4,none⟩=some (.slice Av nv cv)∧w'.cell? ⟨gF,5,none⟩=some (.slice Ap np cp)∧w'.cell? ⟨gF,6,none⟩=some (.slice Ao no co) from fun w' hb=>(cells7 ((hb.block gF hfl).trans hfk)))
 have HV:=zh (h0 W1.drew HB1.out)
 have HZ:=zh (show Below W1.heap.size W1 W1.drew from(Below.refl _ _).drew)
 have HW1:=zh hW1
 have HGG:=zh (And.intro hgC hgF)
 clear hW1 hgC hgF hb1 hck hfk hcl hfl h0 
 go_enter Tryz.func7,Tryz.ntmps7
 go_upto_region 2 with fail
 rw[←HW1.out,←HGG.out.2,←HGG.out.1]
 refine region_tail (S:=(fun w'=>w'.cell? ⟨gF,0,none⟩=some (.int .i64 EX)∧w'.cell? ⟨gF,1,none⟩=some (.slice Al nl cl)∧w'.cell? ⟨gF,2,none⟩=some (.slice Am nm cm)∧w'.cell? ⟨gF,3,none⟩=some (.slice Ad nd cd)∧w'.cell? ⟨gF,4,none⟩=some (.slice Av nv cv)∧w'.cell? ⟨gF,5,none⟩=some (.slice Ap np cp)∧w'.cell? ⟨gF,6,none⟩=some (.slice Ao no co))) [] (by kernel_rfl) (HK.out _ HZ.out) (fun hHeld=>?_)
 refine tk 0 12 ?_
 refine readyT (rs:=[1]) (by kernel_rfl) (by simp) ?_
 refine AllReadyT.cons rfl (fun K hK=>?_) ?_
 ·go_simp
  (go_at_call 16;refine HV.out.mono ?_;rintro e w2 ⟨rfl,hb2⟩;have HB2:=zh (HZ.out.trans (hb2.mono HZ.out.size));clear hb2)
  go_wp2_with fail
  refine hK.out _ _ ?_ (fun hHeld=>?_)
  ·(first|exact HK.out _ HB2.out|assumption)
  clear hK K
  (try simp only[Act.put,z1,z2,z3])
  refine tk 2 14 ?_
  refine tk 3 15 ?_
  refine takeT (i:=4) (d:=16) (v:=undef) rfl rfl (by kernel_rfl) (by kernel_rfl) (by kernel_rfl) (by kernel_rfl) (fun _ _ _ h=>h) (Or.inr ⟨by kernel_rfl,rfl⟩) (by assumption) ?_
  (try simp only[Act.put,z1,z2,z3])
  refine takeT (i:=5) (d:=17) (v:=undef) rfl rfl (by kernel_rfl) (by kernel_rfl) (by kernel_rfl) (by kernel_rfl) (fun _ _ _ h=>h) (Or.inr ⟨by kernel_rfl,rfl⟩) (by assumption) ?_
  (try simp only[Act.put,z1,z2,z3])
  refine readyT (rs:=[6]) (by kernel_rfl) (by simp) ?_
  refine AllReadyT.cons rfl (fun K hK=>?_) ?_
  ·go_simp
   refine hK.out _ _ ?_ (fun hHeld=>?_)
   ·(first|exact HK.out _ HB2.out|assumption)
   clear hK K
   (try simp only[Act.put,z1,z2,z3])
   refine tk 7 19 ?_
   refine takeT (i:=8) (d:=20) (v:=undef) rfl rfl (by kernel_rfl) (by kernel_rfl) (by kernel_rfl) (by kernel_rfl) (fun _ _ _ h=>h) (Or.inr ⟨by kernel_rfl,rfl⟩) (by assumption) ?_
   (try simp only[Act.put,z1,z2,z3])
   refine takeT (i:=9) (d:=21) (v:=undef) rfl rfl (by kernel_rfl) (by kernel_rfl) (by kernel_rfl) (by kernel_rfl) (fun _ _ _ h=>h) (Or.inr ⟨by kernel_rfl,rfl⟩) (by assumption) ?_
   (try simp only[Act.put,z1,z2,z3])
   refine takeT (i:=10) (d:=22) (v:=undef) rfl rfl (by kernel_rfl) (by kernel_rfl) (by kernel_rfl) (by kernel_rfl) (fun _ _ _ h=>h) (Or.inr ⟨by kernel_rfl,rfl⟩) (by assumption) ?_
   (try simp only[Act.put,z1,z2,z3])
   refine takeT (i:=11) (d:=23) (v:=undef) rfl rfl (by kernel_rfl) (by kernel_rfl) (by kernel_rfl) (by kernel_rfl) (fun _ _ _ h=>h) (Or.inr ⟨by kernel_rfl,rfl⟩) (by assumption) ?_
   (try simp only[Act.put,z1,z2,z3])
   refine takeT (i:=12) (d:=24) (v:=undef) rfl rfl (by kernel_rfl) (by kernel_rfl) (by kernel_rfl) (by kernel_rfl) (fun _ _ _ h=>h) (Or.inr ⟨by kernel_rfl,rfl⟩) (by assumption) ?_
   (try simp only[Act.put,z1,z2,z3])
   refine readyT (rs:=[13]) (by kernel_rfl) (by simp) ?_
   refine AllReadyT.cons rfl (fun K hK=>?_) ?_
   ·go_simp
    refine hK.out _ _ ?_ (fun hHeld=>?_)
    ·(first|exact HK.out _ HB2.out|assumption)
    clear hK K
    (try simp only[Act.put,z1,z2,z3])
    refine tk 14 26 ?_
    refine takeT (i:=15) (d:=27) (v:=undef) rfl rfl (by kernel_rfl) (by kernel_rfl) (by kernel_rfl) (by kernel_rfl) (fun _ _ _ h=>h) (Or.inr ⟨by kernel_rfl,rfl⟩) (by assumption) ?_
    (try simp only[Act.put,z1,z2,z3])
    refine takeT (i:=16) (d:=28) (v:=undef) rfl rfl (by kernel_rfl) (by kernel_rfl) (by kernel_rfl) (by kernel_rfl) (fun _ _ _ h=>h) (Or.inr ⟨by kernel_rfl,rfl⟩) (by assumption) ?_
    (try simp only[Act.put,z1,z2,z3])
    refine takeT (i:=17) (d:=29) (v:=undef) rfl rfl (by kernel_rfl) (by kernel_rfl) (by kernel_rfl) (by kernel_rfl) (fun _ _ _ h=>h) (Or.inr ⟨by kernel_rfl,rfl⟩) (by assumption) ?_
    (try simp only[Act.put,z1,z2,z3])
    refine takeT (i:=18) (d:=30) (v:=undef) rfl rfl (by kernel_rfl) (by kernel_rfl) (by kernel_rfl) (by kernel_rfl) (fun _ _ _ h=>h) (Or.inr ⟨by kernel_rfl,rfl⟩) (by assumption) ?_
    (try simp only[Act.put,z1,z2,z3])
    refine takeT (i:=19) (d:=31) (v:=undef) rfl rfl (by kernel_rfl) (by kernel_rfl) (by kernel_rfl) (by kernel_rfl) (fun _ _ _ h=>h) (Or.inr ⟨by kernel_rfl,rfl⟩) (by assumption) ?_
    (try simp only[Act.put,z1,z2,z3])
    refine takeT (i:=20) (d:=32) (v:=undef) rfl rfl (by kernel_rfl) (by kernel_rfl) (by kernel_rfl) (by kernel_rfl) (fun _ _ _ h=>h) (Or.inr ⟨by kernel_rfl,rfl⟩) (by assumption) ?_
    (try simp only[Act.put,z1,z2,z3])
    refine takeT (i:=21) (d:=33) (v:=undef) rfl rfl (by kernel_rfl) (by kernel_rfl) (by kernel_rfl) (by kernel_rfl) (fun _ _ _ h=>h) (Or.inr ⟨by kernel_rfl,rfl⟩) (by assumption) ?_
    (try simp only[Act.put,z1,z2,z3])
    refine takeT (i:=22) (d:=34) (v:=undef) rfl rfl (by kernel_rfl) (by kernel_rfl) (by kernel_rfl) (by kernel_rfl) (fun _ _ _ h=>h) (Or.inr ⟨by kernel_rfl,rfl⟩) (by assumption) ?_
    (try simp only[Act.put,z1,z2,z3])
    refine takeT (i:=23) (d:=35) (v:=undef) rfl rfl (by kernel_rfl) (by kernel_rfl) (by kernel_rfl) (by kernel_rfl) (fun _ _ _ h=>h) (Or.inr ⟨by kernel_rfl,rfl⟩) (by assumption) ?_
    (try simp only[Act.put,z1,z2,z3])
    refine readyT (rs:=[24]) (by kernel_rfl) (by simp) ?_
    refine AllReadyT.cons rfl (fun K hK=>?_) ?_
    ·go_simp
     refine hK.out _ _ ?_ (fun hHeld=>?_)
     ·(first|exact HK.out _ HB2.out|assumption)
     clear hK K
     (try simp only[Act.put,z1,z2,z3])
     refine doneT (by kernel_rfl) ?_ _
     clear hHeld
     go_wp2_with fail
     go_ret
     exact⟨rfl,HBK.out _ HB2.out⟩
    exact AllReadyT.nil
   exact AllReadyT.nil
  exact AllReadyT.nil
 exact AllReadyT.nil
theorem valid_bare(EX p1 p2 p3 p4 p5 p6:Int) (Al Am Ad Av Ap Ao Ay:Option Addr) (nl nm nd nv np no ny cl cm cd cv cp co cy:Nat) (gS:Nat) (Ar:Option Addr) (nr cr:Nat)  (w:World) (hS0:w.cell? ⟨gS,0,none⟩=some (.slice Ar nr cr)) (hS1:w.cell? ⟨gS,1,none⟩=some (.pointer none)) (hSl:gS<w.heap.size) (h0:∀w',Below w.heap.size w w'→Calls Tryz.prog 16 #[.agg #[.int .i64 EX,.slice Al nl cl,.slice Am nm cm,.slice Ad nd cd,.slice Av nv cv,.slice Ap np cp,.slice Ao no co]] w' fun e w''=>e=.returned (.int .i64 0)∧Below w'.heap.size w' w'') :
  Calls Tryz.prog 7 #[.agg #[.int .i64 EX,.slice Al nl cl,.slice Am nm cm,.slice Ad nd cd,.slice Av nv cv,.slice Ap np cp,.slice Ao no co,.slice Ay ny cy,.int .i64 p1,.int .i64 p2,.int .i64 p3,.int .i64 p4,.int .i64 p5,.int .i64 p6],.pointer (some ⟨gS,0,none⟩)] w fun e w'=>e=.returned (.bool false)∧Below w.heap.size w w':=by
 obtain⟨W1,hW1⟩:=zx ((w.alloc (.cells #[.int .i64 EX,.slice Al nl cl,.slice Am nm cm,.slice Ad nd cd,.slice Av nv cv,.slice Ap np cp,.slice Ao no co,.slice Ay ny cy,.int .i64 p1,.int .i64 p2,.int .i64 p3,.int .i64 p4,.int .i64 p5,.int .i64 p6] 41)).alloc (.cells #[.int .i64 EX,.slice Al nl cl,.slice Am nm cm,.slice Ad nd cd,.slice Av nv cv,.slice Ap np cp,.slice Ao no co] 33))
 obtain⟨gC,hgC⟩:=zx w.heap.size
 obtain⟨gF,hgF⟩:=zx (w.heap.size+1)
 have hb1:Below w.heap.size w W1:=by rw[hW1];exact((Below.refl _ _).alloc (Nat.le_refl _) _).alloc (by simp) _
 have hck:W1.heap[gC]?=some (.cells #[.int .i64 EX,.slice Al nl cl,.slice Am nm cm,.slice Ad nd cd,.slice Av nv cv,.slice Ap np cp,.slice Ao no co,.slice Ay ny cy,.int .i64 p1,.int .i64 p2,.int .i64 p3,.int .i64 p4,.int .i64 p5,.int .i64 p6] 41 (0,0)):=by
  rw[hW1,hgC];exact(Below.heap_alloc _ _ _ (by simp)).trans (heap_alloc_new w _)
 have hfk:W1.heap[gF]?=some (.cells #[.int .i64 EX,.slice Al nl cl,.slice Am nm cm,.slice Ad nd cd,.slice Av nv cv,.slice Ap np cp,.slice Ao no co] 33 (0,0)):=by
  rw[hW1];exact heap_alloc_at _ _ _ (by rw[hgF];simp)
 have hcl:gC<W1.heap.size:=(Array.getElem?_eq_some_iff.1 hck).1
 have hfl:gF<W1.heap.size:=(Array.getElem?_eq_some_iff.1 hfk).1
 have HB1:=zh (show Below w.heap.size w W1.drew from hb1.drew)
 have HBK:=zh (show ∀w',Below W1.heap.size W1 w'→Below w.heap.size w w' from fun w' hb=>hb1.trans (hb.mono hb1.size))
 have HK:=zh (show ∀w',Below W1.heap.size W1 w'→w'.cell? ⟨gF,0,none⟩=some (.int .i64 EX)∧w'.cell? ⟨gF,1,none⟩=some (.slice Al nl cl)∧w'.cell? ⟨gF,2,none⟩=some (.slice Am nm cm)∧w'.cell? ⟨gF,3,none⟩=some (.slice Ad nd cd)∧w'.cell? ⟨gF,4,none⟩=some (.slice Av nv cv)∧w'.cell? ⟨gF,5,none⟩=some (.slice Ap np cp)∧w'.cell? ⟨gF,6,none⟩=some (.slice Ao no co)∧w'.cell? ⟨gS,0,none⟩=some (.slice Ar nr cr)∧w'.cell? ⟨gS,1,none⟩=some (.pointer none) from fun w' hb=>(by obtain⟨a0,a1,a2,a3,a4,a5,a6⟩:=cells7 ((hb.block gF hfl).trans hfk);exact⟨a0,a1,a2,a3,a4,a5,a6,((hb1.trans (hb.mono hb1.size)).cell (p:=⟨gS,0,none⟩) hSl).trans hS0,((hb1.trans (hb.mono hb1.size)).cell (p:=⟨gS,1,none⟩) hSl).trans hS1⟩))
 have HV:=zh (h0 W1.drew HB1.out)
 have HZ:=zh (show Below W1.heap.size W1 W1.drew from(Below.refl _ _).drew)
 have HW1:=zh hW1
 have HGG:=zh (And.intro hgC hgF)
 clear hW1 hgC hgF hb1 hck hfk hcl hfl h0 hS0 hS1 hSl 
 go_enter Tryz.func7,Tryz.ntmps7
 go_upto_region 2 with fail
 rw[←HW1.out,←HGG.out.2,←HGG.out.1]
 refine region_tail (S:=(fun w'=>w'.cell? ⟨gF,0,none⟩=some (.int .i64 EX)∧w'.cell? ⟨gF,1,none⟩=some (.slice Al nl cl)∧w'.cell? ⟨gF,2,none⟩=some (.slice Am nm cm)∧w'.cell? ⟨gF,3,none⟩=some (.slice Ad nd cd)∧w'.cell? ⟨gF,4,none⟩=some (.slice Av nv cv)∧w'.cell? ⟨gF,5,none⟩=some (.slice Ap np cp)∧w'.cell? ⟨gF,6,none⟩=some (.slice Ao no co)∧w'.cell? ⟨gS,0,none⟩=some (.slice Ar nr cr)∧w'.cell? ⟨gS,1,none⟩=some (.pointer none))) [] (by kernel_rfl) (HK.out _ HZ.out) (fun hHeld=>?_)
 refine tk 0 12 ?_
 refine readyT (rs:=[1]) (by kernel_rfl) (by simp) ?_
 refine AllReadyT.cons rfl (fun K hK=>?_) ?_
 ·go_simp
  (go_at_call 16;refine HV.out.mono ?_;rintro e w2 ⟨rfl,hb2⟩;have HB2:=zh (HZ.out.trans (hb2.mono HZ.out.size));clear hb2)
  go_wp2_with fail
  refine hK.out _ _ ?_ (fun hHeld=>?_)
  ·(first|exact HK.out _ HB2.out|assumption)
  clear hK K
  (try simp only[Act.put,z1,z2,z3])
  refine tk 2 14 ?_
  refine tk 3 15 ?_
  refine tk 4 16 ?_
  refine tk 5 17 ?_
  refine readyT (rs:=[6]) (by kernel_rfl) (by simp) ?_
  refine AllReadyT.cons rfl (fun K hK=>?_) ?_
  ·go_simp
   refine hK.out _ _ ?_ (fun hHeld=>?_)
   ·(first|exact HK.out _ HB2.out|assumption)
   clear hK K
   (try simp only[Act.put,z1,z2,z3])
   refine tk 7 19 ?_
   refine tk 8 20 ?_
   refine tk 9 21 ?_
   refine tk 10 22 ?_
   refine tk 11 23 ?_
   refine tk 12 24 ?_
   refine readyT (rs:=[13]) (by kernel_rfl) (by simp) ?_
   refine AllReadyT.cons rfl (fun K hK=>?_) ?_
   ·go_simp
    refine hK.out _ _ ?_ (fun hHeld=>?_)
    ·(first|exact HK.out _ HB2.out|assumption)
    clear hK K
    (try simp only[Act.put,z1,z2,z3])
    refine tk 14 26 ?_
    refine takeT (i:=15) (d:=27) (v:=undef) rfl rfl (by kernel_rfl) (by kernel_rfl) (by kernel_rfl) (by kernel_rfl) (fun _ _ _ h=>h) (Or.inr ⟨by kernel_rfl,rfl⟩) (by assumption) ?_
    (try simp only[Act.put,z1,z2,z3])
    refine takeT (i:=16) (d:=28) (v:=undef) rfl rfl (by kernel_rfl) (by kernel_rfl) (by kernel_rfl) (by kernel_rfl) (fun _ _ _ h=>h) (Or.inr ⟨by kernel_rfl,rfl⟩) (by assumption) ?_
    (try simp only[Act.put,z1,z2,z3])
    refine takeT (i:=17) (d:=29) (v:=undef) rfl rfl (by kernel_rfl) (by kernel_rfl) (by kernel_rfl) (by kernel_rfl) (fun _ _ _ h=>h) (Or.inr ⟨by kernel_rfl,rfl⟩) (by assumption) ?_
    (try simp only[Act.put,z1,z2,z3])
    refine takeT (i:=18) (d:=30) (v:=undef) rfl rfl (by kernel_rfl) (by kernel_rfl) (by kernel_rfl) (by kernel_rfl) (fun _ _ _ h=>h) (Or.inr ⟨by kernel_rfl,rfl⟩) (by assumption) ?_
    (try simp only[Act.put,z1,z2,z3])
    refine takeT (i:=19) (d:=31) (v:=undef) rfl rfl (by kernel_rfl) (by kernel_rfl) (by kernel_rfl) (by kernel_rfl) (fun _ _ _ h=>h) (Or.inr ⟨by kernel_rfl,rfl⟩) (by assumption) ?_
    (try simp only[Act.put,z1,z2,z3])
    refine takeT (i:=20) (d:=32) (v:=undef) rfl rfl (by kernel_rfl) (by kernel_rfl) (by kernel_rfl) (by kernel_rfl) (fun _ _ _ h=>h) (Or.inr ⟨by kernel_rfl,rfl⟩) (by assumption) ?_
    (try simp only[Act.put,z1,z2,z3])
    refine takeT (i:=21) (d:=33) (v:=undef) rfl rfl (by kernel_rfl) (by kernel_rfl) (by kernel_rfl) (by kernel_rfl) (fun _ _ _ h=>h) (Or.inr ⟨by kernel_rfl,rfl⟩) (by assumption) ?_
    (try simp only[Act.put,z1,z2,z3])
    refine takeT (i:=22) (d:=34) (v:=undef) rfl rfl (by kernel_rfl) (by kernel_rfl) (by kernel_rfl) (by kernel_rfl) (fun _ _ _ h=>h) (Or.inr ⟨by kernel_rfl,rfl⟩) (by assumption) ?_
    (try simp only[Act.put,z1,z2,z3])
    refine takeT (i:=23) (d:=35) (v:=undef) rfl rfl (by kernel_rfl) (by kernel_rfl) (by kernel_rfl) (by kernel_rfl) (fun _ _ _ h=>h) (Or.inr ⟨by kernel_rfl,rfl⟩) (by assumption) ?_
    (try simp only[Act.put,z1,z2,z3])
    refine readyT (rs:=[24]) (by kernel_rfl) (by simp) ?_
    refine AllReadyT.cons rfl (fun K hK=>?_) ?_
    ·go_simp
     refine hK.out _ _ ?_ (fun hHeld=>?_)
     ·(first|exact HK.out _ HB2.out|assumption)
     clear hK K
     (try simp only[Act.put,z1,z2,z3])
     refine doneT (by kernel_rfl) ?_ _
     clear hHeld
     go_wp2_with fail
     go_ret
     exact⟨rfl,HBK.out _ HB2.out⟩
    exact AllReadyT.nil
   exact AllReadyT.nil
  exact AllReadyT.nil
 exact AllReadyT.nil
theorem valid_less(EX p1 p2 p3 p4 p5 p6:Int) (Al Am Ad Av Ap Ao Ay:Option Addr) (nl nm nd nv np no ny cl cm cd cv cp co cy:Nat) (gS:Nat) (Ar:Option Addr) (nr cr:Nat) (pA:Addr) (w:World) (hS0:w.cell? ⟨gS,0,none⟩=some (.slice Ar nr cr)) (hS1:w.cell? ⟨gS,1,none⟩=some (.pointer (some pA))) (hSl:gS<w.heap.size) (hne:nr≠nv) (h0:∀w',Below w.heap.size w w'→Calls Tryz.prog 16 #[.agg #[.int .i64 EX,.slice Al nl cl,.slice Am nm cm,.slice Ad nd cd,.slice Av nv cv,.slice Ap np cp,.slice Ao no co]] w' fun e w''=>e=.returned (.int .i64 0)∧Below w'.heap.size w' w'') :
  Calls Tryz.prog 7 #[.agg #[.int .i64 EX,.slice Al nl cl,.slice Am nm cm,.slice Ad nd cd,.slice Av nv cv,.slice Ap np cp,.slice Ao no co,.slice Ay ny cy,.int .i64 p1,.int .i64 p2,.int .i64 p3,.int .i64 p4,.int .i64 p5,.int .i64 p6],.pointer (some ⟨gS,0,none⟩)] w fun e w'=>e=.returned (.bool false)∧Below w.heap.size w w':=by
 obtain⟨W1,hW1⟩:=zx ((w.alloc (.cells #[.int .i64 EX,.slice Al nl cl,.slice Am nm cm,.slice Ad nd cd,.slice Av nv cv,.slice Ap np cp,.slice Ao no co,.slice Ay ny cy,.int .i64 p1,.int .i64 p2,.int .i64 p3,.int .i64 p4,.int .i64 p5,.int .i64 p6] 41)).alloc (.cells #[.int .i64 EX,.slice Al nl cl,.slice Am nm cm,.slice Ad nd cd,.slice Av nv cv,.slice Ap np cp,.slice Ao no co] 33))
 obtain⟨gC,hgC⟩:=zx w.heap.size
 obtain⟨gF,hgF⟩:=zx (w.heap.size+1)
 have hb1:Below w.heap.size w W1:=by rw[hW1];exact((Below.refl _ _).alloc (Nat.le_refl _) _).alloc (by simp) _
 have hck:W1.heap[gC]?=some (.cells #[.int .i64 EX,.slice Al nl cl,.slice Am nm cm,.slice Ad nd cd,.slice Av nv cv,.slice Ap np cp,.slice Ao no co,.slice Ay ny cy,.int .i64 p1,.int .i64 p2,.int .i64 p3,.int .i64 p4,.int .i64 p5,.int .i64 p6] 41 (0,0)):=by
  rw[hW1,hgC];exact(Below.heap_alloc _ _ _ (by simp)).trans (heap_alloc_new w _)
 have hfk:W1.heap[gF]?=some (.cells #[.int .i64 EX,.slice Al nl cl,.slice Am nm cm,.slice Ad nd cd,.slice Av nv cv,.slice Ap np cp,.slice Ao no co] 33 (0,0)):=by
  rw[hW1];exact heap_alloc_at _ _ _ (by rw[hgF];simp)
 have hcl:gC<W1.heap.size:=(Array.getElem?_eq_some_iff.1 hck).1
 have hfl:gF<W1.heap.size:=(Array.getElem?_eq_some_iff.1 hfk).1
 have HB1:=zh (show Below w.heap.size w W1.drew from hb1.drew)
 have HBK:=zh (show ∀w',Below W1.heap.size W1 w'→Below w.heap.size w w' from fun w' hb=>hb1.trans (hb.mono hb1.size))
 have HK:=zh (show ∀w',Below W1.heap.size W1 w'→w'.cell? ⟨gF,0,none⟩=some (.int .i64 EX)∧w'.cell? ⟨gF,1,none⟩=some (.slice Al nl cl)∧w'.cell? ⟨gF,2,none⟩=some (.slice Am nm cm)∧w'.cell? ⟨gF,3,none⟩=some (.slice Ad nd cd)∧w'.cell? ⟨gF,4,none⟩=some (.slice Av nv cv)∧w'.cell? ⟨gF,5,none⟩=some (.slice Ap np cp)∧w'.cell? ⟨gF,6,none⟩=some (.slice Ao no co)∧w'.cell? ⟨gS,0,none⟩=some (.slice Ar nr cr)∧w'.cell? ⟨gS,1,none⟩=some (.pointer (some pA)) from fun w' hb=>(by obtain⟨a0,a1,a2,a3,a4,a5,a6⟩:=cells7 ((hb.block gF hfl).trans hfk);exact⟨a0,a1,a2,a3,a4,a5,a6,((hb1.trans (hb.mono hb1.size)).cell (p:=⟨gS,0,none⟩) hSl).trans hS0,((hb1.trans (hb.mono hb1.size)).cell (p:=⟨gS,1,none⟩) hSl).trans hS1⟩))
 have q1:((nr:Int)==(nv:Int))=false:=beq_eq_false_iff_ne.2 (by omega)
 have q2:((nr:Int) != (nv:Int))=true:=by rw[bne,q1];rfl
 have HV:=zh (h0 W1.drew HB1.out)
 have HZ:=zh (show Below W1.heap.size W1 W1.drew from(Below.refl _ _).drew)
 have HW1:=zh hW1
 have HGG:=zh (And.intro hgC hgF)
 clear hW1 hgC hgF hb1 hck hfk hcl hfl h0 hS0 hS1 hSl 
 go_enter Tryz.func7,Tryz.ntmps7
 go_upto_region 2 with fail
 rw[←HW1.out,←HGG.out.2,←HGG.out.1]
 refine region_tail (S:=(fun w'=>w'.cell? ⟨gF,0,none⟩=some (.int .i64 EX)∧w'.cell? ⟨gF,1,none⟩=some (.slice Al nl cl)∧w'.cell? ⟨gF,2,none⟩=some (.slice Am nm cm)∧w'.cell? ⟨gF,3,none⟩=some (.slice Ad nd cd)∧w'.cell? ⟨gF,4,none⟩=some (.slice Av nv cv)∧w'.cell? ⟨gF,5,none⟩=some (.slice Ap np cp)∧w'.cell? ⟨gF,6,none⟩=some (.slice Ao no co)∧w'.cell? ⟨gS,0,none⟩=some (.slice Ar nr cr)∧w'.cell? ⟨gS,1,none⟩=some (.pointer (some pA)))) [] (by kernel_rfl) (HK.out _ HZ.out) (fun hHeld=>?_)
 refine tk 0 12 ?_
 refine readyT (rs:=[1]) (by kernel_rfl) (by simp) ?_
 refine AllReadyT.cons rfl (fun K hK=>?_) ?_
 ·go_simp
  (go_at_call 16;refine HV.out.mono ?_;rintro e w2 ⟨rfl,hb2⟩;have HB2:=zh (HZ.out.trans (hb2.mono HZ.out.size));clear hb2)
  go_wp2_with fail
  refine hK.out _ _ ?_ (fun hHeld=>?_)
  ·(first|exact HK.out _ HB2.out|assumption)
  clear hK K
  (try simp only[Act.put,z1,z2,z3])
  refine tk 2 14 ?_
  refine tk 3 15 ?_
  refine tk 4 16 ?_
  refine tk 5 17 ?_
  refine readyT (rs:=[6]) (by kernel_rfl) (by simp) ?_
  refine AllReadyT.cons rfl (fun K hK=>?_) ?_
  ·go_simp
   refine hK.out _ _ ?_ (fun hHeld=>?_)
   ·(first|exact HK.out _ HB2.out|assumption)
   clear hK K
   (try simp only[Act.put,z1,z2,z3])
   refine tk 7 19 ?_
   refine tk 8 20 ?_
   refine tk 9 21 ?_
   refine tk 10 22 ?_
   refine tk 11 23 ?_
   refine tk 12 24 ?_
   refine readyT (rs:=[13]) (by kernel_rfl) (by simp) ?_
   refine AllReadyT.cons rfl (fun K hK=>?_) ?_
   ·go_simp
    refine hK.out _ _ ?_ (fun hHeld=>?_)
    ·(first|exact HK.out _ HB2.out|assumption)
    clear hK K
    (try simp only[Act.put,z1,z2,z3])
    refine tk 14 26 ?_
    refine tk 15 27 ?_
    refine tk 16 28 ?_
    refine tk 17 29 ?_
    refine tk 18 30 ?_
    refine tk 19 31 ?_
    refine tk 20 32 ?_
    refine tk 21 33 ?_
    refine tk 22 34 ?_
    refine tk 23 35 ?_
    refine readyT (rs:=[24]) (by kernel_rfl) (by simp) ?_
    refine AllReadyT.cons rfl (fun K hK=>?_) ?_
    ·go_simp
     refine hK.out _ _ ?_ (fun hHeld=>?_)
     ·(first|exact HK.out _ HB2.out|assumption)
     clear hK K
     (try simp only[Act.put,z1,z2,z3])
     refine doneT (by kernel_rfl) ?_ _
     clear hHeld
     go_wp2_with fail
     go_ret
     exact⟨rfl,HBK.out _ HB2.out⟩
    exact AllReadyT.nil
   exact AllReadyT.nil
  exact AllReadyT.nil
 exact AllReadyT.nil
def six(p1 p2 p3 p4 p5 p6:Int):Nat→Bool
 | 0=>decide (0≤p1∧p1≤20)
 | 1=>decide (1≤p2∧p2≤20)
 | 2=>decide (1≤p3∧p3≤48)
 | 3=>decide (0≤p4∧p4≤4)
 | 4=>decide (1≤p5∧p5≤20)
 | _=>decide (0≤p6∧p6≤20)
theorem index6_0(p1 p2 p3 p4 p5 p6:Int) (w:World):(Instr.index 82 (.agg #[.int .i64 p1,.int .i64 0,.int .i64 20,.int .i64 p2,.int .i64 1,.int .i64 20,.int .i64 p3,.int .i64 1,.int .i64 48,.int .i64 p4,.int .i64 0,.int .i64 4,.int .i64 p5,.int .i64 1,.int .i64 20,.int .i64 p6,.int .i64 0,.int .i64 20]) (.int .i64 0)).run Tryz.prog w=.ok (.agg #[.int .i64 p1,.int .i64 0,.int .i64 20]) w:=by kernel_rfl
theorem index6_1(p1 p2 p3 p4 p5 p6:Int) (w:World):(Instr.index 82 (.agg #[.int .i64 p1,.int .i64 0,.int .i64 20,.int .i64 p2,.int .i64 1,.int .i64 20,.int .i64 p3,.int .i64 1,.int .i64 48,.int .i64 p4,.int .i64 0,.int .i64 4,.int .i64 p5,.int .i64 1,.int .i64 20,.int .i64 p6,.int .i64 0,.int .i64 20]) (.int .i64 1)).run Tryz.prog w=.ok (.agg #[.int .i64 p2,.int .i64 1,.int .i64 20]) w:=by kernel_rfl
theorem index6_2(p1 p2 p3 p4 p5 p6:Int) (w:World):(Instr.index 82 (.agg #[.int .i64 p1,.int .i64 0,.int .i64 20,.int .i64 p2,.int .i64 1,.int .i64 20,.int .i64 p3,.int .i64 1,.int .i64 48,.int .i64 p4,.int .i64 0,.int .i64 4,.int .i64 p5,.int .i64 1,.int .i64 20,.int .i64 p6,.int .i64 0,.int .i64 20]) (.int .i64 2)).run Tryz.prog w=.ok (.agg #[.int .i64 p3,.int .i64 1,.int .i64 48]) w:=by kernel_rfl
theorem index6_3(p1 p2 p3 p4 p5 p6:Int) (w:World):(Instr.index 82 (.agg #[.int .i64 p1,.int .i64 0,.int .i64 20,.int .i64 p2,.int .i64 1,.int .i64 20,.int .i64 p3,.int .i64 1,.int .i64 48,.int .i64 p4,.int .i64 0,.int .i64 4,.int .i64 p5,.int .i64 1,.int .i64 20,.int .i64 p6,.int .i64 0,.int .i64 20]) (.int .i64 3)).run Tryz.prog w=.ok (.agg #[.int .i64 p4,.int .i64 0,.int .i64 4]) w:=by kernel_rfl
theorem index6_4(p1 p2 p3 p4 p5 p6:Int) (w:World):(Instr.index 82 (.agg #[.int .i64 p1,.int .i64 0,.int .i64 20,.int .i64 p2,.int .i64 1,.int .i64 20,.int .i64 p3,.int .i64 1,.int .i64 48,.int .i64 p4,.int .i64 0,.int .i64 4,.int .i64 p5,.int .i64 1,.int .i64 20,.int .i64 p6,.int .i64 0,.int .i64 20]) (.int .i64 4)).run Tryz.prog w=.ok (.agg #[.int .i64 p5,.int .i64 1,.int .i64 20]) w:=by kernel_rfl
theorem index6_5(p1 p2 p3 p4 p5 p6:Int) (w:World):(Instr.index 82 (.agg #[.int .i64 p1,.int .i64 0,.int .i64 20,.int .i64 p2,.int .i64 1,.int .i64 20,.int .i64 p3,.int .i64 1,.int .i64 48,.int .i64 p4,.int .i64 0,.int .i64 4,.int .i64 p5,.int .i64 1,.int .i64 20,.int .i64 p6,.int .i64 0,.int .i64 20]) (.int .i64 5)).run Tryz.prog w=.ok (.agg #[.int .i64 p6,.int .i64 0,.int .i64 20]) w:=by kernel_rfl
def ElD(w:World) (rb ro j:Nat) (o:Option Int):Prop:=∃p:Option Addr,w.cell? ⟨rb,ro+j,none⟩=some (.pointer p)∧(o=none→p=none)∧∀c,o=some c→∃g,p=some ⟨g,0,none⟩∧g<w.heap.size∧DrvB w g c
theorem valid_ok(EX p1 p2 p3 p4 p5 p6:Int) (Al Ad Ap Ao Ay:Option Addr) (mb moff vb voff rb ro rc:Nat) (nl nd np no ny cl cm cd cv cp co cy:Nat) (gS ND:Nat) (pA:Addr) (F:FltM) (N:Nat) (os:List (Option Int)) (RES:Bool) (w:World) (hS0:w.cell? ⟨gS,0,none⟩=some (.slice (some ⟨rb,ro,none⟩) ND rc)) (hS1:w.cell? ⟨gS,1,none⟩=some (.pointer (some pA))) (hSl:gS<w.heap.size) (hok:FleetOk N F) (hND:ND=F.dves.length) (hEX:EX=F.ext) (hol:os.length=ND) (hE:∀(j:Nat) (o:Option Int),os[j]?=some o→ElD w rb ro j o) (hCM:∀(mi:Nat) (m:ModM),F.models[mi]?=some m→w.cell? ⟨mb,moff+mi * 4+1,none⟩=some (.int .i64 m.ext)) (hCV:∀(j:Nat) (d:DveM),F.dves[j]?=some d→w.cell? ⟨vb,voff+j * 3+1,none⟩=some (.int .i64 d.model)) (hrbl:rb<w.heap.size) (hvbl:vb<w.heap.size) (hmbl:mb<w.heap.size) (hR1:∀i,i<6→six p1 p2 p3 p4 p5 p6 i=false→RES=false) (hR2:∀(j:Nat) (d:DveM),F.dves[j]?=some d→os[j]?≠some (some (clmO F d))→RES=false) (hR3:(∀i,i<6→six p1 p2 p3 p4 p5 p6 i=true)→(∀(j:Nat) (d:DveM),F.dves[j]?=some d→os[j]?=some (some (clmO F d)))→RES=true) (h0:∀w',Below w.heap.size w w'→Calls Tryz.prog 16 #[.agg #[.int .i64 EX,.slice Al nl cl,.slice (some ⟨mb,moff,none⟩) 2 cm,.slice Ad nd cd,.slice (some ⟨vb,voff,none⟩) ND cv,.slice Ap np cp,.slice Ao no co]] w' fun e w''=>e=.returned (.int .i64 0)∧Below w'.heap.size w' w'') :
  Calls Tryz.prog 7 #[.agg #[.int .i64 EX,.slice Al nl cl,.slice (some ⟨mb,moff,none⟩) 2 cm,.slice Ad nd cd,.slice (some ⟨vb,voff,none⟩) ND cv,.slice Ap np cp,.slice Ao no co,.slice Ay ny cy,.int .i64 p1,.int .i64 p2,.int .i64 p3,.int .i64 p4,.int .i64 p5,.int .i64 p6],.pointer (some ⟨gS,0,none⟩)] w fun e w'=>e=.returned (.bool RES)∧Below w.heap.size w w':=by
 obtain⟨W1,hW1⟩:=zx ((w.alloc (.cells #[.int .i64 EX,.slice Al nl cl,.slice (some ⟨mb,moff,none⟩) 2 cm,.slice Ad nd cd,.slice (some ⟨vb,voff,none⟩) ND cv,.slice Ap np cp,.slice Ao no co,.slice Ay ny cy,.int .i64 p1,.int .i64 p2,.int .i64 p3,.int .i64 p4,.int .i64 p5,.int .i64 p6] 41)).alloc (.cells #[.int .i64 EX,.slice Al nl cl,.slice (some ⟨mb,moff,none⟩) 2 cm,.slice Ad nd cd,.slice (some ⟨vb,voff,none⟩) ND cv,.slice Ap np cp,.slice Ao no co] 33))
 obtain⟨gC,hgC⟩:=zx w.heap.size
 obtain⟨gF,hgF⟩:=zx (w.heap.size+1)
 have hb1:Below w.heap.size w W1:=by rw[hW1];exact((Below.refl _ _).alloc (Nat.le_refl _) _).alloc (by simp) _
 have hck:W1.heap[gC]?=some (.cells #[.int .i64 EX,.slice Al nl cl,.slice (some ⟨mb,moff,none⟩) 2 cm,.slice Ad nd cd,.slice (some ⟨vb,voff,none⟩) ND cv,.slice Ap np cp,.slice Ao no co,.slice Ay ny cy,.int .i64 p1,.int .i64 p2,.int .i64 p3,.int .i64 p4,.int .i64 p5,.int .i64 p6] 41 (0,0)):=by
  rw[hW1,hgC];exact(Below.heap_alloc _ _ _ (by simp)).trans (heap_alloc_new w _)
 have hfk:W1.heap[gF]?=some (.cells #[.int .i64 EX,.slice Al nl cl,.slice (some ⟨mb,moff,none⟩) 2 cm,.slice Ad nd cd,.slice (some ⟨vb,voff,none⟩) ND cv,.slice Ap np cp,.slice Ao no co] 33 (0,0)):=by
  rw[hW1];exact heap_alloc_at _ _ _ (by rw[hgF];simp)
 have hcl:gC<W1.heap.size:=(Array.getElem?_eq_some_iff.1 hck).1
 have hfl:gF<W1.heap.size:=(Array.getElem?_eq_some_iff.1 hfk).1
 have HB1:=zh (show Below w.heap.size w W1.drew from hb1.drew)
 have HBK:=zh (show ∀w',Below W1.heap.size W1 w'→Below w.heap.size w w' from fun w' hb=>hb1.trans (hb.mono hb1.size))
 have HK:=zh (show ∀w',Below W1.heap.size W1 w'→w'.cell? ⟨gF,0,none⟩=some (.int .i64 EX)∧w'.cell? ⟨gF,1,none⟩=some (.slice Al nl cl)∧w'.cell? ⟨gF,2,none⟩=some (.slice (some ⟨mb,moff,none⟩) 2 cm)∧w'.cell? ⟨gF,3,none⟩=some (.slice Ad nd cd)∧w'.cell? ⟨gF,4,none⟩=some (.slice (some ⟨vb,voff,none⟩) ND cv)∧w'.cell? ⟨gF,5,none⟩=some (.slice Ap np cp)∧w'.cell? ⟨gF,6,none⟩=some (.slice Ao no co)∧w'.cell? ⟨gS,0,none⟩=some (.slice (some ⟨rb,ro,none⟩) ND rc)∧w'.cell? ⟨gS,1,none⟩=some (.pointer (some pA)) from fun w' hb=>(by obtain⟨a0,a1,a2,a3,a4,a5,a6⟩:=cells7 ((hb.block gF hfl).trans hfk);exact⟨a0,a1,a2,a3,a4,a5,a6,((hb1.trans (hb.mono hb1.size)).cell (p:=⟨gS,0,none⟩) hSl).trans hS0,((hb1.trans (hb.mono hb1.size)).cell (p:=⟨gS,1,none⟩) hSl).trans hS1⟩))
 have HK6:=zh (show ∀w',Below W1.heap.size W1 w'→w'.cell? ⟨gC,8,none⟩=some (.int .i64 p1)∧w'.cell? ⟨gC,9,none⟩=some (.int .i64 p2)∧w'.cell? ⟨gC,10,none⟩=some (.int .i64 p3)∧w'.cell? ⟨gC,11,none⟩=some (.int .i64 p4)∧w'.cell? ⟨gC,12,none⟩=some (.int .i64 p5)∧w'.cell? ⟨gC,13,none⟩=some (.int .i64 p6) from fun w' hb=>by
  have k:=(hb.block gC hcl).trans hck
  refine⟨?_,?_,?_,?_,?_,?_⟩ <;> (rw[cell_of_row _ _ _ _ _ _ k];rfl))
 have HR1:=zh hR1
 have HR2:=zh hR2
 have HR3:=zh hR3
 have HOK:=zh hok
 have HND:=zh hND
 have HEX:=zh hEX
 have HOL:=zh hol
 have HE:=zh hE
 have HCC:=zh (And.intro hCM hCV)
 have HLT:=zh (And.intro hrbl (And.intro hvbl hmbl))
 have HD1:=zh (show 1≤ND∧ND≤9 by have:=hok.dve1;have:=hok.dveN;omega)
 have HV:=zh (h0 W1.drew HB1.out)
 have HZ:=zh (show Below W1.heap.size W1 W1.drew from(Below.refl _ _).drew)
 have HW1:=zh hW1
 have HGG:=zh (And.intro hgC hgF)
 clear hW1 hgC hgF hb1 hck hfk hcl hfl h0 hS0 hS1 hSl hR1 hR2 hR3 hok hND hEX hol hE hCM hCV hrbl hvbl hmbl
 go_enter Tryz.func7,Tryz.ntmps7
 go_upto_region 2 with fail
 rw[←HW1.out,←HGG.out.2,←HGG.out.1]
 refine region_tail (S:=(fun w'=>w'.cell? ⟨gF,0,none⟩=some (.int .i64 EX)∧w'.cell? ⟨gF,1,none⟩=some (.slice Al nl cl)∧w'.cell? ⟨gF,2,none⟩=some (.slice (some ⟨mb,moff,none⟩) 2 cm)∧w'.cell? ⟨gF,3,none⟩=some (.slice Ad nd cd)∧w'.cell? ⟨gF,4,none⟩=some (.slice (some ⟨vb,voff,none⟩) ND cv)∧w'.cell? ⟨gF,5,none⟩=some (.slice Ap np cp)∧w'.cell? ⟨gF,6,none⟩=some (.slice Ao no co)∧w'.cell? ⟨gS,0,none⟩=some (.slice (some ⟨rb,ro,none⟩) ND rc)∧w'.cell? ⟨gS,1,none⟩=some (.pointer (some pA)))) [] (by kernel_rfl) (HK.out _ HZ.out) (fun hHeld=>?_)
 refine tk 0 12 ?_
 refine readyT (rs:=[1]) (by kernel_rfl) (by simp) ?_
 refine AllReadyT.cons rfl (fun K hK=>?_) ?_
 ·go_simp
  (go_at_call 16;refine HV.out.mono ?_;rintro e w2 ⟨rfl,hb2⟩;have HB2:=zh (HZ.out.trans (hb2.mono HZ.out.size));clear hb2)
  go_wp2_with fail
  refine hK.out _ _ ?_ (fun hHeld=>?_)
  ·(first|exact HK.out _ HB2.out|assumption)
  clear hK K
  (try simp only[Act.put,z1,z2,z3])
  refine tk 2 14 ?_
  refine tk 3 15 ?_
  refine tk 4 16 ?_
  refine tk 5 17 ?_
  refine readyT (rs:=[6]) (by kernel_rfl) (by simp) ?_
  refine AllReadyT.cons rfl (fun K hK=>?_) ?_
  ·go_simp
   refine hK.out _ _ ?_ (fun hHeld=>?_)
   ·(first|exact HK.out _ HB2.out|assumption)
   clear hK K
   (try simp only[Act.put,z1,z2,z3])
   refine tk 7 19 ?_
   refine tk 8 20 ?_
   refine tk 9 21 ?_
   refine tk 10 22 ?_
   refine tk 11 23 ?_
   refine tk 12 24 ?_
   refine readyT (rs:=[13]) (by kernel_rfl) (by simp) ?_
   refine AllReadyT.cons rfl (fun K hK=>?_) ?_
   ·go_simp
    refine hK.out _ _ ?_ (fun hHeld=>?_)
    ·(first|exact HK.out _ HB2.out|assumption)
    clear hK K
    (try simp only[Act.put,z1,z2,z3])
    refine tk 14 26 ?_
    refine tk 15 27 ?_
    refine tk 16 28 ?_
    refine tk 17 29 ?_
    refine tk 18 30 ?_
    refine tk 19 31 ?_
    refine tk 20 32 ?_
    refine tk 21 33 ?_
    refine tk 22 34 ?_
    refine tk 23 35 ?_
    refine readyT (rs:=[24]) (by kernel_rfl) (by simp) ?_
    refine AllReadyT.cons rfl (fun K hK=>?_) ?_
    ·go_simp
     refine hK.out _ _ ?_ (fun hHeld=>?_)
     ·(first|exact HK.out _ HB2.out|assumption)
     clear hK K
     (try simp only[Act.put,z1,z2,z3])
     refine doneT (by kernel_rfl) ?_ _
     clear hHeld
     obtain⟨d8,d9,d10,d11,d12,d13⟩:=HK6.out _ HB2.out
     go_wp2_with fail
     clear d8 d9 d10 d11 d12 d13
     go_loopg [56] 6 (fun z v56 wr=>∃j:Nat,j≤6∧z=6 - j∧v56=.int .i64 (j:Int)∧Hid (Below W1.heap.size W1 wr)∧Hid (∀i,i<j→six p1 p2 p3 p4 p5 p6 i=true))
     case atStart=>exact⟨0,by omega,rfl,rfl,HB2,zh (fun i hi=>by omega)⟩
     case round =>
      obtain⟨j,hj,rfl,rfl,HW,HJ⟩:=hrel
      obtain⟨W3,hW3⟩:=zx wr
      rw[←hW3] at HW ⊢
      clear hW3
      rcases (show j=0∨j=1∨j=2∨j=3∨j=4∨j=5∨j=6 from by omega) with rfl | rfl | rfl | rfl | rfl | rfl | rfl
      ·have qx:=index6_0 p1 p2 p3 p4 p5 p6
       by_cases hA:p1<0
       ·have q1:decide (p1<0)=true:=decide_eq_true hA
        have HX:=zh (show six p1 p2 p3 p4 p5 p6 0=false from decide_eq_false (by omega))
        clear hA
        go_wp2_with fail
        go_ret
        exact⟨ret_bool (HR1.out 0 (by omega) HX.out).symm,HBK.out _ (HW.out.alloc (by have:=HW.out.size;omega) _)⟩
       ·have q1:decide (p1<0)=false:=decide_eq_false hA
        by_cases hB:20<p1
        ·have q2:decide (20<p1)=true:=decide_eq_true hB
         have HX:=zh (show six p1 p2 p3 p4 p5 p6 0=false from decide_eq_false (by omega))
         clear hA hB
         go_wp2_with fail
         go_ret
         exact⟨ret_bool (HR1.out 0 (by omega) HX.out).symm,HBK.out _ (HW.out.alloc (by have:=HW.out.size;omega) _)⟩
        ·have q2:decide (20<p1)=false:=decide_eq_false hB
         have HX:=zh (show six p1 p2 p3 p4 p5 p6 0=true from decide_eq_true (by omega))
         clear hA hB
         go_wp2_with fail
         go_roundg (6 - (0+1))
         case measure=>omega
         case rel=>exact⟨0+1,by omega,rfl,by go_num,zh (HW.out.alloc (by have:=HW.out.size;omega) _),zh (fun i hi=>by
          rcases Nat.lt_or_ge i 0 with h | h
          ·exact HJ.out i h
          ·have:i=0:=by omega
           subst this
           exact HX.out)⟩
      ·have qx:=index6_1 p1 p2 p3 p4 p5 p6
       by_cases hA:p2<1
       ·have q1:decide (p2<1)=true:=decide_eq_true hA
        have HX:=zh (show six p1 p2 p3 p4 p5 p6 1=false from decide_eq_false (by omega))
        clear hA
        go_wp2_with fail
        go_ret
        exact⟨ret_bool (HR1.out 1 (by omega) HX.out).symm,HBK.out _ (HW.out.alloc (by have:=HW.out.size;omega) _)⟩
       ·have q1:decide (p2<1)=false:=decide_eq_false hA
        by_cases hB:20<p2
        ·have q2:decide (20<p2)=true:=decide_eq_true hB
         have HX:=zh (show six p1 p2 p3 p4 p5 p6 1=false from decide_eq_false (by omega))
         clear hA hB
         go_wp2_with fail
         go_ret
         exact⟨ret_bool (HR1.out 1 (by omega) HX.out).symm,HBK.out _ (HW.out.alloc (by have:=HW.out.size;omega) _)⟩
        ·have q2:decide (20<p2)=false:=decide_eq_false hB
         have HX:=zh (show six p1 p2 p3 p4 p5 p6 1=true from decide_eq_true (by omega))
         clear hA hB
         go_wp2_with fail
         go_roundg (6 - (1+1))
         case measure=>omega
         case rel=>exact⟨1+1,by omega,rfl,by go_num,zh (HW.out.alloc (by have:=HW.out.size;omega) _),zh (fun i hi=>by
          rcases Nat.lt_or_ge i 1 with h | h
          ·exact HJ.out i h
          ·have:i=1:=by omega
           subst this
           exact HX.out)⟩
      ·have qx:=index6_2 p1 p2 p3 p4 p5 p6
       by_cases hA:p3<1
       ·have q1:decide (p3<1)=true:=decide_eq_true hA
        have HX:=zh (show six p1 p2 p3 p4 p5 p6 2=false from decide_eq_false (by omega))
        clear hA
        go_wp2_with fail
        go_ret
        exact⟨ret_bool (HR1.out 2 (by omega) HX.out).symm,HBK.out _ (HW.out.alloc (by have:=HW.out.size;omega) _)⟩
       ·have q1:decide (p3<1)=false:=decide_eq_false hA
        by_cases hB:48<p3
        ·have q2:decide (48<p3)=true:=decide_eq_true hB
         have HX:=zh (show six p1 p2 p3 p4 p5 p6 2=false from decide_eq_false (by omega))
         clear hA hB
         go_wp2_with fail
         go_ret
         exact⟨ret_bool (HR1.out 2 (by omega) HX.out).symm,HBK.out _ (HW.out.alloc (by have:=HW.out.size;omega) _)⟩
        ·have q2:decide (48<p3)=false:=decide_eq_false hB
         have HX:=zh (show six p1 p2 p3 p4 p5 p6 2=true from decide_eq_true (by omega))
         clear hA hB
         go_wp2_with fail
         go_roundg (6 - (2+1))
         case measure=>omega
         case rel=>exact⟨2+1,by omega,rfl,by go_num,zh (HW.out.alloc (by have:=HW.out.size;omega) _),zh (fun i hi=>by
          rcases Nat.lt_or_ge i 2 with h | h
          ·exact HJ.out i h
          ·have:i=2:=by omega
           subst this
           exact HX.out)⟩
      ·have qx:=index6_3 p1 p2 p3 p4 p5 p6
       by_cases hA:p4<0
       ·have q1:decide (p4<0)=true:=decide_eq_true hA
        have HX:=zh (show six p1 p2 p3 p4 p5 p6 3=false from decide_eq_false (by omega))
        clear hA
        go_wp2_with fail
        go_ret
        exact⟨ret_bool (HR1.out 3 (by omega) HX.out).symm,HBK.out _ (HW.out.alloc (by have:=HW.out.size;omega) _)⟩
       ·have q1:decide (p4<0)=false:=decide_eq_false hA
        by_cases hB:4<p4
        ·have q2:decide (4<p4)=true:=decide_eq_true hB
         have HX:=zh (show six p1 p2 p3 p4 p5 p6 3=false from decide_eq_false (by omega))
         clear hA hB
         go_wp2_with fail
         go_ret
         exact⟨ret_bool (HR1.out 3 (by omega) HX.out).symm,HBK.out _ (HW.out.alloc (by have:=HW.out.size;omega) _)⟩
        ·have q2:decide (4<p4)=false:=decide_eq_false hB
         have HX:=zh (show six p1 p2 p3 p4 p5 p6 3=true from decide_eq_true (by omega))
         clear hA hB
         go_wp2_with fail
         go_roundg (6 - (3+1))
         case measure=>omega
         case rel=>exact⟨3+1,by omega,rfl,by go_num,zh (HW.out.alloc (by have:=HW.out.size;omega) _),zh (fun i hi=>by
          rcases Nat.lt_or_ge i 3 with h | h
          ·exact HJ.out i h
          ·have:i=3:=by omega
           subst this
           exact HX.out)⟩
      ·have qx:=index6_4 p1 p2 p3 p4 p5 p6
       by_cases hA:p5<1
       ·have q1:decide (p5<1)=true:=decide_eq_true hA
        have HX:=zh (show six p1 p2 p3 p4 p5 p6 4=false from decide_eq_false (by omega))
        clear hA
        go_wp2_with fail
        go_ret
        exact⟨ret_bool (HR1.out 4 (by omega) HX.out).symm,HBK.out _ (HW.out.alloc (by have:=HW.out.size;omega) _)⟩
       ·have q1:decide (p5<1)=false:=decide_eq_false hA
        by_cases hB:20<p5
        ·have q2:decide (20<p5)=true:=decide_eq_true hB
         have HX:=zh (show six p1 p2 p3 p4 p5 p6 4=false from decide_eq_false (by omega))
         clear hA hB
         go_wp2_with fail
         go_ret
         exact⟨ret_bool (HR1.out 4 (by omega) HX.out).symm,HBK.out _ (HW.out.alloc (by have:=HW.out.size;omega) _)⟩
        ·have q2:decide (20<p5)=false:=decide_eq_false hB
         have HX:=zh (show six p1 p2 p3 p4 p5 p6 4=true from decide_eq_true (by omega))
         clear hA hB
         go_wp2_with fail
         go_roundg (6 - (4+1))
         case measure=>omega
         case rel=>exact⟨4+1,by omega,rfl,by go_num,zh (HW.out.alloc (by have:=HW.out.size;omega) _),zh (fun i hi=>by
          rcases Nat.lt_or_ge i 4 with h | h
          ·exact HJ.out i h
          ·have:i=4:=by omega
           subst this
           exact HX.out)⟩
      ·have qx:=index6_5 p1 p2 p3 p4 p5 p6
       by_cases hA:p6<0
       ·have q1:decide (p6<0)=true:=decide_eq_true hA
        have HX:=zh (show six p1 p2 p3 p4 p5 p6 5=false from decide_eq_false (by omega))
        clear hA
        go_wp2_with fail
        go_ret
        exact⟨ret_bool (HR1.out 5 (by omega) HX.out).symm,HBK.out _ (HW.out.alloc (by have:=HW.out.size;omega) _)⟩
       ·have q1:decide (p6<0)=false:=decide_eq_false hA
        by_cases hB:20<p6
        ·have q2:decide (20<p6)=true:=decide_eq_true hB
         have HX:=zh (show six p1 p2 p3 p4 p5 p6 5=false from decide_eq_false (by omega))
         clear hA hB
         go_wp2_with fail
         go_ret
         exact⟨ret_bool (HR1.out 5 (by omega) HX.out).symm,HBK.out _ (HW.out.alloc (by have:=HW.out.size;omega) _)⟩
        ·have q2:decide (20<p6)=false:=decide_eq_false hB
         have HX:=zh (show six p1 p2 p3 p4 p5 p6 5=true from decide_eq_true (by omega))
         clear hA hB
         go_wp2_with fail
         go_roundg (6 - (5+1))
         case measure=>omega
         case rel=>exact⟨5+1,by omega,rfl,by go_num,zh (HW.out.alloc (by have:=HW.out.size;omega) _),zh (fun i hi=>by
          rcases Nat.lt_or_ge i 5 with h | h
          ·exact HJ.out i h
          ·have:i=5:=by omega
           subst this
           exact HX.out)⟩
      ·have HSX:=HJ
       obtain⟨b0,b1,b2,b3,b4,b5,b6,b7,b8⟩:=HK.out _ HW.out
       go_wp2_with fail
       clear b0 b1 b2 b3 b4 b5 b6 b7 b8
       go_loopg [77] ND (fun z v77 wr=>∃j:Nat,j≤ND∧z=ND - j∧v77=.int .i64 (j:Int)∧Hid (Below W1.heap.size W1 wr)∧Hid (∀(i:Nat) (d:DveM),i<j→F.dves[i]?=some d→os[i]?=some (some (clmO F d))))
       case atStart=>exact⟨0,by omega,rfl,rfl,HW,zh (fun i d hi _=>by omega)⟩
       case round =>
        clear HW HJ
        obtain⟨j,hj,rfl,rfl,HW,HJ⟩:=hrel
        obtain⟨W3,hW3⟩:=zx wr
        rw[←hW3] at HW ⊢
        clear hW3
        by_cases hlt:j<ND
        ·have i1:(j:Int)<(ND:Int):=by omega
         have d9:(ND:Int)≤9:=by have:=HD1.out;omega
         obtain⟨d,hd⟩:∃d,F.dves[j]?=some d:=⟨_,List.getElem?_eq_getElem (by rw[←HND.out];exact hlt)⟩
         obtain⟨o,ho⟩:∃o,os[j]?=some o:=⟨_,List.getElem?_eq_getElem (by rw[HOL.out];exact hlt)⟩
         have HDO:=zh (And.intro hd ho)
         obtain⟨p,hp,hp0,hp1⟩:=HE.out j o ho
         have hkw:=HBK.out W3 HW.out
         have e0:W3.cell? ⟨rb,ro+j,none⟩=some (.pointer p):=(hkw.cell (p:=⟨rb,ro+j,none⟩) HLT.out.1).trans hp
         cases o with
         | none =>
          have hpn:=hp0 rfl
          subst hpn
          clear hd ho hp hp0 hp1 hkw
          go_upto_region 13 with fail
          go_quiet (fail)
          go_wp2_with fail
          go_ret
          exact⟨ret_bool (HR2.out j d HDO.out.1 (by rw[HDO.out.2];simp)).symm,HBK.out _ (Below.drewN' HW.out nq)⟩
         | some c =>
          obtain⟨gd,hgd,hgl,hdb⟩:=hp1 c rfl
          subst hgd
          obtain⟨mi,m,hmi,hm,hmi2,hx1,hx4,hcl,hcl2,hcl16⟩:=clm_ok HOK.out hd
          have hdv:=HCC.out.2 j d hd
          have hmv:=HCC.out.1 mi m hm
          obtain⟨XT,hXT⟩:=zx m.ext
          obtain⟨KL,hKL⟩:=zx (clmO F d)
          rw[hmi] at hdv
          rw[←hXT] at hmv hx1 hx4 hcl
          rw[←HEX.out,←hKL] at hcl
          rw[←hKL] at hcl2 hcl16
          have hEXr:1≤EX∧EX≤2:=by have:=HOK.out.ext;have:=HEX.out;omega
          have m1:IntKind.i64.wrap (XT * 2)=XT * 2:=IntWalk.i64_in _ (by omega)
          have m2:IntKind.i64.wrap (XT * 2 * EX)=KL:=by rw[hcl];exact IntWalk.i64_in _ (by omega)
          have i2:(mi:Int)<2:=by omega
          have HK5:=zh (show ∀w',Below W1.heap.size W1 w'→(fun w'=>w'.cell? ⟨gF,0,none⟩=some (.int .i64 EX)∧w'.cell? ⟨gF,2,none⟩=some (.slice (some ⟨mb,moff,none⟩) 2 cm)∧w'.cell? ⟨gF,4,none⟩=some (.slice (some ⟨vb,voff,none⟩) ND cv)∧w'.cell? ⟨vb,voff+j * 3+1,none⟩=some (.int .i64 (mi:Int))∧w'.cell? ⟨mb,moff+mi * 4+1,none⟩=some (.int .i64 XT)∧DrvB w' gd c) w' from fun w' hb=>by
           have hkw':=HBK.out w' hb
           obtain⟨a0,a1,a2,a3,a4,a5,a6,a7,a8⟩:=HK.out w' hb
           exact⟨a0,a2,a4,(hkw'.cell (p:=⟨vb,_,none⟩) HLT.out.2.1).trans hdv,(hkw'.cell (p:=⟨mb,_,none⟩) HLT.out.2.2).trans hmv,hdb.keep (hkw'.block gd hgl)⟩)
          have HKL:=zh hKL
          clear hd ho hp hp0 hp1 hkw hdv hmv hmi hXT hKL hcl hx1 hx4 hEXr hmi2 hcl2 hcl16 hdb hgl hm
          go_upto_region 13 with fail
          have HS5:=zh (HK5.out _ HW.out.drew)
          have HD5:=zh HS5.out.2.2.2.2.2
          by_cases hck:c=KL
          ·subst hck
           refine region_tail (S:=(fun w'=>w'.cell? ⟨gF,0,none⟩=some (.int .i64 EX)∧w'.cell? ⟨gF,2,none⟩=some (.slice (some ⟨mb,moff,none⟩) 2 cm)∧w'.cell? ⟨gF,4,none⟩=some (.slice (some ⟨vb,voff,none⟩) ND cv)∧w'.cell? ⟨vb,voff+j * 3+1,none⟩=some (.int .i64 (mi:Int))∧w'.cell? ⟨mb,moff+mi * 4+1,none⟩=some (.int .i64 XT)∧DrvB w' gd c)) [] (by kernel_rfl) HS5.out (fun hHeld=>?_)
           refine tk 0 82 ?_
           refine tk 1 83 ?_
           refine tk 2 84 ?_
           refine tk 3 85 ?_
           refine tk 5 87 ?_
           refine tk 6 88 ?_
           refine tk 7 89 ?_
           refine tk 8 90 ?_
           refine tk 9 91 ?_
           refine tk 10 92 ?_
           refine tk 11 93 ?_
           refine tk 12 94 ?_
           refine tk 13 95 ?_
           refine tk 14 96 ?_
           refine tk 15 97 ?_
           refine tk 16 98 ?_
           refine tk 17 99 ?_
           refine tk 18 100 ?_
           refine tk 19 101 ?_
           refine readyT (rs:=[4]) (by kernel_rfl) (by simp) ?_
           refine AllReadyT.cons rfl (fun K hK=>?_) ?_
           ·go_simp
            (go_at_call 17;refine(claim_any gd c _ HD5.out).mono ?_;rintro e w3 ⟨rfl,rfl⟩)
            go_wp2_with fail
            refine hK.out _ _ ?_ (fun hHeld=>?_)
            ·exact HS5.out
            clear hK K
            (try simp only[Act.put,z1,z2,z3])
            refine tk 20 102 ?_
            refine readyT (rs:=[21]) (by kernel_rfl) (by simp) ?_
            refine AllReadyT.cons rfl (fun K hK=>?_) ?_
            ·go_simp
             refine hK.out _ _ ?_ (fun hHeld=>?_)
             ·exact HS5.out
             clear hK K
             (try simp only[Act.put,z1,z2,z3])
             refine doneT (by kernel_rfl) ?_ _
             clear hHeld
             go_wp2_with fail
             go_roundg (ND - (j+1))
             case measure=>omega
             case rel=>exact⟨j+1,by omega,rfl,by go_num,zh HW.out.drew,zh (fun i x hi hx=>by
              rcases Nat.lt_or_ge i j with h | h
              ·exact HJ.out i x h hx
              ·have:i=j:=by omega
               subst this
               rw[HDO.out.1] at hx
               injection hx with hx
               subst hx
               rw[HDO.out.2,HKL.out])⟩
            exact AllReadyT.nil
           exact AllReadyT.nil
          ·have q1:(c==KL)=false:=beq_eq_false_iff_ne.2 hck
           have q2:(c != KL)=true:=by rw[bne,q1];rfl
           have HCK:=zh hck
           refine region_tail (S:=(fun w'=>w'.cell? ⟨gF,0,none⟩=some (.int .i64 EX)∧w'.cell? ⟨gF,2,none⟩=some (.slice (some ⟨mb,moff,none⟩) 2 cm)∧w'.cell? ⟨gF,4,none⟩=some (.slice (some ⟨vb,voff,none⟩) ND cv)∧w'.cell? ⟨vb,voff+j * 3+1,none⟩=some (.int .i64 (mi:Int))∧w'.cell? ⟨mb,moff+mi * 4+1,none⟩=some (.int .i64 XT)∧DrvB w' gd c)) [] (by kernel_rfl) HS5.out (fun hHeld=>?_)
           refine tk 0 82 ?_
           refine tk 1 83 ?_
           refine tk 2 84 ?_
           refine tk 3 85 ?_
           refine tk 5 87 ?_
           refine tk 6 88 ?_
           refine tk 7 89 ?_
           refine tk 8 90 ?_
           refine tk 9 91 ?_
           refine tk 10 92 ?_
           refine tk 11 93 ?_
           refine tk 12 94 ?_
           refine tk 13 95 ?_
           refine tk 14 96 ?_
           refine tk 15 97 ?_
           refine tk 16 98 ?_
           refine tk 17 99 ?_
           refine tk 18 100 ?_
           refine tk 19 101 ?_
           refine readyT (rs:=[4]) (by kernel_rfl) (by simp) ?_
           refine AllReadyT.cons rfl (fun K hK=>?_) ?_
           ·go_simp
            (go_at_call 17;refine(claim_any gd c _ HD5.out).mono ?_;rintro e w3 ⟨rfl,rfl⟩)
            go_wp2_with fail
            refine hK.out _ _ ?_ (fun hHeld=>?_)
            ·exact HS5.out
            clear hK K
            (try simp only[Act.put,z1,z2,z3])
            refine tk 20 102 ?_
            refine readyT (rs:=[21]) (by kernel_rfl) (by simp) ?_
            refine AllReadyT.cons rfl (fun K hK=>?_) ?_
            ·go_simp
             refine hK.out _ _ ?_ (fun hHeld=>?_)
             ·exact HS5.out
             clear hK K
             (try simp only[Act.put,z1,z2,z3])
             refine doneT (by kernel_rfl) ?_ _
             clear hHeld
             go_wp2_with fail
             go_ret
             exact⟨ret_bool (HR2.out j d HDO.out.1 (by rw[HDO.out.2];intro h;injection h with h;injection h with h;exact HCK.out (h.trans HKL.out.symm))).symm,HBK.out _ HW.out.drew⟩
            exact AllReadyT.nil
           exact AllReadyT.nil
        ·have HJE:=zh (show j=ND by omega)
         go_wp2_with fail
         go_ret
         exact⟨ret_bool (HR3.out HSX.out (fun i d hd=>HJ.out i d (by have:=(List.getElem?_eq_some_iff.1 hd).1;rw[HJE.out,HND.out];exact this) hd)).symm,HBK.out _ HW.out⟩
    exact AllReadyT.nil
   exact AllReadyT.nil
  exact AllReadyT.nil
 exact AllReadyT.nil
end Go.Proofs.YtmacgpnlcdapfaaGreat
