/- Small numbers of the reference: Make, large, Cmp, walked. -/
import Derived.Test.YtmacgpnlcdapfaaGreatMv01
import Derived.Deep.AppendLies
import Derived.Deep.RegionLaw
set_option linter.unusedSectionVars false
set_option maxRecDepth 100000
set_option maxHeartbeats 12800000
namespace Go.Proofs.YtmacgpnlcdapfaaGreat
open Go.RowKit
set_option linter.unusedVariables false
set_option linter.unusedSimpArgs false
theorem LS.two(w:World) (a b:Nat) (ha:a<4294967296) (hb:b<4294967296):LS (w.alloc (.cells #[.int .u32 (a:Int),.int .u32 (b:Int)] 234)) (Bl (w.heap.size+1)) (.slice (some ⟨w.heap.size,0,none⟩) 2 2) [a,b]:=by
 refine⟨.inr ⟨w.heap.size,0,2,rfl,Nat.le_refl _,by unfold maxLen;decide,Nat.lt_succ_self _,fun k x hk=>?_⟩,fun x hx=>?_⟩
 ·rw[Nat.zero_add,cell_of_row _ _ _ _ _ _ (heap_alloc_new w _)]
  match k,hk with
  | 0,hk=>simp at hk;subst hk;rfl
  | 1,hk=>simp at hk;subst hk;rfl
 ·simp at hx
  rcases hx with rfl | rfl
  ·exact ha
  ·exact hb
theorem rmake_any(v:Nat) (w:World) (hv:v<4294967296) :
  Calls Tryz.prog 56 #[.int .u64 (v:Int)] w fun e w'=>∃u,e=.returned u∧OwnL w' w.heap.size u (natL v)∧Below w.heap.size w w':=by
 have hv0:(0:Int)≤(v:Int):=by omega
 have hv1:(v:Int)<4294967296:=by omega
 go_enter Tryz.func56,Tryz.ntmps56
 go_wp2_with fail
 have e0:((v:Int) / 4294967296)=((0:Nat):Int):=by omega
 rw[e0]
 refine(trim_any _ [v,0] _ _ (LS.two w v 0 hv (by omega)) (fun b hb=>by simpa[Bl] using hb) (by simp)).mono ?_
 rintro e w2 ⟨u,rfl,hO,hb⟩
 rw[trim_two] at hO
 have HO:=zh (hO.base (B':=w.heap.size) (by simp))
 have hbz:=below_box hb
 clear hO
 go_wp2_with fail
 go_ret
 exact⟨_,rfl,HO.out,hbz⟩
theorem rlarge_any(v:Value) (l:List Nat) (R:Nat→Prop) (w:World) (h:LS w R v l) (hR:∀b,R b→b<w.heap.size) (hl:l.length≤512) :
  Calls Tryz.prog 168 #[v] w fun e w'=>e=.returned (.bool false)∧Below w.heap.size w w':=by
 have HT:=zh (trim_any v l R w h hR (by omega))
 have hlen:=trimL_length l
 clear h
 go_enter Tryz.func168,Tryz.ntmps168
 go_wp2_with fail
 refine HT.out.mono ?_
 rintro e w2 ⟨u,rfl,hO,hb⟩
 obtain⟨A,c,rfl⟩:=own_form hO
 have q:¬((512:Int)<((trimL l).length:Int)):=by omega
 generalize (trimL l).length=n at *
 clear hO
 go_wp2_with fail
 go_ret
 exact⟨ret_bool (decide_eq_false (by omega)),hb⟩
def cmpI(n m:Nat):Int:=if n<m then -1 else if m<n then 1 else 0
theorem natL_len{n:Nat}:((natL n).length=0↔n=0)∧((natL n).length=1↔0<n):=by
 unfold natL
 split <;> simp <;> omega
theorem LS.one{w:World} {R:Nat→Prop} {A:Option Addr} {k c:Nat} {n:Nat} (h:LS w R (.slice A k c) (natL n)) (h0:0<n):∃b off,A=some ⟨b,off,none⟩∧R b∧w.cell? ⟨b,off,none⟩=some (.int .u32 (n:Int)):=by
 have hl:0<(natL n).length:=by rw[natL_pos h0];simp
 obtain⟨b,off,e,hR,hc,-⟩:=h.at_ hl
 have e2:(natL n)[0]=n:=by simp[natL_pos h0]
 rw[e2,Nat.add_zero] at hc
 exact⟨b,off,e,hR,hc⟩
theorem rcmp_any(va vb:Value) (n m:Nat) (R R':Nat→Prop) (w:World) (ha:LS w R va (natL n)) (hb:LS w R' vb (natL m)) (hR:∀b,R b→b<w.heap.size) (hR':∀b,R' b→b<w.heap.size) :
  Calls Tryz.prog 210 #[va,vb] w fun e w'=>e=.returned (.int .i64 (cmpI n m))∧Below w.heap.size w w':=by
 have HA:=zh (trim_any va _ R w ha hR (by have:=natL_length n;omega))
 have HB:=zh (fun w' h h2=>trim_any vb (natL m) R' w' h h2 (by have:=natL_length m;omega))
 have HLB:=zh hb
 have hn32:∀x∈natL n,x<4294967296:=ha.2
 have hm32:∀x∈natL m,x<4294967296:=hb.2
 have HN:=zh hn32
 have HM:=zh hm32
 have HR':=zh hR'
 clear ha hb hR hR' hn32 hm32
 go_enter Tryz.func210,Tryz.ntmps210
 go_wp2_with fail
 refine HA.out.mono ?_
 rintro e w2 ⟨u,rfl,hO,hb1⟩
 rw[trim_natL] at hO
 have HB1:=zh hb1
 have HO:=zh hO
 clear hO hb1
 go_wp2_with fail
 refine(HB.out _ (HLB.out.keep (fun b hb=>HB1.out.block b (HR'.out b hb))) (fun b hb=>Nat.lt_of_lt_of_le (HR'.out b hb) HB1.out.size)).mono ?_
 rintro e w3 ⟨u2,rfl,hO2,hb2⟩
 rw[trim_natL] at hO2
 have hb3:=HB1.out.trans (hb2.mono HB1.out.size)
 have h1:=(HO.out.below hb2).lsBl HN.out
 have h2:=hO2.lsBl HM.out
 obtain⟨A,c,rfl,-,-⟩:=h1.form
 obtain⟨B,d,rfl,-,-⟩:=h2.form
 have hln:=natL_len (n:=n)
 have hlm:=natL_len (n:=m)
 obtain⟨N,hN⟩:=zx ((natL n).length)
 obtain⟨M,hM⟩:=zx ((natL m).length)
 have hN1:N≤1:=by rw[hN];exact natL_length n
 have hM1:M≤1:=by rw[hM];exact natL_length m
 rw[←hN] at h1 hln ⊢
 rw[←hM] at h2 hlm ⊢
 have H1:=zh h1
 have H2:=zh h2
 clear hO2 hb2 h1 h2 HO HB1 HA HB HLB HR' hN hM
 by_cases hne:N=M
 ·subst hne
  have q0:((N:Int) != (N:Int))=false:=by simp
  have hsub:IntKind.i64.wrap ((N:Int) - 1)=(N:Int) - 1:=IntWalk.i64_in _ (by omega)
  go_wp2_with fail
  go_loopg [5] N (fun z v5 wr=>wr.heap.size=w3.heap.size∧Hid (Below w3.heap.size w3 wr)∧((z=0∧v5=.int .i64 (-1)∧n=m)∨(z=1∧v5=.int .i64 0∧0<n∧0<m)))
  case atStart =>
   refine⟨rfl,Below.refl _ _,?_⟩
   rcases Nat.lt_or_ge 0 N with h | h
   ·have e1:N=1:=by omega
    subst e1
    exact .inr ⟨rfl,rfl,hln.2.1 rfl,hlm.2.1 rfl⟩
   ·have e1:N=0:=by omega
    subst e1
    exact .inl ⟨rfl,rfl,by have:=hln.1.1 rfl;have:=hlm.1.1 rfl;omega⟩
  case round =>
   obtain⟨hs,hbr,h⟩:=hrel
   rcases h with ⟨rfl,rfl,he⟩ | ⟨rfl,rfl,h0,h0'⟩
   ·have HE:=zh he
    have HBR:=zh hbr
    clear he hbr
    go_wp2_with fail
    go_ret
    exact⟨ret_int (by unfold cmpI;rw[HE.out];simp),hb3.trans (HBR.out.out.mono hb3.size)⟩
   ·have hbr:=hbr.out
    have e1:N=1:=by
     have h3:=hln.2.2 h0
     omega
    subst e1
    obtain⟨b1,o1,rfl,hR1,hc1⟩:=H1.out.one h0
    obtain⟨b2,o2,rfl,hR2,hc2⟩:=H2.out.one h0'
    have k1:=(hbr.cell (p:=⟨b1,o1,none⟩) hR1).trans hc1
    have k2:=(hbr.cell (p:=⟨b2,o2,none⟩) hR2).trans hc2
    have HS:=zh hs
    have HBZ:=zh (hb3.trans (hbr.mono hb3.size))
    have HBR:=zh hbr
    have n0:(0:Int)<(n:Int):=by omega
    clear hc1 hc2 hR1 hR2 hln hlm hsub hN1 hs h0 h0' hb3 hbr
    by_cases hlt:n<m
    ·have q1:(n:Int)<(m:Int):=by omega
     have HE:=zh (show cmpI n m = -1 by unfold cmpI;rw[if_pos hlt])
     clear hlt
     go_wp2_with fail
     go_quiet (fail)
     go_wp2_with fail
     go_ret
     exact⟨ret_int HE.out.symm,Below.drewN' HBZ.out _⟩
    ·have q1:¬(n:Int)<(m:Int):=by omega
     by_cases hgt:m<n
     ·have q2:(m:Int)<(n:Int):=by omega
      have HE:=zh (show cmpI n m=1 by unfold cmpI;rw[if_neg hlt,if_pos hgt])
      clear hlt hgt
      go_wp2_with fail
      go_quiet (fail)
      go_wp2_with fail
      go_quiet (fail)
      go_wp2_with fail
      go_ret
      exact⟨ret_int HE.out.symm,Below.drewN' (Below.drewN' HBZ.out _) _⟩
     ·have q2:¬(m:Int)<(n:Int):=by omega
      have he:n=m:=by omega
      have HE:=zh he
      clear hlt hgt he
      go_wp2_with fail
      go_quiet (fail)
      go_wp2_with fail
      go_quiet (fail)
      go_wp2_with fail
      go_roundg 0
      case measure=>omega
      case rel=>exact⟨HS.out,Below.drewN' HBR.out _,.inl ⟨rfl,rfl,HE.out⟩⟩
 ·have q0:((N:Int) != (M:Int))=true:=by simp;omega
  by_cases hlt:N<M
  ·have e1:N=0:=by omega
   have e2:M=1:=by omega
   have HE:=zh (show cmpI n m = -1 by
    have h3:=hln.1.1 e1
    have h4:=hlm.2.1 e2
    unfold cmpI;rw[if_pos (by omega)])
   have q1:(N:Int)<(M:Int):=by omega
   clear hne hlt e1 e2
   go_wp2_with fail
   go_ret
   exact⟨ret_int HE.out.symm,hb3⟩
  ·have e1:M=0:=by omega
   have e2:N=1:=by omega
   have HE:=zh (show cmpI n m=1 by
    have h3:=hlm.1.1 e1
    have h4:=hln.2.1 e2
    unfold cmpI;rw[if_neg (by omega),if_pos (by omega)])
   have q1:¬(N:Int)<(M:Int):=by omega
   clear hne hlt e1 e2
   go_wp2_with fail
   go_ret
   exact⟨ret_int HE.out.symm,hb3⟩
theorem mk_u32s1:∀w:World,(Instr.makeSlice 53 (.int .i64 1) (.int .i64 1)).run Tryz.prog w=.ok (.slice (some ⟨w.heap.size,0,none⟩) 1 1) (w.alloc (.cells #[.int .u32 0] 234)):=by
 intro w
 obtain⟨i0,hi0,hz0,hz1,hz2⟩:=info_parts info_u32
 have h:=run_make (P:=Tryz.prog) w 53 234 i0 _ Tryz.underlying53 hi0 hz0 .i64 .i64 (1:Int) (1:Int) (by omega) (by omega) (by rw[hz2];decide) (by omega)
 rw[hz1] at h
 simpa[madeCells_one,Value.cells] using h
theorem LS.lt32{w:World} {R:Nat→Prop} {v:Value} {n:Nat} (h:LS w R v (natL n)):n<4294967296:=by
 by_cases h0:n=0
 ·omega
 ·exact h.2 n (by rw[natL_pos (by omega)];simp)
theorem LS.cell1(w:World) (g n:Nat) (hn:n<4294967296) (hg:w.heap[g]?=some (.cells #[.int .u32 (n:Int)] 234 (0,0))) (R:Nat→Prop) (hR:R g):LS w R (.slice (some ⟨g,0,none⟩) 1 1) [n]:=by
 refine⟨.inr ⟨g,0,1,rfl,Nat.le_refl _,by unfold maxLen;decide,hR,fun k x hk=>?_⟩,fun x hx=>by simp at hx;omega⟩
 rw[Nat.zero_add,cell_of_row _ _ _ _ _ _ hg]
 match k,hk with
 | 0,hk=>simp at hk;subst hk;rfl
theorem trim_one'(n:Nat):trimL [n]=natL n:=by
 by_cases h:n=0
 ·subst h;rfl
 ·rw[natL_pos (by omega)];simp[trimL,h]
theorem or_zero(n:Nat) (hn:n<4294967296):bits .or .u64 0 (n:Int)=(n:Int):=by
 show IntKind.u64.wrap ((BitVec.ofInt 64 0 ||| BitVec.ofInt 64 (n:Int)).toNat:Int)=_
 have e1:BitVec.ofInt 64 0=0#64:=rfl
 have e2:BitVec.ofInt 64 (n:Int)=BitVec.ofNat 64 n:=by simp
 rw[e1,e2,BitVec.zero_or,BitVec.toNat_ofNat,Nat.mod_eq_of_lt (by omega)]
 exact IntWalk.u64_in _ (by omega)
theorem quo_nat(n m:Nat) (hn:n<4294967296):IntKind.u64.wrap ((n:Int).tdiv (m:Int)) % 4294967296=((n / m:Nat):Int):=by
 have h1:(n:Int).tdiv (m:Int)=((n / m:Nat):Int):=by rw[Int.tdiv_eq_ediv_of_nonneg (by omega)];simp
 have h2:n / m≤n:=Nat.div_le_self n m
 rw[h1]
 have aux:∀q:Nat,q≤n→IntKind.u64.wrap (q:Int) % 4294967296=(q:Int):=fun q hq=>by
  have h3:IntKind.u64.wrap (q:Int)=(q:Int):=IntWalk.u64_in _ (by omega)
  rw[h3];omega
 exact aux _ h2
theorem rem_nat(n m:Nat):(n:Int).tmod (m:Int)=((n % m:Nat):Int):=by
 rw[Int.tmod_eq_emod_of_nonneg (by omega)];simp
theorem rdivide_any(va vb:Value) (n m:Nat) (R R':Nat→Prop) (w:World) (ha:LS w R va (natL n)) (hb:LS w R' vb (natL m)) (hR:∀b,R b→b<w.heap.size) (hR':∀b,R' b→b<w.heap.size) (hm:0<m) :
  Calls Tryz.prog 169 #[va,vb] w fun e w'=>∃q r,e=.returned (.tuple #[q,r])∧OwnL w' w.heap.size q (natL (n / m))∧OwnL w' w.heap.size r (natL (n % m))∧Below w.heap.size w w':=by
 have HC:=zh (rcmp_any va vb n m R R' w ha hb hR hR')
 have HA:=zh ha
 have HB:=zh hb
 have HT:=zh (fun w' h h2=>trim_any va (natL n) R w' h h2 (by have:=natL_length n;omega))
 have hn32:=ha.lt32
 have hm32:=hb.lt32
 have HR:=zh hR
 have HR':=zh hR'
 clear ha hb hR hR'
 go_enter Tryz.func169,Tryz.ntmps169
 go_wp2_with fail
 refine HC.out.mono ?_
 rintro e w2 ⟨rfl,hb1⟩
 have HB1:=zh hb1
 by_cases hlt:n<m
 ·have q1:cmpI n m = -1:=if_pos hlt
  rw[q1]
  have HD:=zh (show n / m=0∧n % m=n from⟨Nat.div_eq_of_lt hlt,Nat.mod_eq_of_lt hlt⟩)
  clear hb1 hlt q1
  go_wp2_with fail
  refine(HT.out _ (HA.out.keep (fun b hb=>HB1.out.block b (HR.out b hb))) (fun b hb=>Nat.lt_of_lt_of_le (HR.out b hb) HB1.out.size)).mono ?_
  rintro e w3 ⟨u,rfl,hO,hb2⟩
  rw[trim_natL] at hO
  have HO:=zh (hO.base HB1.out.size)
  have hbz:=HB1.out.trans (hb2.mono HB1.out.size)
  clear hO hb2
  go_wp2_with fail
  go_ret2
  exact⟨_,_,rfl,by rw[HD.out.1];exact OwnL.nil _ _,by rw[HD.out.2];exact HO.out,hbz⟩
 ·have hn:0<n:=by omega
  have hca:=(HA.out.keep (w':=w2) (fun b hb=>hb1.block b (HR.out b hb)))
  have hcb:=(HB.out.keep (w':=w2) (fun b hb=>hb1.block b (HR'.out b hb)))
  obtain⟨A,c,rfl,-,-⟩:=hca.form
  obtain⟨B,d,rfl,-,-⟩:=hcb.form
  have l1:(natL n).length=1:=by rw[natL_pos hn];rfl
  have l2:(natL m).length=1:=by rw[natL_pos hm];rfl
  rw[l1] at hca ⊢
  rw[l2] at hcb ⊢
  obtain⟨b1,o1,rfl,hR1,hc1⟩:=hca.one hn
  obtain⟨b2,o2,rfl,hR2,hc2⟩:=hcb.one hm
  have hb1l:b1<w2.heap.size:=Nat.lt_of_lt_of_le (HR.out _ hR1) hb1.size
  have hb2l:b2<w2.heap.size:=Nat.lt_of_lt_of_le (HR'.out _ hR2) hb1.size
  have hmk:=mk_u32s1
  obtain⟨W3,hW3⟩:=zx (w2.alloc (.cells #[.int .u32 0] 234))
  obtain⟨g,hg⟩:=zx w2.heap.size
  have k1:W3.cell? ⟨b1,o1,none⟩=some (.int .u32 (n:Int)):=by rw[hW3];exact(((Below.refl _ _).alloc (Nat.le_refl _) _).cell (p:=⟨b1,o1,none⟩) hb1l).trans hc1
  have k2:W3.cell? ⟨b2,o2,none⟩=some (.int .u32 (m:Int)):=by rw[hW3];exact(((Below.refl _ _).alloc (Nat.le_refl _) _).cell (p:=⟨b2,o2,none⟩) hb2l).trans hc2
  have hg3:W3.heap[g]?=some (.cells #[.int .u32 0] 234 (0,0)):=by rw[hW3,hg];exact heap_alloc_new _ _
  have kg:W3.cell? ⟨g,0,none⟩=some (.int .u32 0):=by rw[cell_of_row _ _ _ _ _ _ hg3];rfl
  have kf:W3.frozen? ⟨g,0,none⟩=false:=frozen_of_row _ _ _ _ _ hg3
  have hb3:Below w.heap.size w W3:=by rw[hW3];exact hb1.alloc hb1.size _
  have e1:b1≠g:=by omega
  have e2:b2≠g:=by omega
  have e3:g≠b2:=by omega
  have HG3:=zh hg3
  have HW3:=zh hW3
  have HG:=zh hg
  have HB3:=zh hb3
  have q1:¬cmpI n m<0:=by unfold cmpI;rw[if_neg hlt];split <;> omega
  obtain⟨C,hC⟩:=zx (cmpI n m)
  rw[←hC] at q1 ⊢
  have HNM:=zh hlt
  have n0:(0:Int)≤(n:Int):=by omega
  have n1:(n:Int)≤4294967295:=by omega
  have m0:(0:Int)<(m:Int):=by omega
  have m1:(m:Int)≤4294967295:=by omega
  clear hca hcb l1 l2 hc1 hc2 hW3 hg hg3 hb3 hb1 hC hlt hR1 hR2
  go_upto_region 5 with fail
  rw[←HW3.out,←HG.out]
  clear hmk
  go_wp2_with fail
  go_loopg [7,8] 1 (fun z v7 v8 wr=>(z=1∧v7=.int .u64 0∧v8=.int .i64 0∧W3=wr)∨(z=0∧v7=.int .u64 ((n % m:Nat):Int)∧v8=.int .i64 (-1)∧Hid (wr.heap[g]?=some (.cells #[.int .u32 ((n / m:Nat):Int)] 234 (0,0)))∧Hid (Below w.heap.size w wr)))
  case atStart=>exact .inl ⟨rfl,rfl,rfl,rfl⟩
  case round =>
   rcases hrel with ⟨rfl,rfl,rfl,rfl⟩ | ⟨rfl,rfl,rfl,hgc,hbr⟩
   ·have hor:=or_zero n hn32
    have hqu:=quo_nat n m hn32
    have hre:=rem_nat n m
    go_wp2_with fail
    go_roundg 0
    case measure=>omega
    case rel=>exact .inr ⟨rfl,rfl,rfl,heap_setCell_same W3 g 0 _ _ _ HG3.out,HB3.out.setCell (by show w.heap.size≤g;rw[HG.out];exact HB1.out.size) _⟩
   ·clear k1 k2 kg kf
    have hsz:W3.heap.size=W3.heap.size:=rfl
    have HGC:=zh hgc
    have HBR:=zh hbr
    have hgl:g<wr.heap.size:=(Array.getElem?_eq_some_iff.1 hgc.out).1
    clear hgc hbr
    go_wp2_with fail
    refine(trim_any _ [n / m] (Bl wr.heap.size) _ (LS.cell1 wr g (n / m) (Nat.lt_of_le_of_lt (Nat.div_le_self n m) hn32) HGC.out.out _ hgl) (fun b hb=>hb) (by simp)).mono ?_
    rintro e w4 ⟨u,rfl,hO,hb4⟩
    rw[trim_one'] at hO
    have HO:=zh hO
    have HB4:=zh hb4
    clear hO hb4
    go_wp2_with fail
    refine(rmake_any (n % m) _ (Nat.lt_trans (Nat.mod_lt _ hm) hm32)).mono ?_
    rintro e w5 ⟨u5,rfl,hO5,hb5⟩
    have HO5:=zh hO5
    have hbr:=HBR.out.out
    have hO4:=(HO.out.below hb5).base (B':=w.heap.size) hbr.size
    have hb45:=HB4.out.trans (hb5.mono HB4.out.size)
    have hbz:=hbr.trans (hb45.mono hbr.size)
    have HO4:=zh hO4
    have HBZ:=zh hbz
    have hs4:w.heap.size≤w4.heap.size:=Nat.le_trans hbr.size HB4.out.size
    clear hO5 hO4 hbz hb5 hb45 hbr
    go_wp2_with fail
    go_ret2
    exact⟨_,_,rfl,HO4.out,HO5.out.base hs4,HBZ.out⟩
theorem rdiv_any(va vb:Value) (n m:Nat) (w:World) (ha:LS w (Bl w.heap.size) va (natL n)) (hb:LS w (Bl w.heap.size) vb (natL m)) (hm:0<m) :
  Calls Tryz.prog 113 #[va,vb] w fun e w'=>∃q r,e=.returned (.tuple #[q,r,.int .i64 0])∧OwnL w' w.heap.size q (natL (n / m))∧OwnL w' w.heap.size r (natL (n % m))∧Below w.heap.size w w':=by
 have hn1:=natL_length n
 have hm1:=natL_length m
 have hn32:=ha.2
 have hm32:=hb.2
 have HA:=zh ha
 have HB:=zh hb
 have H1:=zh hn1
 have H2:=zh hm1
 have H3:=zh hn32
 have H4:=zh hm32
 have hml:¬(natL m).length=0:=by rw[natL_pos hm];simp
 have HML:=zh hml
 clear ha hb hn1 hm1 hn32 hm32 hml
 go_enter Tryz.func113,Tryz.ntmps113
 go_wp2_with fail
 refine(rlarge_any va _ _ _ HA.out (fun b h=>h) (Nat.le_trans H1.out (by omega))).mono ?_
 rintro e w1 ⟨rfl,hb1⟩
 have HA1:=zh (HA.out.below hb1)
 have HB1:=zh (HB.out.below hb1)
 have HC1:=zh hb1
 clear hb1
 go_wp2_with fail
 refine(rlarge_any vb _ _ _ HB1.out (fun b h=>h) (Nat.le_trans H2.out (by omega))).mono ?_
 rintro e w2 ⟨rfl,hb2⟩
 have HA2:=zh (HA1.out.below hb2)
 have HB2:=zh (HB1.out.below hb2)
 have HC2:=zh (HC1.out.trans (hb2.mono HC1.out.size))
 clear hb2
 go_wp2_with fail
 refine(trim_any vb _ _ _ HB2.out (fun b h=>h) (Nat.le_trans H2.out (by omega))).mono ?_
 rintro e w3 ⟨u3,rfl,hO3,hb3⟩
 rw[trim_natL] at hO3
 obtain⟨A3,c3,rfl⟩:=own_form hO3
 have HA3:=zh (HA2.out.below hb3)
 have HB3:=zh (HB2.out.below hb3)
 have HC3:=zh (HC2.out.trans (hb3.mono HC2.out.size))
 obtain⟨M,hM⟩:=zx ((natL m).length)
 have hM0:((M:Int)==0)=false:=by rw[beq_eq_false_iff_ne];have:=HML.out;omega
 rw[←hM]
 clear hb3 hO3 hM
 go_wp2_with fail
 refine(trim_any va _ _ _ HA3.out (fun b h=>h) (Nat.le_trans H1.out (by omega))).mono ?_
 rintro e w4 ⟨u4,rfl,hO4,hb4⟩
 rw[trim_natL] at hO4
 have HO4:=zh hO4
 have HB4:=zh (HB3.out.below hb4)
 have HC4:=zh (HC3.out.trans (hb4.mono HC3.out.size))
 clear hb4 hO4
 go_wp2_with fail
 refine(trim_any vb _ _ _ HB4.out (fun b h=>h) (Nat.le_trans H2.out (by omega))).mono ?_
 rintro e w5 ⟨u5,rfl,hO5,hb5⟩
 rw[trim_natL] at hO5
 have HO5:=zh hO5
 have HO45:=zh (HO4.out.below hb5)
 have HC5:=zh (HC4.out.trans (hb5.mono HC4.out.size))
 clear hb5 hO5
 go_wp2_with fail
 refine(rdivide_any u4 u5 n m _ _ _ (HO45.out.lsBl H3.out) (HO5.out.lsBl H4.out) (fun b h=>h) (fun b h=>h) hm).mono ?_
 rintro e w6 ⟨q,r,rfl,hq,hr,hb6⟩
 have HQ:=zh (hq.base HC5.out.size)
 have HR:=zh (hr.base HC5.out.size)
 have HC6:=zh (HC5.out.trans (hb6.mono HC5.out.size))
 clear hq hr hb6
 go_wp2_with fail
 go_ret3
 exact⟨q,r,rfl,HQ.out,HR.out,HC6.out⟩
theorem rgcd_any(va vb:Value) (n m:Nat) (w:World) (ha:LS w (Bl w.heap.size) va (natL n)) (hb:LS w (Bl w.heap.size) vb (natL m)) :
  Calls Tryz.prog 112 #[va,vb] w fun e w'=>∃g,e=.returned (.tuple #[g,.int .i64 0])∧OwnL w' w.heap.size g (natL (Nat.gcd n m))∧Below w.heap.size w w':=by
 have hn1:=natL_length n
 have hm1:=natL_length m
 have hn32:=ha.lt32
 have hm32:=hb.lt32
 have HA:=zh ha
 have HB:=zh hb
 have H1:=zh hn1
 have H2:=zh hm1
 have H3:=zh hn32
 have H4:=zh hm32
 clear ha hb hn1 hm1 hn32 hm32
 go_enter Tryz.func112,Tryz.ntmps112
 go_wp2_with fail
 refine(rlarge_any va _ _ _ HA.out (fun b h=>h) (Nat.le_trans H1.out (by omega))).mono ?_
 rintro e w1 ⟨rfl,hb1⟩
 have HA1:=zh (HA.out.below hb1)
 have HB1:=zh (HB.out.below hb1)
 have HC1:=zh hb1
 clear hb1
 go_wp2_with fail
 refine(rlarge_any vb _ _ _ HB1.out (fun b h=>h) (Nat.le_trans H2.out (by omega))).mono ?_
 rintro e w2 ⟨rfl,hb2⟩
 have HA2:=zh (HA1.out.below hb2)
 have HB2:=zh (HB1.out.below hb2)
 have HC2:=zh (HC1.out.trans (hb2.mono HC1.out.size))
 clear hb2
 go_wp2_with fail
 refine(trim_any va _ _ _ HA2.out (fun b h=>h) (Nat.le_trans H1.out (by omega))).mono ?_
 rintro e w4 ⟨u4,rfl,hO4,hb4⟩
 rw[trim_natL] at hO4
 have HO4:=zh hO4
 have HB4:=zh (HB2.out.below hb4)
 have HC4:=zh (HC2.out.trans (hb4.mono HC2.out.size))
 clear hb4 hO4
 go_wp2_with fail
 refine(trim_any vb _ _ _ HB4.out (fun b h=>h) (Nat.le_trans H2.out (by omega))).mono ?_
 rintro e w5 ⟨u5,rfl,hO5,hb5⟩
 rw[trim_natL] at hO5
 have hO45:=(HO4.out.below hb5).base (B':=w.heap.size) HC2.out.size
 have hO55:=hO5.base (B':=w.heap.size) HC4.out.size
 have HO45:=zh hO45
 have HO5:=zh hO55
 have HC5:=zh (HC4.out.trans (hb5.mono HC4.out.size))
 clear hb5 hO5 hO45 hO55
 go_wp2_with fail
 go_loopg [6,7] m (fun z v6 v7 wr=>Hid (∃x,Nat.gcd x z=Nat.gcd n m∧x<4294967296∧z<4294967296∧OwnL wr w.heap.size v6 (natL x)∧OwnL wr w.heap.size v7 (natL z))∧Hid (Below w.heap.size w wr))
 case atStart=>exact⟨⟨n,rfl,H3.out,H4.out,HO45.out,HO5.out⟩,HC5.out⟩
 case round =>
  obtain⟨hx,hbr⟩:=hrel
  obtain⟨x,hgx,hx32,hz32,hox,hoz⟩:=hx.out
  have HX:=zh hox
  have HZ:=zh hoz
  have HGX:=zh hgx
  obtain⟨A6,c6,rfl⟩:=own_form hox
  obtain⟨A7,c7,rfl⟩:=own_form hoz
  have HBR:=zh hbr.out
  have hlz:=natL_len (n:=gk)
  have hsz:=hbr.out.size
  have LX:=zh (hox.lsBl (natL_mem hx32))
  have LZ:=zh (hoz.lsBl (natL_mem hz32))
  by_cases h0:gk=0
  ·have hl0:(natL gk).length=0:=hlz.1.2 h0
   have HE:=zh (show x=Nat.gcd n m by rw[←hgx,h0];simp)
   rw[hl0]
   clear hx hox hoz hgx hlz hl0 h0 hbr
   go_wp2_with fail
   go_ret2
   exact⟨_,rfl,by rw[←HE.out];exact HX.out,HBR.out⟩
  ·have hl1:(natL gk).length=1:=hlz.2.2 (by omega)
   have HM:=zh (Nat.mod_lt x (show 0<gk by omega))
   have HG:=zh (show Nat.gcd gk (x % gk)=Nat.gcd n m by rw[←hgx,Nat.gcd_comm x gk,Nat.gcd_rec gk x,Nat.gcd_comm gk (x % gk)])
   have HZ0:=zh (show 0<gk by omega)
   rw[hl1] at LZ HZ ⊢
   clear hx hox hoz hgx hlz hl1 h0 hbr
   go_wp2_with fail
   refine(rdivide_any _ _ x gk _ _ _ LX.out LZ.out (fun b h=>h) (fun b h=>h) HZ0.out).mono ?_
   rintro e w6 ⟨q,r,rfl,hq,hr,hb6⟩
   have HQ:=zh (hr.base hsz)
   have HZ6:=zh (HZ.out.below hb6)
   have HC6:=zh (HBR.out.trans (hb6.mono HBR.out.size))
   clear hq hr hb6
   go_wp2_with fail
   go_roundg (x % gk)
   case measure=>exact HM.out
   case rel=>exact⟨⟨gk,HG.out,hz32,Nat.lt_trans HM.out hz32,HZ6.out,HQ.out⟩,HC6.out⟩
structure Frc where
 neg:Bool
 num:Nat
 den:Nat
def FrcS(w:World) (R:Nat→Prop) (v:Value) (x:Frc):Prop:=∃vn vd,v=.agg #[.bool x.neg,vn,vd]∧LS w R vn (natL x.num)∧LS w R vd (natL x.den)
def lowF(neg:Bool) (n m:Nat):Frc:=if n=0 then⟨false,0,1⟩ else⟨neg,n / Nat.gcd n m,m / Nat.gcd n m⟩
theorem cells3{W:World} {g:Nat} {a b c:Value} {t:TypeId} (h:W.heap[g]?=some (.cells #[a,b,c] t (0,0))):W.cell? ⟨g,0,none⟩=some a∧W.cell? ⟨g,1,none⟩=some b∧W.cell? ⟨g,2,none⟩=some c∧W.frozen? ⟨g,0,none⟩=false∧W.frozen? ⟨g,1,none⟩=false∧W.frozen? ⟨g,2,none⟩=false :=
 ⟨by rw[cell_of_row _ _ _ _ _ _ h];rfl,by rw[cell_of_row _ _ _ _ _ _ h];rfl,by rw[cell_of_row _ _ _ _ _ _ h];rfl,frozen_of_row _ _ _ _ _ h,frozen_of_row _ _ _ _ _ h,frozen_of_row _ _ _ _ _ h⟩
theorem store3{w:World} {g:Nat} {a b c x y z:Value} {t:TypeId} (h:w.heap[g]?=some (.cells #[a,b,c] t (0,0))):(((w.setCell ⟨g,0,none⟩ x).setCell ⟨g,1,none⟩ y).setCell ⟨g,2,none⟩ z).heap[g]?=some (.cells #[x,y,z] t (0,0)) :=
 heap_setCell_same _ g 2 _ _ z (heap_setCell_same _ g 1 _ _ y (heap_setCell_same _ g 0 _ _ x h))
theorem below_set3{B:Nat} {a w:World} (h:Below B a w) {g:Nat} (hg:B≤g) (x y z:Value):Below B a (((w.setCell ⟨g,0,none⟩ x).setCell ⟨g,1,none⟩ y).setCell ⟨g,2,none⟩ z) :=
 ((h.setCell (p:=⟨g,0,none⟩) hg x).setCell (p:=⟨g,1,none⟩) hg y).setCell (p:=⟨g,2,none⟩) hg z
theorem kept_set3(w:World) (g:Nat) (x y z:Value) (R:Nat→Prop) (hR:∀b,R b→b≠g):Kept R w (((w.setCell ⟨g,0,none⟩ x).setCell ⟨g,1,none⟩ y).setCell ⟨g,2,none⟩ z):=fun b hb =>
 ((Below.heap_setCell _ ⟨g,2,none⟩ z b (hR b hb)).trans (Below.heap_setCell _ ⟨g,1,none⟩ y b (hR b hb))).trans (Below.heap_setCell _ ⟨g,0,none⟩ x b (hR b hb))
theorem rlowest_any(neg:Bool) (va vb:Value) (n m:Nat) (w:World) (ha:LS w (Bl w.heap.size) va (natL n)) (hb:LS w (Bl w.heap.size) vb (natL m)) (hm:0<m) :
  Calls Tryz.prog 55 #[.bool neg,va,vb] w fun e w'=>∃v,e=.returned v∧FrcS w' (Fr w.heap.size w'.heap.size) v (lowF neg n m)∧Below w.heap.size w w':=by
 have hn1:=natL_length n
 have hm1:=natL_length m
 have hn32:=ha.lt32
 have hm32:=hb.lt32
 obtain⟨W0,hW0⟩:=zx (w.alloc (.cells #[.bool false,.slice none 0 0,.slice none 0 0] 55))
 obtain⟨g,hg⟩:=zx w.heap.size
 have hbk:W0.heap[g]?=some (.cells #[.bool false,.slice none 0 0,.slice none 0 0] 55 (0,0)):=by rw[hW0,hg];exact heap_alloc_new _ _
 have hb0:Below w.heap.size w W0:=by rw[hW0];exact(Below.refl _ _).alloc (Nat.le_refl _) _
 have hgl:g<W0.heap.size:=by rw[hW0,hg];simp
 have HA:=zh (ha.below hb0)
 have HB:=zh (hb.below hb0)
 have H1:=zh hn1
 have H2:=zh hm1
 have H3:=zh hn32
 have H4:=zh hm32
 have HW0:=zh hW0
 have HG:=zh hg
 have HBK:=zh hbk
 have HB0:=zh hb0
 clear ha hb hn1 hm1 hn32 hm32 hW0 hg hbk hb0
 go_enter Tryz.func55,Tryz.ntmps55
 go_wp2_with fail
 rw[←HW0.out,←HG.out]
 refine(trim_any va _ _ _ HA.out (fun b h=>h) (Nat.le_trans H1.out (by omega))).mono ?_
 rintro e w1 ⟨u1,rfl,hO1,hb1⟩
 rw[trim_natL] at hO1
 have HO1:=zh hO1
 have HB1:=zh (HB.out.below hb1)
 have HC1:=zh hb1
 clear hO1 hb1
 go_wp2_with fail
 refine(trim_any vb _ _ _ HB1.out (fun b h=>h) (Nat.le_trans H2.out (by omega))).mono ?_
 rintro e w2 ⟨u2,rfl,hO2,hb2⟩
 rw[trim_natL] at hO2
 have hO1b:=(HO1.out.below hb2)
 have hc2:=HC1.out.trans (hb2.mono HC1.out.size)
 have HO1:=zh hO1b
 have HO2:=zh (hO2.base (B':=W0.heap.size) HC1.out.size)
 obtain⟨Au,Lu,cu,rfl⟩:∃A l c,u2=.slice A l c:=by obtain⟨A,c,e⟩:=own_form HO2.out;exact⟨A,_,c,e⟩
 have HC2:=zh hc2
 have hln:=natL_len (n:=n)
 obtain⟨A1,c1,rfl⟩:=own_form hO1b
 by_cases h0:n=0
 ·have hl0:(natL n).length=0:=hln.1.2 h0
  rw[hl0]
  have hk:=(hc2.block g hgl).trans HBK.out
  obtain⟨k0,k1,k2,f0,f1,f2⟩:=cells3 hk
  have hgl2:g<w2.heap.size:=Nat.lt_of_lt_of_le hgl hc2.size
  have hgn:g≠w2.heap.size:=by omega
  have hgn':w2.heap.size≠g:=by omega
  clear hO1b hO2 hb2 hc2 hln hl0
  go_wp2_with fail
  have hlo:lowF neg n m=⟨false,0,1⟩:=if_pos h0
  rw[hlo]
  have h1:=HB0.out.trans (HC2.out.mono HB0.out.size)
  have h2:=h1.size
  have hgw:w.heap.size≤g:=by rw[HG.out];exact Nat.le_refl _
  have hbf:=(below_set3 h1 hgw (.bool false) (.slice none 0 0) (.slice (some ⟨w2.heap.size,0,none⟩) 1 1)).alloc (by simpa using h2) (.cells #[.int .u32 1] 234)
  have hfin:=(Below.heap_alloc _ (.cells #[.int .u32 1] 234) g (by simpa using hgl2)).trans (store3 (x:=.bool false) (y:=.slice none 0 0) (z:=.slice (some ⟨w2.heap.size,0,none⟩) 1 1) hk)
  have hnew:=heap_alloc_at (((w2.setCell ⟨g,0,none⟩ (.bool false)).setCell ⟨g,1,none⟩ (.slice none 0 0)).setCell ⟨g,2,none⟩ (.slice (some ⟨w2.heap.size,0,none⟩) 1 1)) (.cells #[.int .u32 1] 234) w2.heap.size (by simp)
  have hsz:w2.heap.size<((((w2.setCell ⟨g,0,none⟩ (.bool false)).setCell ⟨g,1,none⟩ (.slice none 0 0)).setCell ⟨g,2,none⟩ (.slice (some ⟨w2.heap.size,0,none⟩) 1 1)).alloc (.cells #[.int .u32 1] 234)).heap.size:=by simp
  obtain⟨Wf,hWf⟩:=zx ((((w2.setCell ⟨g,0,none⟩ (.bool false)).setCell ⟨g,1,none⟩ (.slice none 0 0)).setCell ⟨g,2,none⟩ (.slice (some ⟨w2.heap.size,0,none⟩) 1 1)).alloc (.cells #[.int .u32 1] 234))
  rw[←hWf] at hbf hfin hnew hsz ⊢
  obtain⟨x0,x1,x2,-,-,-⟩:=cells3 hfin
  clear k0 k1 k2 f0 f1 f2
  exact bodyPost_ret (v:=.agg #[.bool false,.slice none 0 0,.slice (some ⟨w2.heap.size,0,none⟩) 1 1]) (by simp[results,Tryz.results55,go_sem,x0,x1,x2]) rfl ⟨_,rfl,⟨_,_,rfl,LS.nil _ _,LS.cell1 _ w2.heap.size 1 (by omega) hnew _ ⟨h2,hsz⟩⟩,hbf⟩
 ·have hl1:(natL n).length=1:=hln.2.2 (by omega)
  have LX:=zh (hO1b.lsBl (natL_mem H3.out))
  have LY:=zh (HO2.out.lsBl (natL_mem H4.out))
  have HL1:=zh hl1
  rw[hl1] at LX HO1 ⊢
  have hG0:0<Nat.gcd n m:=Nat.gcd_pos_of_pos_right n hm
  have hG1:Nat.gcd n m≤m:=Nat.gcd_le_right n hm
  have HC2:=zh hc2
  have hne:=zh h0
  clear hO1b hO2 hb2 hc2 hln hl1 h0
  go_wp2_with fail
  refine(rgcd_any _ (.slice Au Lu cu) n m _ LX.out LY.out).mono ?_
  rintro e w3 ⟨vg,rfl,hog,hb3⟩
  have hc3:=HC2.out.trans (hb3.mono HC2.out.size)
  have hlg:=natL_len (n:=Nat.gcd n m)
  have hg32:Nat.gcd n m<4294967296:=Nat.lt_of_le_of_lt hG1 H4.out
  obtain⟨G,hGd⟩:=zx (Nat.gcd n m)
  rw[←hGd] at hog hlg hg32 hG0 hG1
  have hGl:(natL G).length=1:=hlg.2.2 hG0
  have LGv:=hog.lsBl (natL_mem hg32)
  obtain⟨Ag,cg,rfl⟩:=own_form hog
  rw[hGl] at LGv ⊢
  obtain⟨bg,og,rfl,hRg,hcg⟩:=LGv.one hG0
  have LG:=zh LGv
  have HO13:=zh (HO1.out.below hb3)
  have HO23:=zh (HO2.out.below hb3)
  have HC3:=zh hc3
  have HGD:=zh hGd
  have hg0:(0:Int)<(G:Int):=by omega
  clear hog hlg hGl LGv hb3 hGd
  by_cases h1:1<G
  ·have q1:(1:Int)<(G:Int):=by omega
   have HDV:=zh (show n / G≤n∧m / G≤m from⟨Nat.div_le_self _ _,Nat.div_le_self _ _⟩)
   have HG0:=zh hG0
   clear hc3 h1
   go_wp2_with fail
   refine(rdiv_any _ _ n G _ (HO13.out.lsBl (natL_mem H3.out)) LG.out HG0.out).mono ?_
   rintro e w4 ⟨vn,r4,rfl,hn4,-,hb4⟩
   obtain⟨An,Ln,cn,rfl⟩:∃A l c,vn=.slice A l c:=by obtain⟨A,c,e⟩:=own_form hn4;exact⟨A,_,c,e⟩
   have hc4:=HC3.out.trans (hb4.mono HC3.out.size)
   have HN4:=zh hn4
   have HO24:=zh (HO23.out.below hb4)
   have LG4:=zh (LG.out.below hb4)
   have HC4:=zh hc4
   clear hn4 hb4 hc4 hcg
   go_wp2_with fail
   refine(rdiv_any _ _ m G _ (HO24.out.lsBl (natL_mem H4.out)) LG4.out HG0.out).mono ?_
   rintro e wf ⟨vd,r5,rfl,hd5,-,hb5⟩
   obtain⟨Ad,Ld,cd,rfl⟩:∃A l c,vd=.slice A l c:=by obtain⟨A,c,e⟩:=own_form hd5;exact⟨A,_,c,e⟩
   have hcf:=HC4.out.trans (hb5.mono HC4.out.size)
   have hk:=(hcf.block g hgl).trans HBK.out
   obtain⟨k0,k1,k2,f0,f1,f2⟩:=cells3 hk
   have HCF:=zh (HB0.out.trans (hcf.mono HB0.out.size))
   have HLN:=zh (((HN4.out.below hb5).base (B':=W0.heap.size) HC3.out.size).ls (natL_mem (Nat.lt_of_le_of_lt HDV.out.1 H3.out)))
   have HLD:=zh ((hd5.base (B':=W0.heap.size) HC4.out.size).ls (natL_mem (Nat.lt_of_le_of_lt HDV.out.2 H4.out)))
   have HLO:=zh (show lowF neg n m=⟨neg,n / G,m / G⟩ by unfold lowF;rw[if_neg hne.out,HGD.out])
   clear hd5 hb5 hcf
   have hgw:w.heap.size≤g:=by rw[HG.out];exact Nat.le_refl _
   go_wp2_with fail
   have hbf:=below_set3 HCF.out hgw (.bool neg) (.slice An Ln cn) (.slice Ad Ld cd)
   have hfin:=store3 (x:=.bool neg) (y:=(.slice An Ln cn)) (z:=(.slice Ad Ld cd)) hk
   have hln:=(HLN.out.keep (kept_set3 wf g (.bool neg) (.slice An Ln cn) (.slice Ad Ld cd) (Fr W0.heap.size wf.heap.size) (fun b hb e=>by have:=hb.1;omega))).mono (R':=Fr w.heap.size wf.heap.size) (fun b hb=>⟨Nat.le_trans HB0.out.size hb.1,hb.2⟩)
   have hld:=(HLD.out.keep (kept_set3 wf g (.bool neg) (.slice An Ln cn) (.slice Ad Ld cd) (Fr W0.heap.size wf.heap.size) (fun b hb e=>by have:=hb.1;omega))).mono (R':=Fr w.heap.size wf.heap.size) (fun b hb=>⟨Nat.le_trans HB0.out.size hb.1,hb.2⟩)
   have hsz:wf.heap.size=(((wf.setCell ⟨g,0,none⟩ (.bool neg)).setCell ⟨g,1,none⟩ (.slice An Ln cn)).setCell ⟨g,2,none⟩ (.slice Ad Ld cd)).heap.size:=by simp
   rw[hsz] at hln hld
   obtain⟨Wf,hWf⟩:=zx (((wf.setCell ⟨g,0,none⟩ (.bool neg)).setCell ⟨g,1,none⟩ (.slice An Ln cn)).setCell ⟨g,2,none⟩ (.slice Ad Ld cd))
   rw[←hWf] at hbf hfin hln hld ⊢
   obtain⟨x0,x1,x2,-,-,-⟩:=cells3 hfin
   clear k0 k1 k2 f0 f1 f2
   exact bodyPost_ret (v:=.agg #[.bool neg,(.slice An Ln cn),(.slice Ad Ld cd)]) (by simp[results,Tryz.results55,go_sem,x0,x1,x2]) rfl ⟨_,rfl,by rw[HLO.out];exact⟨_,_,rfl,hln,hld⟩,hbf⟩
  ·have q1:¬(1:Int)<(G:Int):=by omega
   have hG:G=1:=by omega
   have hk:=(hc3.block g hgl).trans HBK.out
   obtain⟨k0,k1,k2,f0,f1,f2⟩:=cells3 hk
   obtain⟨wf,hwf⟩:=zx w3
   have HCF:=zh (show Below w.heap.size w wf by rw[hwf];exact HB0.out.trans (hc3.mono HB0.out.size))
   have HLN:=zh (show LS wf (Fr W0.heap.size wf.heap.size) (.slice A1 1 c1) (natL n) by rw[hwf];exact HO13.out.ls (natL_mem H3.out))
   have HLD:=zh (show LS wf (Fr W0.heap.size wf.heap.size) (.slice Au Lu cu) (natL m) by rw[hwf];exact HO23.out.ls (natL_mem H4.out))
   have HLO:=zh (show lowF neg n m=⟨neg,n,m⟩ by unfold lowF;rw[if_neg hne.out,←HGD.out,hG,Nat.div_one,Nat.div_one])
   rw[←hwf] at hk k0 k1 k2 f0 f1 f2 hcg ⊢
   clear hc3 h1 hG hwf
   have hgw:w.heap.size≤g:=by rw[HG.out];exact Nat.le_refl _
   go_wp2_with fail
   have hbf:=below_set3 HCF.out hgw (.bool neg) (.slice A1 1 c1) (.slice Au Lu cu)
   have hfin:=store3 (x:=.bool neg) (y:=(.slice A1 1 c1)) (z:=(.slice Au Lu cu)) hk
   have hln:=(HLN.out.keep (kept_set3 wf g (.bool neg) (.slice A1 1 c1) (.slice Au Lu cu) (Fr W0.heap.size wf.heap.size) (fun b hb e=>by have:=hb.1;omega))).mono (R':=Fr w.heap.size wf.heap.size) (fun b hb=>⟨Nat.le_trans HB0.out.size hb.1,hb.2⟩)
   have hld:=(HLD.out.keep (kept_set3 wf g (.bool neg) (.slice A1 1 c1) (.slice Au Lu cu) (Fr W0.heap.size wf.heap.size) (fun b hb e=>by have:=hb.1;omega))).mono (R':=Fr w.heap.size wf.heap.size) (fun b hb=>⟨Nat.le_trans HB0.out.size hb.1,hb.2⟩)
   have hsz:wf.heap.size=(((wf.setCell ⟨g,0,none⟩ (.bool neg)).setCell ⟨g,1,none⟩ (.slice A1 1 c1)).setCell ⟨g,2,none⟩ (.slice Au Lu cu)).heap.size:=by simp
   rw[hsz] at hln hld
   obtain⟨Wf,hWf⟩:=zx (((wf.setCell ⟨g,0,none⟩ (.bool neg)).setCell ⟨g,1,none⟩ (.slice A1 1 c1)).setCell ⟨g,2,none⟩ (.slice Au Lu cu))
   rw[←hWf] at hbf hfin hln hld ⊢
   obtain⟨x0,x1,x2,-,-,-⟩:=cells3 hfin
   clear k0 k1 k2 f0 f1 f2
   exact bodyPost_ret (v:=.agg #[.bool neg,(.slice A1 1 c1),(.slice Au Lu cu)]) (by simp[results,Tryz.results55,go_sem,x0,x1,x2]) rfl ⟨_,rfl,by rw[HLO.out];exact⟨_,_,rfl,hln,hld⟩,hbf⟩
theorem rsize_any(n:Nat) (w:World) (hn:n<4294967296) :
  Calls Tryz.prog 57 #[.int .i64 (n:Int)] w fun e w'=>e=.returned (.int .u64 (n:Int))∧w=w':=by
 have q:¬(n:Int)<0:=by omega
 have hw:IntKind.u64.wrap (n:Int)=(n:Int):=IntWalk.u64_in _ (by omega)
 have HW:=zh hw
 clear hn hw
 go_enter Tryz.func57,Tryz.ntmps57
 go_wp2
 go_ret
 exact⟨ret_int HW.out,rfl⟩
theorem rfrac_any(n m:Nat) (w:World) (hn:n<4294967296) (hm:m<4294967296) (h0:0<m) :
  Calls Tryz.prog 22 #[.int .i64 (n:Int),.int .i64 (m:Int)] w fun e w'=>∃v,e=.returned (.tuple #[v,.int .i64 0])∧FrcS w' (Fr w.heap.size w'.heap.size) v (lowF false n m)∧Below w.heap.size w w':=by
 obtain⟨W0,hW0⟩:=zx (w.alloc (.cells #[.bool false,.slice none 0 0,.slice none 0 0] 55))
 obtain⟨g,hg⟩:=zx w.heap.size
 have hbk:W0.heap[g]?=some (.cells #[.bool false,.slice none 0 0,.slice none 0 0] 55 (0,0)):=by rw[hW0,hg];exact heap_alloc_new _ _
 have hb0:Below w.heap.size w W0:=by rw[hW0];exact(Below.refl _ _).alloc (Nat.le_refl _) _
 have hgl:g<W0.heap.size:=by rw[hW0,hg];simp
 have HW0:=zh hW0
 have HG:=zh hg
 have HBK:=zh hbk
 have HB0:=zh hb0
 have q0:((m:Int)==0)=false:=by rw[beq_eq_false_iff_ne];omega
 have q1:¬(n:Int)<0:=by omega
 have q2:¬(m:Int)<0:=by omega
 have HN:=zh hn
 have HM:=zh hm
 have H0:=zh h0
 clear hW0 hg hbk hb0 hn hm h0
 go_enter Tryz.func22,Tryz.ntmps22
 go_wp2_with fail
 rw[←HW0.out,←HG.out]
 refine(rsize_any n _ HN.out).mono ?_
 rintro e w1 ⟨rfl,rfl⟩
 go_wp2_with fail
 refine(rmake_any n _ HN.out).mono ?_
 rintro e w1 ⟨u1,rfl,ho1,hb1⟩
 have HO1:=zh ho1
 have HB1:=zh hb1
 clear ho1 hb1
 go_wp2_with fail
 refine(rsize_any m _ HM.out).mono ?_
 rintro e w2 ⟨rfl,rfl⟩
 go_wp2_with fail
 refine(rmake_any m _ HM.out).mono ?_
 rintro e w2 ⟨u2,rfl,ho2,hb2⟩
 have HO1:=zh (HO1.out.below hb2)
 have HO2:=zh ho2
 have HB2:=zh (HB1.out.trans (hb2.mono HB1.out.size))
 clear ho2 hb2
 go_wp2_with fail
 refine(rlowest_any false u1 u2 n m _ (HO1.out.lsBl (natL_mem HN.out)) (HO2.out.lsBl (natL_mem HM.out)) H0.out).mono ?_
 rintro e wf ⟨v,rfl,hf,hb3⟩
 obtain⟨vn,vd,rfl,hn,hd⟩:=hf
 obtain⟨An,Ln,cn,rfl⟩:∃A l c,vn=.slice A l c:=by obtain⟨A,c,e,-,-⟩:=hn.form;exact⟨A,_,c,e⟩
 obtain⟨Ad,Ld,cd,rfl⟩:∃A l c,vd=.slice A l c:=by obtain⟨A,c,e,-,-⟩:=hd.form;exact⟨A,_,c,e⟩
 have hcf:=HB2.out.trans (hb3.mono HB2.out.size)
 have hk:=(hcf.block g hgl).trans HBK.out
 obtain⟨k0,k1,k2,f0,f1,f2⟩:=cells3 hk
 have hgw:w.heap.size≤g:=by rw[HG.out];exact Nat.le_refl _
 have hg2:g<w2.heap.size:=Nat.lt_of_lt_of_le hgl HB2.out.size
 have HCF:=zh (HB0.out.trans (hcf.mono HB0.out.size))
 have HSW:=zh (Nat.le_trans HB0.out.size HB2.out.size)
 have HLN:=zh hn
 have HLD:=zh hd
 clear hn hd hb3 hcf
 obtain⟨ng,hng⟩:=zx ((lowF false n m).neg)
 rw[←hng]
 have HNG:=zh hng
 clear hng
 go_wp2_with fail
 have hbf:=below_set3 HCF.out hgw (.bool ng) (.slice An Ln cn) (.slice Ad Ld cd)
 have hfin:=store3 (x:=.bool ng) (y:=.slice An Ln cn) (z:=.slice Ad Ld cd) hk
 have hln:=(HLN.out.keep (kept_set3 wf g (.bool ng) (.slice An Ln cn) (.slice Ad Ld cd) (Fr w2.heap.size wf.heap.size) (fun b hb e=>by have:=hb.1;omega))).mono (R':=Fr w.heap.size wf.heap.size) (fun b hb=>⟨Nat.le_trans HSW.out hb.1,hb.2⟩)
 have hld:=(HLD.out.keep (kept_set3 wf g (.bool ng) (.slice An Ln cn) (.slice Ad Ld cd) (Fr w2.heap.size wf.heap.size) (fun b hb e=>by have:=hb.1;omega))).mono (R':=Fr w.heap.size wf.heap.size) (fun b hb=>⟨Nat.le_trans HSW.out hb.1,hb.2⟩)
 have hsz:wf.heap.size=(((wf.setCell ⟨g,0,none⟩ (.bool ng)).setCell ⟨g,1,none⟩ (.slice An Ln cn)).setCell ⟨g,2,none⟩ (.slice Ad Ld cd)).heap.size:=by simp
 rw[hsz] at hln hld
 obtain⟨Wf,hWf⟩:=zx (((wf.setCell ⟨g,0,none⟩ (.bool ng)).setCell ⟨g,1,none⟩ (.slice An Ln cn)).setCell ⟨g,2,none⟩ (.slice Ad Ld cd))
 rw[←hWf] at hbf hfin hln hld ⊢
 obtain⟨x0,x1,x2,-,-,-⟩:=cells3 hfin
 clear k0 k1 k2 f0 f1 f2
 exact bodyPost_ret (v:=.tuple #[.agg #[.bool ng,.slice An Ln cn,.slice Ad Ld cd],.int .i64 0]) (by simp[results,Tryz.results22,go_sem,x0,x1,x2]) rfl ⟨_,rfl,⟨_,_,by rw[←HNG.out],hln,hld⟩,hbf⟩
theorem frac_any(n m:Nat) (w:World) (hn:n<4294967296) (hm:m<4294967296) (h0:0<m) :
  Calls Tryz.prog 11 #[.int .i64 (n:Int),.int .i64 (m:Int)] w fun e w'=>∃v,e=.returned v∧FrcS w' (Fr w.heap.size w'.heap.size) v (lowF false n m)∧Below w.heap.size w w':=by
 obtain⟨W0,hW0⟩:=zx (w.alloc (.cells #[.bool false,.slice none 0 0,.slice none 0 0] 55))
 obtain⟨g,hg⟩:=zx w.heap.size
 have hbk:W0.heap[g]?=some (.cells #[.bool false,.slice none 0 0,.slice none 0 0] 55 (0,0)):=by rw[hW0,hg];exact heap_alloc_new _ _
 have hb0:Below w.heap.size w W0:=by rw[hW0];exact(Below.refl _ _).alloc (Nat.le_refl _) _
 have hgl:g<W0.heap.size:=by rw[hW0,hg];simp
 have HW0:=zh hW0
 have HG:=zh hg
 have HBK:=zh hbk
 have HB0:=zh hb0
 have HM:=zh (rfrac_any n m W0 hn hm h0)
 clear hW0 hg hbk hb0 hn hm h0
 go_enter Tryz.func11,Tryz.ntmps11
 go_wp2_with fail
 rw[←HW0.out,←HG.out]
 refine HM.out.mono ?_
 rintro e w1 ⟨v,rfl,hf,hb1⟩
 obtain⟨vn,vd,rfl,hn,hd⟩:=hf
 obtain⟨An,Ln,cn,rfl⟩:∃A l c,vn=.slice A l c:=by obtain⟨A,c,e,-,-⟩:=hn.form;exact⟨A,_,c,e⟩
 obtain⟨Ad,Ld,cd,rfl⟩:∃A l c,vd=.slice A l c:=by obtain⟨A,c,e,-,-⟩:=hd.form;exact⟨A,_,c,e⟩
 obtain⟨ng,hng⟩:=zx ((lowF false n m).neg)
 rw[←hng]
 have HNG:=zh hng
 clear hng
 have hk:=(hb1.block g hgl).trans HBK.out
 obtain⟨k0,k1,k2,f0,f1,f2⟩:=cells3 hk
 have HLN:=zh hn
 have HLD:=zh hd
 have HB1:=zh hb1
 have hgl1:g<w1.heap.size:=Nat.lt_of_lt_of_le hgl hb1.size
 have hgn:g≠w1.heap.size:=by omega
 have hgn':w1.heap.size≠g:=by omega
 clear hn hd hb1
 go_wp2_with fail
 have hgw:w.heap.size≤g:=by rw[HG.out];exact Nat.le_refl _
 have hcw:=HB0.out.trans (HB1.out.mono HB0.out.size)
 have hbf:=(below_set3 hcw hgw (.bool ng) (.slice An Ln cn) (.slice Ad Ld cd)).alloc (by simpa using hcw.size) (.cells #[.bool ng,.slice An Ln cn,.slice Ad Ld cd] 55)
 have hfin:=(Below.heap_alloc _ (.cells #[.bool ng,.slice An Ln cn,.slice Ad Ld cd] 55) g (by simpa using hgl1)).trans (store3 (x:=.bool ng) (y:=.slice An Ln cn) (z:=.slice Ad Ld cd) hk)
 have kk:Kept (Fr W0.heap.size w1.heap.size) w1 ((((w1.setCell ⟨g,0,none⟩ (.bool ng)).setCell ⟨g,1,none⟩ (.slice An Ln cn)).setCell ⟨g,2,none⟩ (.slice Ad Ld cd)).alloc (.cells #[.bool ng,.slice An Ln cn,.slice Ad Ld cd] 55)) :=
  (kept_set3 w1 g (.bool ng) (.slice An Ln cn) (.slice Ad Ld cd) _ (fun b hb e=>by have:=hb.1;omega)).trans ((kept_alloc _ _).mono (fun b hb=>by have:=hb.2;simpa[Bl] using this))
 have hln:=(HLN.out.keep kk).mono (R':=Fr w.heap.size w1.heap.size) (fun b hb=>⟨Nat.le_trans HB0.out.size hb.1,hb.2⟩)
 have hld:=(HLD.out.keep kk).mono (R':=Fr w.heap.size w1.heap.size) (fun b hb=>⟨Nat.le_trans HB0.out.size hb.1,hb.2⟩)
 have hsz:w1.heap.size≤((((w1.setCell ⟨g,0,none⟩ (.bool ng)).setCell ⟨g,1,none⟩ (.slice An Ln cn)).setCell ⟨g,2,none⟩ (.slice Ad Ld cd)).alloc (.cells #[.bool ng,.slice An Ln cn,.slice Ad Ld cd] 55)).heap.size:=by simp
 obtain⟨Wf,hWf⟩:=zx ((((w1.setCell ⟨g,0,none⟩ (.bool ng)).setCell ⟨g,1,none⟩ (.slice An Ln cn)).setCell ⟨g,2,none⟩ (.slice Ad Ld cd)).alloc (.cells #[.bool ng,.slice An Ln cn,.slice Ad Ld cd] 55))
 rw[←hWf] at hbf hfin hln hld hsz ⊢
 obtain⟨x0,x1,x2,-,-,-⟩:=cells3 hfin
 clear k0 k1 k2 f0 f1 f2 kk
 exact bodyPost_ret (v:=.agg #[.bool ng,.slice An Ln cn,.slice Ad Ld cd]) (by simp[results,Tryz.results11,go_sem,x0,x1,x2]) rfl ⟨_,rfl,⟨_,_,by rw[←HNG.out],hln.mono (fun b hb=>⟨hb.1,Nat.lt_of_lt_of_le hb.2 hsz⟩),hld.mono (fun b hb=>⟨hb.1,Nat.lt_of_lt_of_le hb.2 hsz⟩)⟩,hbf⟩
structure LawM where
 name:ByteArray
 start:List Frc
 rates:List (List Frc)
 exit:List Frc
structure ModM where
 name:ByteArray
 ext:Int
 port:Int
 law:Int
structure DomM where
 name:ByteArray
 level:Int
 parent:Int
 uplink:Int
 shock:Frc
structure DveM where
 name:ByteArray
 model:Int
 machine:Int
structure PolM where
 name:ByteArray
 k:Int
 m:Int
 q:Int
 s3:Int
 s4:Int
 models:List Int
 repair:List Frc
 target:Frc
 horizon:Frc
structure VolM where
 name:ByteArray
 pol:Int
structure FltM where
 ext:Int
 laws:List LawM
 models:List ModM
 doms:List DomM
 dves:List DveM
 pols:List PolM
 vols:List VolM
def FrcK(w:World) (R:Nat→Prop) (cs:List Value) (x:Frc):Prop:=∃vn vd,cs=[.bool x.neg,vn,vd]∧LS w R vn (natL x.num)∧LS w R vd (natL x.den)
def RowFK(w:World) (R:Nat→Prop) (cs:List Value) (l:List Frc):Prop:=∃v,cs=[v]∧SlS 3 FrcK w R v l
def LawK(w:World) (R:Nat→Prop) (cs:List Value) (x:LawM):Prop:=∃vs vr ve,cs=[.string x.name,vs,vr,ve]∧SlS 3 FrcK w R vs x.start∧SlS 1 RowFK w R vr x.rates∧SlS 3 FrcK w R ve x.exit
def ModK(w:World) (R:Nat→Prop) (cs:List Value) (x:ModM):Prop:=cs=[.string x.name,.int .i64 x.ext,.int .i64 x.port,.int .i64 x.law]
def DomK(w:World) (R:Nat→Prop) (cs:List Value) (x:DomM):Prop:=∃vn vd,cs=[.string x.name,.int .i64 x.level,.int .i64 x.parent,.int .i64 x.uplink,.bool x.shock.neg,vn,vd]∧LS w R vn (natL x.shock.num)∧LS w R vd (natL x.shock.den)
def DveK(w:World) (R:Nat→Prop) (cs:List Value) (x:DveM):Prop:=cs=[.string x.name,.int .i64 x.model,.int .i64 x.machine]
def PolK(w:World) (R:Nat→Prop) (cs:List Value) (x:PolM):Prop:=∃vm vr tn td hn hd,cs=[.string x.name,.int .i64 x.k,.int .i64 x.m,.int .i64 x.q,.int .i64 0,.int .i64 0,.int .i64 0,.int .i64 x.s3,.int .i64 x.s4,vm,vr,.bool x.target.neg,tn,td,.bool x.horizon.neg,hn,hd] ∧
 IntS w R vm x.models∧SlS 3 FrcK w R vr x.repair∧LS w R tn (natL x.target.num)∧LS w R td (natL x.target.den)∧LS w R hn (natL x.horizon.num)∧LS w R hd (natL x.horizon.den)
def VolK(w:World) (R:Nat→Prop) (cs:List Value) (x:VolM):Prop:=cs=[.string x.name,.int .i64 x.pol]
theorem frcK:Steady FrcK:=⟨fun hk ⟨a,b,e,h1,h2⟩=>⟨a,b,e,h1.keep hk,h2.keep hk⟩,fun hr ⟨a,b,e,h1,h2⟩=>⟨a,b,e,h1.mono hr,h2.mono hr⟩⟩
theorem rowFK:Steady RowFK:=⟨fun hk ⟨v,e,h⟩=>⟨v,e,SlS.keep frcK h hk⟩,fun hr ⟨v,e,h⟩=>⟨v,e,SlS.mono frcK h hr⟩⟩
theorem lawK:Steady LawK:=⟨fun hk ⟨a,b,c,e,h1,h2,h3⟩=>⟨a,b,c,e,SlS.keep frcK h1 hk,SlS.keep rowFK h2 hk,SlS.keep frcK h3 hk⟩,fun hr ⟨a,b,c,e,h1,h2,h3⟩=>⟨a,b,c,e,SlS.mono frcK h1 hr,SlS.mono rowFK h2 hr,SlS.mono frcK h3 hr⟩⟩
theorem modK:Steady ModK:=⟨fun _ h=>h,fun _ h=>h⟩
theorem domK:Steady DomK:=⟨fun hk ⟨a,b,e,h1,h2⟩=>⟨a,b,e,h1.keep hk,h2.keep hk⟩,fun hr ⟨a,b,e,h1,h2⟩=>⟨a,b,e,h1.mono hr,h2.mono hr⟩⟩
theorem dveK:Steady DveK:=⟨fun _ h=>h,fun _ h=>h⟩
theorem polK:Steady PolK:=⟨fun hk ⟨a,b,c,d,f,g,e,h1,h2,h3,h4,h5,h6⟩=>⟨a,b,c,d,f,g,e,h1.keep hk,SlS.keep frcK h2 hk,h3.keep hk,h4.keep hk,h5.keep hk,h6.keep hk⟩,
 fun hr ⟨a,b,c,d,f,g,e,h1,h2,h3,h4,h5,h6⟩=>⟨a,b,c,d,f,g,e,h1.mono hr,SlS.mono frcK h2 hr,h3.mono hr,h4.mono hr,h5.mono hr,h6.mono hr⟩⟩
theorem volK:Steady VolK:=⟨fun _ h=>h,fun _ h=>h⟩
def FleetS(w:World) (R:Nat→Prop) (vl vm vd vv vp vo:Value) (F:FltM):Prop :=
 SlS 4 LawK w R vl F.laws∧SlS 4 ModK w R vm F.models∧SlS 7 DomK w R vd F.doms∧SlS 3 DveK w R vv F.dves∧SlS 17 PolK w R vp F.pols∧SlS 2 VolK w R vo F.vols
theorem FleetS.keep{w w':World} {R:Nat→Prop} {vl vm vd vv vp vo:Value} {F:FltM} (h:FleetS w R vl vm vd vv vp vo F) (hk:Kept R w w'):FleetS w' R vl vm vd vv vp vo F :=
 ⟨SlS.keep lawK h.1 hk,SlS.keep modK h.2.1 hk,SlS.keep domK h.2.2.1 hk,SlS.keep dveK h.2.2.2.1 hk,SlS.keep polK h.2.2.2.2.1 hk,SlS.keep volK h.2.2.2.2.2 hk⟩
theorem FleetS.mono{w:World} {R R':Nat→Prop} {vl vm vd vv vp vo:Value} {F:FltM} (h:FleetS w R vl vm vd vv vp vo F) (hr:∀b,R b→R' b):FleetS w R' vl vm vd vv vp vo F :=
 ⟨SlS.mono lawK h.1 hr,SlS.mono modK h.2.1 hr,SlS.mono domK h.2.2.1 hr,SlS.mono dveK h.2.2.2.1 hr,SlS.mono polK h.2.2.2.2.1 hr,SlS.mono volK h.2.2.2.2.2 hr⟩
theorem FleetS.below{w w':World} {vl vm vd vv vp vo:Value} {F:FltM} (h:FleetS w (Bl w.heap.size) vl vm vd vv vp vo F) (hb:Below w.heap.size w w'):FleetS w' (Bl w'.heap.size) vl vm vd vv vp vo F:=(h.keep (kept_below hb)).mono (Bl.mono hb.size)
def Cold(B:Nat) (w:World) (hot:List (Option Nat)) (b:Nat):Prop:=B≤b∧b<w.heap.size∧some b∉hot
def OwnK{α:Type} (size:Nat) (K:World→(Nat→Prop)→List Value→α→Prop) (w:World) (base:Nat) (e:TypeId) (v:Value) (es:List α) (R:Nat→Prop):Prop :=
 ∃cs:List Value,w.ownsRow base e size v es.length cs∧∀k a,es[k]?=some a→∃c,c.length=size∧(∀i u,c[i]?=some u→cs[k * size+i]?=some u)∧K w R c a
theorem OwnK.nil{α:Type} (size:Nat) (K:World→(Nat→Prop)→List Value→α→Prop) (w:World) (base:Nat) (e:TypeId) (R:Nat→Prop):OwnK size K w base e (.slice none 0 0) ([]:List α) R:=⟨[],World.ownsRow_nil _ _ _ _,fun k a h=>by simp at h⟩
theorem OwnK.form{α:Type} {size:Nat} {K:World→(Nat→Prop)→List Value→α→Prop} {w:World} {base:Nat} {e:TypeId} {v:Value} {es:List α} {R:Nat→Prop} (h:OwnK size K w base e v es R):∃A c,v=.slice A es.length c:=by
 obtain⟨cs,h1,-⟩:=h
 exact own_form h1
theorem OwnK.lt{α:Type} {size:Nat} {K:World→(Nat→Prop)→List Value→α→Prop} {w:World} {base:Nat} {e:TypeId} {v:Value} {es:List α} {R:Nat→Prop} (h:OwnK size K w base e v es R):∀b,v.ownBlock=some b→base≤b∧b<w.heap.size:=by
 obtain⟨cs,h1,-⟩:=h
 exact h1.lt
theorem OwnK.push{α:Type} {size:Nat} {K:World→(Nat→Prop)→List Value→α→Prop} (hK:Steady K) {w w':World} {base:Nat} {e:TypeId} {v v':Value} {es:List α} {R R':Nat→Prop} {cs c:List Value} {a:α}
  (h2:∀k x,es[k]?=some x→∃c,c.length=size∧(∀i u,c[i]?=some u→cs[k * size+i]?=some u)∧K w R c x) (hl:cs.length=es.length * size) (ho:w'.ownsRow base e size v' (es.length+1) (cs++c)) (hc:c.length=size) (hk:Kept R w w') (hr:∀b,R b→R' b) (ha:K w' R' c a):OwnK size K w' base e v' (es++[a]) R':=by
 refine⟨cs++c,by rw[List.length_append];exact ho,fun k x hx=>?_⟩
 rcases Nat.lt_or_ge k es.length with hlt | hge
 ·rw[List.getElem?_append_left hlt] at hx
  obtain⟨c2,g1,g2,g3⟩:=h2 k x hx
  exact⟨c2,g1,fun i u hu=>by
   have h3:=g2 i u hu
   rw[List.getElem?_append_left (List.getElem?_eq_some_iff.1 h3).1];exact h3,hK.mono hr (hK.keep hk g3)⟩
 ·have hke:k=es.length:=by
   have:=(List.getElem?_eq_some_iff.1 hx).1
   rw[List.length_append] at this;simp at this;omega
  subst hke
  rw[List.getElem?_append_right (Nat.le_refl _),Nat.sub_self] at hx
  simp at hx
  subst hx
  exact⟨c,hc,fun i u hu=>by rw[List.getElem?_append_right (by omega),hl,Nat.add_sub_cancel_left];exact hu,ha⟩
theorem OwnK.slS{α:Type} {size:Nat} {K:World→(Nat→Prop)→List Value→α→Prop} (hK:Steady K) {w:World} {base:Nat} {e:TypeId} {v:Value} {es:List α} {R R':Nat→Prop} (h:OwnK size K w base e v es R) (hr:∀b,R b→R' b) (hR:∀b,v.ownBlock=some b→R' b):SlS size K w R' v es:=by
 obtain⟨cs,h1,h2⟩:=h
 have hc:=fun g=>h1.cells (g:=g)
 rcases h1.2 with ⟨rfl,h0⟩ | ⟨g,cap,cur,rfl,_,_,h4,h3,_⟩
 ·unfold SlS;rw[h0];exact Row.nil _ _ _
 ·refine⟨_,cap,rfl,h4,Nat.le_trans h4 h3,fun _=>⟨g,0,rfl,hR g rfl,fun k a ha=>?_⟩⟩
  obtain⟨c,g1,g2,g3⟩:=h2 k a ha
  refine⟨c,g1,fun i u hu=>?_,hK.mono hr g3⟩
  have e1:∀j,(⟨g,0,none⟩:Addr).add j=⟨g,0+j,none⟩:=fun j=>by unfold Addr.add;split <;> simp_all
  rw[Nat.add_assoc,←e1]
  exact hc g rfl _ _ (g2 i u hu)
def nameL(c:UInt8) (n:Nat):List UInt8:=[c,UInt8.ofNat (97+n / 26 % 26),UInt8.ofNat (97+n % 26)]
theorem name_any(c:UInt8) (n:Nat) (w:World) (hn:n≤1000) :
  Calls Tryz.prog 13 #[.int .u8 (c.toNat:Int),.int .i64 (n:Int)] w fun e w'=>e=.returned (.string ⟨(nameL c n).toArray⟩)∧Below w.heap.size w w':=by
 have q0:(0:Int)≤(n:Int):=by omega
 have q1:(n:Int)≤1000:=by omega
 have e1:(((UInt8.ofNat (97+n / 26 % 26)).toNat:Nat):Int)=97+(n:Int) / 26 % 26:=by rw[UInt8.toNat_ofNat',Nat.mod_eq_of_lt (by omega)];omega
 have e2:(((UInt8.ofNat (97+n % 26)).toNat:Nat):Int)=97+(n:Int) % 26:=by rw[UInt8.toNat_ofNat',Nat.mod_eq_of_lt (by omega)];omega
 have hcv:=conv_bytes (ByS.lit w (nameL c n) 5 (by simp[nameL,maxLen]))
 have e3:(bys (nameL c n)).toArray=#[.int .u8 (c.toNat:Int),.int .u8 (97+(n:Int) / 26 % 26),.int .u8 (97+(n:Int) % 26)]:=by simp only[bys,nameL,List.map_cons,List.map_nil,e1,e2]
 rw[e3,show(nameL c n).length=3 from rfl] at hcv
 clear e1 e2 e3
 go_enter Tryz.func13,Tryz.ntmps13
 go_wp2_with fail
 go_ret
 exact⟨rfl,(Below.refl _ _).alloc (Nat.le_refl _) _⟩
structure HotBy (hot:List (Option Nat)) (w w':World):Prop where
 os:w'.os=w.os
 tape:w'.tape=w.tape
 output:w'.output=w.output
 size:w.heap.size≤w'.heap.size
 block:∀b,b<w.heap.size→some b∉hot→w'.heap[b]?=w.heap[b]?
theorem HotBy.refl(hot:List (Option Nat)) (w:World):HotBy hot w w:=⟨rfl,rfl,rfl,Nat.le_refl _,fun _ _ _=>rfl⟩
theorem HotBy.trans{hot:List (Option Nat)} {a b c:World} (h:HotBy hot a b) (k:HotBy hot b c):HotBy hot a c :=
 ⟨k.os.trans h.os,k.tape.trans h.tape,k.output.trans h.output,Nat.le_trans h.size k.size,fun x hx hn=>(k.block x (Nat.lt_of_lt_of_le hx h.size) hn).trans (h.block x hx hn)⟩
theorem HotBy.more{hot hot':List (Option Nat)} {a b:World} (h:HotBy hot a b) (hh:∀x,some x∈hot→x<a.heap.size→some x∈hot'):HotBy hot' a b :=
 ⟨h.os,h.tape,h.output,h.size,fun x hx hn=>h.block x hx (fun hm=>hn (hh x hm hx))⟩
theorem HotBy.below{hot:List (Option Nat)} {w w':World} (h:Below w.heap.size w w'):HotBy hot w w':=⟨h.os,h.tape,h.output,h.size,fun b hb _=>h.block b hb⟩
theorem HotBy.grown{hot:List (Option Nat)} {w w':World} {row:Option Nat} (h:w.grownBy w' row) (hr:row∈hot∨row=none):HotBy hot w w' :=
 ⟨h.os,h.tape,h.output,h.size,fun b hb hn=>h.block b hb (fun e=>by
  rcases hr with hr | hr
  ·exact hn (e▸hr)
  ·rw[hr] at e;cases e)⟩
theorem HotBy.setCell(hot:List (Option Nat)) (w:World) (a:Addr) (v:Value) (ha:some a.block∈hot):HotBy hot w (w.setCell a v) :=
 ⟨rfl,rfl,rfl,by simp[World.setCell],fun b _ hn=>Below.heap_setCell w a v b (fun e=>hn (e▸ha))⟩
theorem HotBy.alloc(hot:List (Option Nat)) (w:World) (o:Obj):HotBy hot w (w.alloc o):=⟨rfl,rfl,rfl,by simp,fun b hb _=>Below.heap_alloc w o b hb⟩
theorem HotBy.drew{hot:List (Option Nat)} {a w:World} (h:HotBy hot a w):HotBy hot a w.drew:=⟨h.os,h.tape,h.output,h.size,h.block⟩
def FltB(w:World) (g:Nat) (e:Int) (vl vm vd vv vp vo:Value):Prop:=w.heap[g]?=some (.cells #[.int .i64 e,vl,vm,vd,vv,vp,vo] 33 (0,0))
theorem FltB.cells{w:World} {g:Nat} {e:Int} {vl vm vd vv vp vo:Value} (h:FltB w g e vl vm vd vv vp vo) :
  w.cell? ⟨g,0,none⟩=some (.int .i64 e)∧w.cell? ⟨g,1,none⟩=some vl∧w.cell? ⟨g,2,none⟩=some vm∧w.cell? ⟨g,3,none⟩=some vd∧w.cell? ⟨g,4,none⟩=some vv∧w.cell? ⟨g,5,none⟩=some vp∧w.cell? ⟨g,6,none⟩=some vo∧(∀i,w.frozen? ⟨g,i,none⟩=false) :=
 ⟨by rw[cell_of_row _ _ _ _ _ _ h];rfl,by rw[cell_of_row _ _ _ _ _ _ h];rfl,by rw[cell_of_row _ _ _ _ _ _ h];rfl,by rw[cell_of_row _ _ _ _ _ _ h];rfl,by rw[cell_of_row _ _ _ _ _ _ h];rfl,by rw[cell_of_row _ _ _ _ _ _ h];rfl,by rw[cell_of_row _ _ _ _ _ _ h];rfl,fun i=>frozen_of_row _ _ _ _ _ h⟩
theorem FltB.lt{w:World} {g:Nat} {e:Int} {vl vm vd vv vp vo:Value} (h:FltB w g e vl vm vd vv vp vo):g<w.heap.size:=(Array.getElem?_eq_some_iff.1 h).1
theorem frac01(w:World):Calls Tryz.prog 11 #[.int .i64 0,.int .i64 1] w fun e w'=>∃v,e=.returned v∧(∃vn vd,v=.agg #[.bool false,vn,vd]∧LS w' (Fr w.heap.size w'.heap.size) vn (natL 0)∧LS w' (Fr w.heap.size w'.heap.size) vd (natL 1))∧Below w.heap.size w w':=frac_any 0 1 w (by omega) (by omega) (by omega)
theorem FltB.below{w w':World} {g:Nat} {e:Int} {vl vm vd vv vp vo:Value} (h:FltB w g e vl vm vd vv vp vo) (hb:Below w.heap.size w w'):FltB w' g e vl vm vd vv vp vo:=(hb.block g h.lt).trans h
theorem FltB.grown5{w w':World} {o:Obj} {g:Nat} {e:Int} {vl vm vd vv vp vo:Value} {row:Option Nat} (h:FltB w g e vl vm vd vv vp vo) (hg:(w.alloc o).grownBy w' row) (hne:some g≠row):FltB w' g e vl vm vd vv vp vo :=
 (hg.block g (by have:=h.lt;simp;omega) hne).trans ((Below.heap_alloc w o g h.lt).trans h)
theorem FltB.set3{w:World} {g:Nat} {e:Int} {vl vm vd vv vp vo:Value} (h:FltB w g e vl vm vd vv vp vo) (u:Value):FltB (w.setCell ⟨g,3,none⟩ u) g e vl vm u vv vp vo:=heap_setCell_same w g 3 _ _ u h
theorem dom_nested{w w2 w3 w5:World} {o:Obj} {vd v u:Value} {l:List Nat} {g gg B n cap:Nat} (h:LS w3 (Fr w2.heap.size w3.heap.size) v l) (h2:w.heap.size≤w2.heap.size) (hg:(w3.alloc o).grownBy w5 vd.ownBlock) (ho:∀b,vd.ownBlock=some b→B≤b∧b<w.heap.size) (hB:g<B)
  (hat:vd.ownBlock=some gg∨gg=w3.heap.size+1) (h3:w.heap.size≤w3.heap.size) (hgl:g<w.heap.size) :
  LS (w5.setCell ⟨g,3,none⟩ u) (fun b=>w.heap.size≤b∧b<(w5.setCell ⟨g,3,none⟩ u).heap.size∧(Value.slice (some ⟨gg,0,none⟩) n cap).ownBlock≠some b) v l:=by
 have hs5:=hg.size
 have hk:Kept (Fr w2.heap.size w3.heap.size) w3 (w5.setCell ⟨g,3,none⟩ u):=fun b hb=>by
  have hlt:=hb.2
  have hge:=hb.1
  rw[Below.heap_setCell w5 ⟨g,3,none⟩ u b (fun e=>by have e2:b=g:=e;omega)]
  rw[hg.block b (by simp;omega) (fun e=>by have:=(ho b e.symm).2;omega)]
  exact Below.heap_alloc w3 o b hlt
 refine(h.keep hk).mono (fun b hb=>?_)
 have hlt:=hb.2
 have hge:=hb.1
 refine⟨by omega,by simp at hs5 ⊢;omega,fun e=>?_⟩
 have e2:gg=b:=by injection e
 rcases hat with h4 | h4
 ·have:=(ho gg h4).2;omega
 ·omega
theorem info_dom:(Tryz.prog.info? 64).map (fun i=>(i.zero,i.size,i.bytes))=some (some (.agg #[.string ⟨#[]⟩,.int .i64 0,.int .i64 0,.int .i64 0,.bool false,.slice none 0 0,.slice none 0 0]),7,96):=by kernel_rfl
theorem domain_any(g:Nat) (e:Int) (vl vm vd vv vp vo:Value) (n:Nat) (cs:List Value) (B:Nat) (level parent uplink:Int) (w:World) (hF:FltB w g e vl vm vd vv vp vo) (ho:w.ownsRow B 64 7 vd n cs) (hB:g<B) (hBs:B≤w.heap.size) (hn:n≤1000) :
  Calls Tryz.prog 12 #[.pointer (some ⟨g,0,none⟩),.int .i64 level,.int .i64 parent,.int .i64 uplink] w fun r w'=>r=.returned (.int .i64 (n:Int))∧∃vd' vn2 vd2,FltB w' g e vl vm vd' vv vp vo ∧
   w'.ownsRow B 64 7 vd' (n+1) (cs++[.string ⟨(nameL 110 n).toArray⟩,.int .i64 level,.int .i64 parent,.int .i64 uplink,.bool false,vn2,vd2])∧LS w' (fun b=>w.heap.size≤b∧b<w'.heap.size∧vd'.ownBlock≠some b) vn2 (natL 0)∧LS w' (fun b=>w.heap.size≤b∧b<w'.heap.size∧vd'.ownBlock≠some b) vd2 (natL 1) ∧
   (vd'.ownBlock=vd.ownBlock∨∃x,vd'.ownBlock=some x∧w.heap.size≤x)∧HotBy [some g,vd.ownBlock] w w':=by
 obtain⟨i0,hi0,hz0,hz1,hz2⟩:=info_parts info_dom
 obtain⟨A,c,rfl⟩:=own_form ho
 obtain⟨k0,k1,k2,k3,k4,k5,k6,kf⟩:=hF.cells
 have kf3:=kf 3
 have HF:=zh hF
 have HO:=zh ho
 have hgl:=hF.lt
 have HNM:=zh (fun w=>name_any 110 n w hn)
 have HFR:=zh (fun w=>frac01 w)
 have HN:=zh hn
 have n10:((110:UInt8).toNat:Int)=110:=rfl
 rw[n10] at HNM
 clear hF ho k0 k1 k2 k4 k5 k6 kf n10 hn
 go_enter Tryz.func12,Tryz.ntmps12
 go_wp2_with fail
 obtain⟨X,hX⟩:∃X:ByteArray,X=⟨(nameL 110 n).toArray⟩:=⟨_,rfl⟩
 rw[←hX] at HNM
 have HX:=zh hX
 clear hX
 go_region_law (first
  | (refine step_append_lies _ (by rfl) _ _ _ (by rfl) B 64 i0 _ 7 96 Tryz.underlying28 hi0 hz0 hz1 hz2 rfl (by decide) (.slice A n c) n cs (by rfl) (World.ownsRow.alloc ho3 _) ⟨w3.heap.size,0,none⟩ 1 1 [.string X,.int .i64 level,.int .i64 parent,.int .i64 uplink,.bool false,.slice An Ln cn,.slice Aq Lq cq] (by rfl) (by rfl) (World.news_of_block (cs:=#[.string X,.int .i64 level,.int .i64 parent,.int .i64 uplink,.bool false,.slice An Ln cn,.slice Aq Lq cq]) (t:=64) (fr:=(0,0)) (heap_alloc_new w3 _)) (by simp[Value.oneCell']) (by omega) (by have:=HN.out;unfold maxLen;omega) (by have:=HN.out;omega) (by simp;omega) (w3.heap.size+1) (by simp) ?_;intro gg cap w5 hown5 hg5 hat5 hlt5;have hF5:=hF3.grown5 hg5 hne5;have k35:=hF5.cells.2.2.2.1;have f35:=hF5.cells.2.2.2.2.2.2.2 3)
  | (go_simp;go_at_call 13;refine(HNM.out _).mono ?_;rintro e w2 ⟨rfl,hb2⟩;have k32:=((hb2.cell (p:=⟨g,3,none⟩) hgl).trans k3))
  | (go_simp;go_at_call 11;refine(HFR.out _).mono ?_;rintro e w3 ⟨v3,rfl,⟨vn,vq,rfl,hvn,hvq⟩,hb3⟩;obtain⟨An,Ln,cn,rfl⟩:∃A l c,vn=.slice A l c:=(by obtain⟨A,c,e,-,-⟩:=hvn.form;exact⟨A,_,c,e⟩);obtain⟨Aq,Lq,cq,rfl⟩:∃A l c,vq=.slice A l c:=(by obtain⟨A,c,e,-,-⟩:=hvq.form;exact⟨A,_,c,e⟩);have k33:=((hb3.cell (p:=⟨g,3,none⟩) (Nat.lt_of_lt_of_le hgl hb2.size)).trans k32);have hb23:Below w.heap.size w w3:=(below_drewL hb2).trans (hb3.mono hb2.size);have ho3:=own_below HO.out hb23;have hs3:=hb23.size;have hF3:=HF.out.below hb23;have hF4:=hF3.below ((Below.refl w3.heap.size w3).alloc (Nat.le_refl _) (.cells #[.string X,.int .i64 level,.int .i64 parent,.int .i64 uplink,.bool false,.slice An Ln cn,.slice Aq Lq cq] 64));have k34:=hF4.cells.2.2.2.1;have hgn3:g≠w3.heap.size:=(by have:=Nat.lt_of_lt_of_le hgl hb23.size;omega);have hgn4:w3.heap.size≠g:=(fun e=>hgn3 e.symm);have hne5:some g≠(Value.slice A n c).ownBlock:=(fun e=>by have:=(HO.out.lt g e.symm).1;omega)))
 all_goals
  have HVN:=zh hvn
  have HVQ:=zh hvq
  have HF5:=zh (hF5.set3 (.slice (some ⟨gg,0,none⟩) (n+1) cap))
  have HG5:=zh hg5
  have HO5:=zh hown5
  have HAT:=zh hat5
  have HS2:=zh (show w.heap.size≤w2.heap.size from hb2.size)
  have HB23:=zh hb23
  have hggB:B≤gg:=(hown5.lt gg rfl).1
  have hoB:=fun b e=>HO.out.lt b e
  have HOB:=zh hoB
  have HNE:=zh hne5
  clear hvn hvq hF5 hg5 hown5 hat5 hb2 hb23 hb3 hoB ho3 hF3 hF4 hne5 k35 f35 k34 k33 k32 k3
  go_wp2_with fail
  go_ret
  have hgg2:gg≠g:=by omega
  have hne2:(Value.slice (some ⟨gg,0,none⟩) (n+1) cap).ownBlock≠some g:=fun e=>hgg2 (Option.some.inj e)
  refine⟨rfl,.slice (some ⟨gg,0,none⟩) (n+1) cap,.slice An Ln cn,.slice Aq Lq cq,HF5.out,by rw[←HX.out];exact HO5.out.kept (only_set1 _ g 3 _) (.inr hne2),?_,?_,?_,?_⟩
  ·exact dom_nested HVN.out HS2.out HG5.out HOB.out hB HAT.out (by omega) hgl
  ·exact dom_nested HVQ.out HS2.out HG5.out HOB.out hB HAT.out (by omega) hgl
  ·rcases HAT.out with h | h
   ·exact .inl h.symm
   ·exact .inr ⟨gg,rfl,by omega⟩
  ·exact((HotBy.below HB23.out).trans (HotBy.alloc _ _ _)).trans ((HotBy.grown HG5.out (.inl (by simp))).trans (HotBy.setCell _ _ _ _ (by simp)))
end Go.Proofs.YtmacgpnlcdapfaaGreat
