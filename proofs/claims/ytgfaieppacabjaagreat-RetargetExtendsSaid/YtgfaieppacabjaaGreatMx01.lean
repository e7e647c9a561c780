/- Words on memory shared by the proofs of this seat: slices that read as lists. -/
import Derived.Test.YtgfaieppacabjaaGreatMw01
import Derived.Test.YtgfaieppacabjaaGreatMw02
import Derived.Test.YtgfaieppacabjaaGreatMw03
import Derived.Test.YtgfaieppacabjaaGreatMw04
import Derived.Test.YtgfaieppacabjaaGreatMw05
import Derived.Test.YtgfaieppacabjaaGreatMw06
import Derived.Test.YtgfaieppacabjaaGreatMw07
import Derived.Test.YtgfaieppacabjaaGreatMw08
import Derived.Test.YtgfaieppacabjaaGreatMw09
import Derived.Test.YtgfaieppacabjaaGreatMw10
import Derived.Test.YtgfaieppacabjaaGreatMw11
import Derived.Test.YtgfaieppacabjaaGreatMw12
import Derived.Test.YtgfaieppacabjaaGreatMw13
import Derived.Test.YtgfaieppacabjaaGreatMw14
import Derived.Test.YtgfaieppacabjaaGreatMw15
import Derived.Test.YtgfaieppacabjaaGreatMw16
import Derived.Test.YtgfaieppacabjaaGreatMw17
import Derived.Test.YtgfaieppacabjaaGreatMw18
import Derived.Test.YtgfaieppacabjaaGreatMw19
import Derived.Test.YtgfaieppacabjaaGreatMw20
import Derived.Test.YtgfaieppacabjaaGreatMw21
import Derived.Test.YtgfaieppacabjaaGreatMw22
import Derived.WalkKit
import Derived.Lib.Hide
import Derived.Maps.AppendAt
import Derived.BigQuiet
import Derived.Deep.QuietTactic
import Derived.Deep.MidRow
set_option linter.unusedSectionVars false
set_option maxRecDepth 100000
set_option maxHeartbeats 12800000
namespace Go.Proofs.YtgfaieppacabjaaGreat
open Go.RowKit
set_option linter.unusedVariables false
set_option linter.unusedSimpArgs false
theorem drawn2(w:World) (a b:Nat):∃n,(w.drewN a).drewN b=w.drewN n:=⟨a+b,World.drewN_drewN w a b⟩
end Go.Proofs.YtgfaieppacabjaaGreat

namespace Go.Proofs.YtgfaieppacabjaaGreat
instance:Std.Associative gmul:=⟨gmul_assoc⟩
instance:Std.Commutative gmul:=⟨gmul_comm⟩
section
variable {α β : Type}
end
end Go.Proofs.YtgfaieppacabjaaGreat

namespace Go.Proofs.YtgfaieppacabjaaGreat
open Go.RowKit
set_option linter.unusedVariables false
set_option linter.unusedSimpArgs false
theorem rsize38_any(N:Nat) (hN:N≤12) (vl vm vd vv vp vo:Value) (F:FltM) (v:Nat) (w:World) (hf:FleetS w (Bl w.heap.size) vl vm vd vv vp vo F) (hok:FleetOk N F) (hv:v<F.vols.length) :
  Calls Tryz.prog 51 #[.agg #[.int .i64 F.ext,vl,vm,vd,vv,vp,vo],.int .i64 (v:Int)] w fun e w'=>e=.returned (.int .i64 (szN F v:Int))∧Below w.heap.size w w':=by
 obtain⟨pb,pof,ob,oof,cp,co,rfl,rfl,hRp,hRo,hat⟩:=polAt hf hok
 obtain⟨hp,nm,hvol,a0,a4,a5,a6,a7,a8,a9,a10,a11,a12,a13,a14,a15,a16,hpol,hone⟩:=hat v hv
 obtain⟨hk1,hm0,hm4,-,-⟩:=kmq_ok hok hv
 have hsz:=szN_eq hok hv
 obtain⟨NP,hNP⟩:=zx F.pols.length
 obtain⟨NO,hNO⟩:=zx F.vols.length
 have hNP2:NP≤2:=by rw[hNP];exact hok.polN
 have hNO12:NO≤12:=by rw[hNO];have:=hok.volN;omega
 obtain⟨p0,hp0⟩:=zx (volP F v)
 obtain⟨KK,hKK⟩:=zx (kOf F v)
 obtain⟨MM,hMM⟩:=zx (mOf F v)
 obtain⟨QQ,hQQ⟩:=zx (qOf F v)
 obtain⟨EX,hEX⟩:=zx F.ext
 obtain⟨SZ,hSZ⟩:∃n:Int,n=(szN F v:Int):=⟨_,rfl⟩
 rw[←hp0] at hvol hpol hp
 rw[←hKK,←hMM,←hQQ] at hpol hone
 rw[←hKK] at hk1 hsz
 rw[←hMM] at hm0 hm4 hsz
 rw[←hSZ] at hsz
 rw[←hNP] at hp
 rw[←hNO] at hv
 rw[←hEX,←hNP,←hNO,←hSZ]
 clear hp0 hKK hMM hQQ hEX hNP hNO hSZ hat hf hok
 have hsum:IntKind.i64.wrap (KK+MM)=SZ:=by rw[hsz];exact IntWalk.i64_in _ (by omega)
 have hsum2:wrap64 (KK+MM)=SZ:=by rw[hsz];exact IntWalk.wrap64_in _ (by omega)
 obtain⟨W0,hW0⟩:=zx (w.alloc (.cells #[.int .i64 EX,vl,vm,vd,vv,.slice (some ⟨pb,pof,none⟩) NP cp,.slice (some ⟨ob,oof,none⟩) NO co] 35))
 obtain⟨z,hz⟩:=zx w.heap.size
 have hb0:Below w.heap.size w W0:=by rw[hW0];exact(Below.refl _ _).alloc (Nat.le_refl _) _
 have hzk:W0.heap[z]?=some (.cells #[.int .i64 EX,vl,vm,vd,vv,.slice (some ⟨pb,pof,none⟩) NP cp,.slice (some ⟨ob,oof,none⟩) NO co] 35 (0,0)):=by rw[hW0,hz];exact heap_alloc_new w _
 have hzl:z<W0.heap.size:=(Array.getElem?_eq_some_iff.1 hzk).1
 have hob:ob<w.heap.size:=World.block_lt_of_cell? w _ (hvol 0 _ rfl)
 have hpb:pb<w.heap.size:=World.block_lt_of_cell? w _ (hpol 0 _ rfl)
 have HSK:=zh (fun(w':World) (hb:Below W0.heap.size W0 w')=>(show w'.cell? ⟨z,5,none⟩=some (.slice (some ⟨pb,pof,none⟩) NP cp)∧w'.cell? ⟨z,6,none⟩=some (.slice (some ⟨ob,oof,none⟩) NO co)∧w'.cell? ⟨ob,oof+v * 2+1,none⟩=some (.int .i64 (p0:Int))∧w'.rangeAt pb (pof+p0 * 17) [a0,.int .i64 KK,.int .i64 MM,.int .i64 QQ,a4,a5,a6,a7,a8,a9,a10,a11,a12,a13,a14,a15,a16] from
  ⟨by rw[cell_of_row w' z 5 _ _ _ ((hb.block z hzl).trans hzk)];rfl,by rw[cell_of_row w' z 6 _ _ _ ((hb.block z hzl).trans hzk)];rfl,(World.cell?_of_block (w:=w) (w':=w') ((hb.block ob (Nat.lt_of_lt_of_le hob hb0.size)).trans (hb0.block ob hob))).trans (hvol 1 _ rfl),range_same hpol ((hb.block pb (Nat.lt_of_lt_of_le hpb hb0.size)).trans (hb0.block pb hpb))⟩))
 have HTH:=zh (show((W0.alloc (.cells #[.string ⟨#[]⟩,.int .i64 0,.int .i64 0,.int .i64 0,.int .i64 0,.int .i64 0,.int .i64 0,.int .i64 0,.int .i64 0,.slice none 0 0,.slice none 0 0,.bool false,.slice none 0 0,.slice none 0 0,.bool false,.slice none 0 0,.slice none 0 0] 55)).drew).there W0.heap.size 0 17 from there_new (w:=(W0.alloc (.cells #[.string ⟨#[]⟩,.int .i64 0,.int .i64 0,.int .i64 0,.int .i64 0,.int .i64 0,.int .i64 0,.int .i64 0,.int .i64 0,.slice none 0 0,.slice none 0 0,.bool false,.slice none 0 0,.slice none 0 0,.bool false,.slice none 0 0,.slice none 0 0] 55)).drew) (cs:=#[.string ⟨#[]⟩,.int .i64 0,.int .i64 0,.int .i64 0,.int .i64 0,.int .i64 0,.int .i64 0,.int .i64 0,.int .i64 0,.slice none 0 0,.slice none 0 0,.bool false,.slice none 0 0,.slice none 0 0,.bool false,.slice none 0 0,.slice none 0 0]) (heap_alloc_new W0 _) (Nat.le_refl 17))
 have HON:=zh hone
 have HW0:=zh hW0
 have HQ:=zh hz
 have HB0:=zh hb0
 have i1:(v:Int)<(NO:Int):=by omega
 have i2:(p0:Int)<(NP:Int):=by omega
 clear hvol hpol hone hW0 hz hb0 hzk hzl hob hpb hv hp hsz
 go_enter Tryz.func51,Tryz.ntmps51
 go_upto_region 1 with fail
 rw[←HW0.out,←HQ.out]
 refine region_tail (S:=(fun w'=>w'.cell? ⟨z,5,none⟩=some (.slice (some ⟨pb,pof,none⟩) NP cp)∧w'.cell? ⟨z,6,none⟩=some (.slice (some ⟨ob,oof,none⟩) NO co)∧w'.cell? ⟨ob,oof+v * 2+1,none⟩=some (.int .i64 (p0:Int))∧w'.rangeAt pb (pof+p0 * 17) [a0,.int .i64 KK,.int .i64 MM,.int .i64 QQ,a4,a5,a6,a7,a8,a9,a10,a11,a12,a13,a14,a15,a16])) [11] (by kernel_rfl) (HSK.out _ (Below.refl _ _).drew) (fun hHeld=>?_)
 refine tk 0 6 ?_
 refine tk 1 7 ?_
 refine tk 2 8 ?_
 refine tk 3 9 ?_
 refine tk 4 10 ?_
 refine tk 5 11 ?_
 refine tk 6 12 ?_
 refine tk 7 13 ?_
 refine tk 8 14 ?_
 refine takeT (i:=9) (d:=15) (v:=(.agg #[a0,.int .i64 KK,.int .i64 MM,.int .i64 QQ,a4,a5,a6,a7,a8,a9,a10,a11,a12,a13,a14,a15,a16])) rfl rfl (by kernel_rfl) (by kernel_rfl) (by kernel_rfl) (by kernel_rfl) (fun _ _ _ h=>h) (yieldsIf_load_mid (by rfl) 55 (.tmp 14) rfl pb (pof+p0 * 17) (by rfl) [a0,.int .i64 KK,.int .i64 MM,.int .i64 QQ,a4,a5,a6,a7,a8,a9,a10,a11,a12,a13,a14,a15,a16] _ (fun w hw=>hw.2.2.2) Tryz.underlying55 rfl size_pol) (by assumption) ?_
 (try simp only[Act.put,z1,z2,z3])
 refine readyT (rs:=[10]) (by kernel_rfl) (by simp) ?_
 refine AllReadyT.cons rfl (fun K hK=>?_) ?_
 ·go_simp
  refine hK.out _ _ ?_ (fun hHeld=>?_)
  ·exact HSK.out _ ((Below.refl _ _).drew.alloc (Nat.le_refl _) _)
  clear hK K
  (try simp only[Act.put,z1,z2,z3])
  refine readyT (rs:=[11]) (by kernel_rfl) (by simp) ?_
  refine AllReadyT.consT rfl rfl (fun K hK=>?_) ?_
  ·rw[if_pos (by rfl)]
   refine wp_store_mid 55 (.tmp 5) (.tmp 15) rfl W0.heap.size 0 #[a0,.int .i64 KK,.int .i64 MM,.int .i64 QQ,a4,a5,a6,a7,a8,a9,a10,a11,a12,a13,a14,a15,a16] (by rfl) (by rfl) HTH.out size_pol HON.out ?_
   refine hK.out _ _ ?_
   clear hK K
   (try simp only[Act.put,z1,z2,z3])
   refine doneT (by kernel_rfl) ?_ _
   clear hHeld
   obtain⟨W6,hW6⟩:=zx (World.setCells ((W0.alloc (.cells #[.string ⟨#[]⟩,.int .i64 0,.int .i64 0,.int .i64 0,.int .i64 0,.int .i64 0,.int .i64 0,.int .i64 0,.int .i64 0,.slice none 0 0,.slice none 0 0,.bool false,.slice none 0 0,.slice none 0 0,.bool false,.slice none 0 0,.slice none 0 0] 55)).drew) W0.heap.size 0 [a0,.int .i64 KK,.int .i64 MM,.int .i64 QQ,a4,a5,a6,a7,a8,a9,a10,a11,a12,a13,a14,a15,a16])
   obtain⟨gp,hgp⟩:=zx W0.heap.size
   rw[←hW6,←hgp]
   have hb6:Below W0.heap.size W0 W6:=by rw[hW6];exact below_setCellsV (Nat.le_refl _) _ _ _ ((Below.refl _ _).alloc (Nat.le_refl _) _).drew
   have hgr:W6.rangeAt gp 0 [a0,.int .i64 KK,.int .i64 MM,.int .i64 QQ,a4,a5,a6,a7,a8,a9,a10,a11,a12,a13,a14,a15,a16]:=by rw[hW6,hgp];exact World.rangeAt_setCells_same _ _ _ _ HTH.out
   have g1:W6.cell? ⟨gp,1,none⟩=some (.int .i64 KK):=hgr 1 _ rfl
   have g2:W6.cell? ⟨gp,2,none⟩=some (.int .i64 MM):=hgr 2 _ rfl
   have HB6:=zh (HB0.out.trans (hb6.mono HB0.out.size))
   clear hW6 hgp hb6 hgr HTH HSK
   go_wp2_with fail
   go_ret
   exact⟨rfl,HB6.out⟩
  exact AllReadyT.nil
 exact AllReadyT.nil
theorem rfragments_any(N:Nat) (hN:N≤12) (vl vm vd vv vp vo:Value) (F:FltM) (v:Nat) (w:World) (hf:FleetS w (Bl w.heap.size) vl vm vd vv vp vo F) (hok:FleetOk N F) (hv:v<F.vols.length) :
  Calls Tryz.prog 52 #[.agg #[.int .i64 F.ext,vl,vm,vd,vv,vp,vo],.int .i64 (v:Int)] w fun e w'=>e=.returned (.int .i64 (szN F v:Int))∧Below w.heap.size w w':=by
 obtain⟨pb,pof,ob,oof,cp,co,rfl,rfl,hRp,hRo,hat⟩:=polAt hf hok
 obtain⟨hp,nm,hvol,a0,a4,a5,a6,a7,a8,a9,a10,a11,a12,a13,a14,a15,a16,hpol,hone⟩:=hat v hv
 obtain⟨hk1,hm0,hm4,-,-⟩:=kmq_ok hok hv
 have hsz:=szN_eq hok hv
 obtain⟨NP,hNP⟩:=zx F.pols.length
 obtain⟨NO,hNO⟩:=zx F.vols.length
 have hNP2:NP≤2:=by rw[hNP];exact hok.polN
 have hNO12:NO≤12:=by rw[hNO];have:=hok.volN;omega
 obtain⟨p0,hp0⟩:=zx (volP F v)
 obtain⟨KK,hKK⟩:=zx (kOf F v)
 obtain⟨MM,hMM⟩:=zx (mOf F v)
 obtain⟨QQ,hQQ⟩:=zx (qOf F v)
 obtain⟨EX,hEX⟩:=zx F.ext
 obtain⟨SZ,hSZ⟩:∃n:Int,n=(szN F v:Int):=⟨_,rfl⟩
 rw[←hp0] at hvol hpol hp
 rw[←hKK,←hMM,←hQQ] at hpol hone
 rw[←hKK] at hk1 hsz
 rw[←hMM] at hm0 hm4 hsz
 rw[←hSZ] at hsz
 rw[←hNP] at hp
 rw[←hNO] at hv
 rw[←hEX,←hNP,←hNO,←hSZ]
 clear hp0 hKK hMM hQQ hEX hNP hNO hSZ hat hf hok
 have hsum:IntKind.i64.wrap (KK+MM)=SZ:=by rw[hsz];exact IntWalk.i64_in _ (by omega)
 have hsum2:wrap64 (KK+MM)=SZ:=by rw[hsz];exact IntWalk.wrap64_in _ (by omega)
 obtain⟨W0,hW0⟩:=zx (w.alloc (.cells #[.int .i64 EX,vl,vm,vd,vv,.slice (some ⟨pb,pof,none⟩) NP cp,.slice (some ⟨ob,oof,none⟩) NO co] 35))
 obtain⟨z,hz⟩:=zx w.heap.size
 have hb0:Below w.heap.size w W0:=by rw[hW0];exact(Below.refl _ _).alloc (Nat.le_refl _) _
 have hzk:W0.heap[z]?=some (.cells #[.int .i64 EX,vl,vm,vd,vv,.slice (some ⟨pb,pof,none⟩) NP cp,.slice (some ⟨ob,oof,none⟩) NO co] 35 (0,0)):=by rw[hW0,hz];exact heap_alloc_new w _
 have hzl:z<W0.heap.size:=(Array.getElem?_eq_some_iff.1 hzk).1
 have hob:ob<w.heap.size:=World.block_lt_of_cell? w _ (hvol 0 _ rfl)
 have hpb:pb<w.heap.size:=World.block_lt_of_cell? w _ (hpol 0 _ rfl)
 have HSK:=zh (fun(w':World) (hb:Below W0.heap.size W0 w')=>(show w'.cell? ⟨z,5,none⟩=some (.slice (some ⟨pb,pof,none⟩) NP cp)∧w'.cell? ⟨z,6,none⟩=some (.slice (some ⟨ob,oof,none⟩) NO co)∧w'.cell? ⟨ob,oof+v * 2+1,none⟩=some (.int .i64 (p0:Int))∧w'.rangeAt pb (pof+p0 * 17) [a0,.int .i64 KK,.int .i64 MM,.int .i64 QQ,a4,a5,a6,a7,a8,a9,a10,a11,a12,a13,a14,a15,a16] from
  ⟨by rw[cell_of_row w' z 5 _ _ _ ((hb.block z hzl).trans hzk)];rfl,by rw[cell_of_row w' z 6 _ _ _ ((hb.block z hzl).trans hzk)];rfl,(World.cell?_of_block (w:=w) (w':=w') ((hb.block ob (Nat.lt_of_lt_of_le hob hb0.size)).trans (hb0.block ob hob))).trans (hvol 1 _ rfl),range_same hpol ((hb.block pb (Nat.lt_of_lt_of_le hpb hb0.size)).trans (hb0.block pb hpb))⟩))
 have HTH:=zh (show((W0.alloc (.cells #[.string ⟨#[]⟩,.int .i64 0,.int .i64 0,.int .i64 0,.int .i64 0,.int .i64 0,.int .i64 0,.int .i64 0,.int .i64 0,.slice none 0 0,.slice none 0 0,.bool false,.slice none 0 0,.slice none 0 0,.bool false,.slice none 0 0,.slice none 0 0] 55)).drew).there W0.heap.size 0 17 from there_new (w:=(W0.alloc (.cells #[.string ⟨#[]⟩,.int .i64 0,.int .i64 0,.int .i64 0,.int .i64 0,.int .i64 0,.int .i64 0,.int .i64 0,.int .i64 0,.slice none 0 0,.slice none 0 0,.bool false,.slice none 0 0,.slice none 0 0,.bool false,.slice none 0 0,.slice none 0 0] 55)).drew) (cs:=#[.string ⟨#[]⟩,.int .i64 0,.int .i64 0,.int .i64 0,.int .i64 0,.int .i64 0,.int .i64 0,.int .i64 0,.int .i64 0,.slice none 0 0,.slice none 0 0,.bool false,.slice none 0 0,.slice none 0 0,.bool false,.slice none 0 0,.slice none 0 0]) (heap_alloc_new W0 _) (Nat.le_refl 17))
 have HON:=zh hone
 have HW0:=zh hW0
 have HQ:=zh hz
 have HB0:=zh hb0
 have i1:(v:Int)<(NO:Int):=by omega
 have i2:(p0:Int)<(NP:Int):=by omega
 clear hvol hpol hone hW0 hz hb0 hzk hzl hob hpb hv hp hsz
 go_enter Tryz.func52,Tryz.ntmps52
 go_upto_region 1 with fail
 rw[←HW0.out,←HQ.out]
 refine region_tail (S:=(fun w'=>w'.cell? ⟨z,5,none⟩=some (.slice (some ⟨pb,pof,none⟩) NP cp)∧w'.cell? ⟨z,6,none⟩=some (.slice (some ⟨ob,oof,none⟩) NO co)∧w'.cell? ⟨ob,oof+v * 2+1,none⟩=some (.int .i64 (p0:Int))∧w'.rangeAt pb (pof+p0 * 17) [a0,.int .i64 KK,.int .i64 MM,.int .i64 QQ,a4,a5,a6,a7,a8,a9,a10,a11,a12,a13,a14,a15,a16])) [11] (by kernel_rfl) (HSK.out _ (Below.refl _ _).drew) (fun hHeld=>?_)
 refine tk 0 6 ?_
 refine tk 1 7 ?_
 refine tk 2 8 ?_
 refine tk 3 9 ?_
 refine tk 4 10 ?_
 refine tk 5 11 ?_
 refine tk 6 12 ?_
 refine tk 7 13 ?_
 refine tk 8 14 ?_
 refine takeT (i:=9) (d:=15) (v:=(.agg #[a0,.int .i64 KK,.int .i64 MM,.int .i64 QQ,a4,a5,a6,a7,a8,a9,a10,a11,a12,a13,a14,a15,a16])) rfl rfl (by kernel_rfl) (by kernel_rfl) (by kernel_rfl) (by kernel_rfl) (fun _ _ _ h=>h) (yieldsIf_load_mid (by rfl) 55 (.tmp 14) rfl pb (pof+p0 * 17) (by rfl) [a0,.int .i64 KK,.int .i64 MM,.int .i64 QQ,a4,a5,a6,a7,a8,a9,a10,a11,a12,a13,a14,a15,a16] _ (fun w hw=>hw.2.2.2) Tryz.underlying55 rfl size_pol) (by assumption) ?_
 (try simp only[Act.put,z1,z2,z3])
 refine readyT (rs:=[10]) (by kernel_rfl) (by simp) ?_
 refine AllReadyT.cons rfl (fun K hK=>?_) ?_
 ·go_simp
  refine hK.out _ _ ?_ (fun hHeld=>?_)
  ·exact HSK.out _ ((Below.refl _ _).drew.alloc (Nat.le_refl _) _)
  clear hK K
  (try simp only[Act.put,z1,z2,z3])
  refine readyT (rs:=[11]) (by kernel_rfl) (by simp) ?_
  refine AllReadyT.consT rfl rfl (fun K hK=>?_) ?_
  ·rw[if_pos (by rfl)]
   refine wp_store_mid 55 (.tmp 5) (.tmp 15) rfl W0.heap.size 0 #[a0,.int .i64 KK,.int .i64 MM,.int .i64 QQ,a4,a5,a6,a7,a8,a9,a10,a11,a12,a13,a14,a15,a16] (by rfl) (by rfl) HTH.out size_pol HON.out ?_
   refine hK.out _ _ ?_
   clear hK K
   (try simp only[Act.put,z1,z2,z3])
   refine doneT (by kernel_rfl) ?_ _
   clear hHeld
   obtain⟨W6,hW6⟩:=zx (World.setCells ((W0.alloc (.cells #[.string ⟨#[]⟩,.int .i64 0,.int .i64 0,.int .i64 0,.int .i64 0,.int .i64 0,.int .i64 0,.int .i64 0,.int .i64 0,.slice none 0 0,.slice none 0 0,.bool false,.slice none 0 0,.slice none 0 0,.bool false,.slice none 0 0,.slice none 0 0] 55)).drew) W0.heap.size 0 [a0,.int .i64 KK,.int .i64 MM,.int .i64 QQ,a4,a5,a6,a7,a8,a9,a10,a11,a12,a13,a14,a15,a16])
   obtain⟨gp,hgp⟩:=zx W0.heap.size
   rw[←hW6,←hgp]
   have hb6:Below W0.heap.size W0 W6:=by rw[hW6];exact below_setCellsV (Nat.le_refl _) _ _ _ ((Below.refl _ _).alloc (Nat.le_refl _) _).drew
   have hgr:W6.rangeAt gp 0 [a0,.int .i64 KK,.int .i64 MM,.int .i64 QQ,a4,a5,a6,a7,a8,a9,a10,a11,a12,a13,a14,a15,a16]:=by rw[hW6,hgp];exact World.rangeAt_setCells_same _ _ _ _ HTH.out
   have g1:W6.cell? ⟨gp,1,none⟩=some (.int .i64 KK):=hgr 1 _ rfl
   have g2:W6.cell? ⟨gp,2,none⟩=some (.int .i64 MM):=hgr 2 _ rfl
   have HB6:=zh (HB0.out.trans (hb6.mono HB0.out.size))
   clear hW6 hgp hb6 hgr HTH HSK
   go_wp2_with fail
   go_ret
   exact⟨rfl,HB6.out⟩
  exact AllReadyT.nil
 exact AllReadyT.nil
theorem tfragments_any(N:Nat) (hN:N≤12) (vl vm vd vv vp vo:Value) (F:FltM) (v:Nat) (w:World) (hf:FleetS w (Bl w.heap.size) vl vm vd vv vp vo F) (hok:FleetOk N F) (hv:v<F.vols.length) :
  Calls Tryz.prog 50 #[.agg #[.int .i64 F.ext,vl,vm,vd,vv,vp,vo],.int .i64 (v:Int)] w fun e w'=>e=.returned (.int .i64 (szN F v:Int))∧Below w.heap.size w w':=by
 obtain⟨pb,pof,ob,oof,cp,co,rfl,rfl,hRp,hRo,hat⟩:=polAt hf hok
 obtain⟨hp,nm,hvol,a0,a4,a5,a6,a7,a8,a9,a10,a11,a12,a13,a14,a15,a16,hpol,hone⟩:=hat v hv
 obtain⟨hk1,hm0,hm4,-,-⟩:=kmq_ok hok hv
 have hsz:=szN_eq hok hv
 obtain⟨NP,hNP⟩:=zx F.pols.length
 obtain⟨NO,hNO⟩:=zx F.vols.length
 have hNP2:NP≤2:=by rw[hNP];exact hok.polN
 have hNO12:NO≤12:=by rw[hNO];have:=hok.volN;omega
 obtain⟨p0,hp0⟩:=zx (volP F v)
 obtain⟨KK,hKK⟩:=zx (kOf F v)
 obtain⟨MM,hMM⟩:=zx (mOf F v)
 obtain⟨QQ,hQQ⟩:=zx (qOf F v)
 obtain⟨EX,hEX⟩:=zx F.ext
 obtain⟨SZ,hSZ⟩:∃n:Int,n=(szN F v:Int):=⟨_,rfl⟩
 rw[←hp0] at hvol hpol hp
 rw[←hKK,←hMM,←hQQ] at hpol hone
 rw[←hKK] at hk1 hsz
 rw[←hMM] at hm0 hm4 hsz
 rw[←hSZ] at hsz
 rw[←hNP] at hp
 rw[←hNO] at hv
 rw[←hEX,←hNP,←hNO,←hSZ]
 clear hp0 hKK hMM hQQ hEX hNP hNO hSZ hat hf hok
 have hsum:IntKind.i64.wrap (KK+MM)=SZ:=by rw[hsz];exact IntWalk.i64_in _ (by omega)
 have hsum2:wrap64 (KK+MM)=SZ:=by rw[hsz];exact IntWalk.wrap64_in _ (by omega)
 obtain⟨W0,hW0⟩:=zx (w.alloc (.cells #[.int .i64 EX,vl,vm,vd,vv,.slice (some ⟨pb,pof,none⟩) NP cp,.slice (some ⟨ob,oof,none⟩) NO co] 35))
 obtain⟨z,hz⟩:=zx w.heap.size
 have hb0:Below w.heap.size w W0:=by rw[hW0];exact(Below.refl _ _).alloc (Nat.le_refl _) _
 have hzk:W0.heap[z]?=some (.cells #[.int .i64 EX,vl,vm,vd,vv,.slice (some ⟨pb,pof,none⟩) NP cp,.slice (some ⟨ob,oof,none⟩) NO co] 35 (0,0)):=by rw[hW0,hz];exact heap_alloc_new w _
 have hzl:z<W0.heap.size:=(Array.getElem?_eq_some_iff.1 hzk).1
 have hob:ob<w.heap.size:=World.block_lt_of_cell? w _ (hvol 0 _ rfl)
 have hpb:pb<w.heap.size:=World.block_lt_of_cell? w _ (hpol 0 _ rfl)
 have HSK:=zh (fun(w':World) (hb:Below W0.heap.size W0 w')=>(show w'.cell? ⟨z,5,none⟩=some (.slice (some ⟨pb,pof,none⟩) NP cp)∧w'.cell? ⟨z,6,none⟩=some (.slice (some ⟨ob,oof,none⟩) NO co)∧w'.cell? ⟨ob,oof+v * 2+1,none⟩=some (.int .i64 (p0:Int))∧w'.rangeAt pb (pof+p0 * 17) [a0,.int .i64 KK,.int .i64 MM,.int .i64 QQ,a4,a5,a6,a7,a8,a9,a10,a11,a12,a13,a14,a15,a16] from
  ⟨by rw[cell_of_row w' z 5 _ _ _ ((hb.block z hzl).trans hzk)];rfl,by rw[cell_of_row w' z 6 _ _ _ ((hb.block z hzl).trans hzk)];rfl,(World.cell?_of_block (w:=w) (w':=w') ((hb.block ob (Nat.lt_of_lt_of_le hob hb0.size)).trans (hb0.block ob hob))).trans (hvol 1 _ rfl),range_same hpol ((hb.block pb (Nat.lt_of_lt_of_le hpb hb0.size)).trans (hb0.block pb hpb))⟩))
 have HTH:=zh (show((W0.alloc (.cells #[.string ⟨#[]⟩,.int .i64 0,.int .i64 0,.int .i64 0,.int .i64 0,.int .i64 0,.int .i64 0,.int .i64 0,.int .i64 0,.slice none 0 0,.slice none 0 0,.bool false,.slice none 0 0,.slice none 0 0,.bool false,.slice none 0 0,.slice none 0 0] 55)).drew).there W0.heap.size 0 17 from there_new (w:=(W0.alloc (.cells #[.string ⟨#[]⟩,.int .i64 0,.int .i64 0,.int .i64 0,.int .i64 0,.int .i64 0,.int .i64 0,.int .i64 0,.int .i64 0,.slice none 0 0,.slice none 0 0,.bool false,.slice none 0 0,.slice none 0 0,.bool false,.slice none 0 0,.slice none 0 0] 55)).drew) (cs:=#[.string ⟨#[]⟩,.int .i64 0,.int .i64 0,.int .i64 0,.int .i64 0,.int .i64 0,.int .i64 0,.int .i64 0,.int .i64 0,.slice none 0 0,.slice none 0 0,.bool false,.slice none 0 0,.slice none 0 0,.bool false,.slice none 0 0,.slice none 0 0]) (heap_alloc_new W0 _) (Nat.le_refl 17))
 have HON:=zh hone
 have HW0:=zh hW0
 have HQ:=zh hz
 have HB0:=zh hb0
 have i1:(v:Int)<(NO:Int):=by omega
 have i2:(p0:Int)<(NP:Int):=by omega
 clear hvol hpol hone hW0 hz hb0 hzk hzl hob hpb hv hp hsz
 go_enter Tryz.func50,Tryz.ntmps50
 go_upto_region 1 with fail
 rw[←HW0.out,←HQ.out]
 refine region_tail (S:=(fun w'=>w'.cell? ⟨z,5,none⟩=some (.slice (some ⟨pb,pof,none⟩) NP cp)∧w'.cell? ⟨z,6,none⟩=some (.slice (some ⟨ob,oof,none⟩) NO co)∧w'.cell? ⟨ob,oof+v * 2+1,none⟩=some (.int .i64 (p0:Int))∧w'.rangeAt pb (pof+p0 * 17) [a0,.int .i64 KK,.int .i64 MM,.int .i64 QQ,a4,a5,a6,a7,a8,a9,a10,a11,a12,a13,a14,a15,a16])) [11] (by kernel_rfl) (HSK.out _ (Below.refl _ _).drew) (fun hHeld=>?_)
 refine tk 0 6 ?_
 refine tk 1 7 ?_
 refine tk 2 8 ?_
 refine tk 3 9 ?_
 refine tk 4 10 ?_
 refine tk 5 11 ?_
 refine tk 6 12 ?_
 refine tk 7 13 ?_
 refine tk 8 14 ?_
 refine takeT (i:=9) (d:=15) (v:=(.agg #[a0,.int .i64 KK,.int .i64 MM,.int .i64 QQ,a4,a5,a6,a7,a8,a9,a10,a11,a12,a13,a14,a15,a16])) rfl rfl (by kernel_rfl) (by kernel_rfl) (by kernel_rfl) (by kernel_rfl) (fun _ _ _ h=>h) (yieldsIf_load_mid (by rfl) 55 (.tmp 14) rfl pb (pof+p0 * 17) (by rfl) [a0,.int .i64 KK,.int .i64 MM,.int .i64 QQ,a4,a5,a6,a7,a8,a9,a10,a11,a12,a13,a14,a15,a16] _ (fun w hw=>hw.2.2.2) Tryz.underlying55 rfl size_pol) (by assumption) ?_
 (try simp only[Act.put,z1,z2,z3])
 refine readyT (rs:=[10]) (by kernel_rfl) (by simp) ?_
 refine AllReadyT.cons rfl (fun K hK=>?_) ?_
 ·go_simp
  refine hK.out _ _ ?_ (fun hHeld=>?_)
  ·exact HSK.out _ ((Below.refl _ _).drew.alloc (Nat.le_refl _) _)
  clear hK K
  (try simp only[Act.put,z1,z2,z3])
  refine readyT (rs:=[11]) (by kernel_rfl) (by simp) ?_
  refine AllReadyT.consT rfl rfl (fun K hK=>?_) ?_
  ·rw[if_pos (by rfl)]
   refine wp_store_mid 55 (.tmp 5) (.tmp 15) rfl W0.heap.size 0 #[a0,.int .i64 KK,.int .i64 MM,.int .i64 QQ,a4,a5,a6,a7,a8,a9,a10,a11,a12,a13,a14,a15,a16] (by rfl) (by rfl) HTH.out size_pol HON.out ?_
   refine hK.out _ _ ?_
   clear hK K
   (try simp only[Act.put,z1,z2,z3])
   refine doneT (by kernel_rfl) ?_ _
   clear hHeld
   obtain⟨W6,hW6⟩:=zx (World.setCells ((W0.alloc (.cells #[.string ⟨#[]⟩,.int .i64 0,.int .i64 0,.int .i64 0,.int .i64 0,.int .i64 0,.int .i64 0,.int .i64 0,.int .i64 0,.slice none 0 0,.slice none 0 0,.bool false,.slice none 0 0,.slice none 0 0,.bool false,.slice none 0 0,.slice none 0 0] 55)).drew) W0.heap.size 0 [a0,.int .i64 KK,.int .i64 MM,.int .i64 QQ,a4,a5,a6,a7,a8,a9,a10,a11,a12,a13,a14,a15,a16])
   obtain⟨gp,hgp⟩:=zx W0.heap.size
   rw[←hW6,←hgp]
   have hb6:Below W0.heap.size W0 W6:=by rw[hW6];exact below_setCellsV (Nat.le_refl _) _ _ _ ((Below.refl _ _).alloc (Nat.le_refl _) _).drew
   have hgr:W6.rangeAt gp 0 [a0,.int .i64 KK,.int .i64 MM,.int .i64 QQ,a4,a5,a6,a7,a8,a9,a10,a11,a12,a13,a14,a15,a16]:=by rw[hW6,hgp];exact World.rangeAt_setCells_same _ _ _ _ HTH.out
   have g1:W6.cell? ⟨gp,1,none⟩=some (.int .i64 KK):=hgr 1 _ rfl
   have g2:W6.cell? ⟨gp,2,none⟩=some (.int .i64 MM):=hgr 2 _ rfl
   have HB6:=zh (HB0.out.trans (hb6.mono HB0.out.size))
   clear hW6 hgp hb6 hgr HTH HSK
   go_wp2_with fail
   go_ret
   exact⟨rfl,HB6.out⟩
  exact AllReadyT.nil
 exact AllReadyT.nil
theorem gfragments_any(N:Nat) (hN:N≤12) (vl vm vd vv vp vo:Value) (F:FltM) (v:Nat) (w:World) (hf:FleetS w (Bl w.heap.size) vl vm vd vv vp vo F) (hok:FleetOk N F) (hv:v<F.vols.length) :
  Calls Tryz.prog 150 #[.agg #[.int .i64 F.ext,vl,vm,vd,vv,vp,vo],.int .i64 (v:Int)] w fun e w'=>e=.returned (.int .i64 (szN F v:Int))∧Below w.heap.size w w':=by
 obtain⟨pb,pof,ob,oof,cp,co,rfl,rfl,hRp,hRo,hat⟩:=polAt hf hok
 obtain⟨hp,nm,hvol,a0,a4,a5,a6,a7,a8,a9,a10,a11,a12,a13,a14,a15,a16,hpol,hone⟩:=hat v hv
 obtain⟨hk1,hm0,hm4,-,-⟩:=kmq_ok hok hv
 have hsz:=szN_eq hok hv
 obtain⟨NP,hNP⟩:=zx F.pols.length
 obtain⟨NO,hNO⟩:=zx F.vols.length
 have hNP2:NP≤2:=by rw[hNP];exact hok.polN
 have hNO12:NO≤12:=by rw[hNO];have:=hok.volN;omega
 obtain⟨p0,hp0⟩:=zx (volP F v)
 obtain⟨KK,hKK⟩:=zx (kOf F v)
 obtain⟨MM,hMM⟩:=zx (mOf F v)
 obtain⟨QQ,hQQ⟩:=zx (qOf F v)
 obtain⟨EX,hEX⟩:=zx F.ext
 obtain⟨SZ,hSZ⟩:∃n:Int,n=(szN F v:Int):=⟨_,rfl⟩
 rw[←hp0] at hvol hpol hp
 rw[←hKK,←hMM,←hQQ] at hpol hone
 rw[←hKK] at hk1 hsz
 rw[←hMM] at hm0 hm4 hsz
 rw[←hSZ] at hsz
 rw[←hNP] at hp
 rw[←hNO] at hv
 rw[←hEX,←hNP,←hNO,←hSZ]
 clear hp0 hKK hMM hQQ hEX hNP hNO hSZ hat hf hok
 have hsum:IntKind.i64.wrap (KK+MM)=SZ:=by rw[hsz];exact IntWalk.i64_in _ (by omega)
 have hsum2:wrap64 (KK+MM)=SZ:=by rw[hsz];exact IntWalk.wrap64_in _ (by omega)
 obtain⟨W0,hW0⟩:=zx (w.alloc (.cells #[.int .i64 EX,vl,vm,vd,vv,.slice (some ⟨pb,pof,none⟩) NP cp,.slice (some ⟨ob,oof,none⟩) NO co] 35))
 obtain⟨z,hz⟩:=zx w.heap.size
 have hb0:Below w.heap.size w W0:=by rw[hW0];exact(Below.refl _ _).alloc (Nat.le_refl _) _
 have hzk:W0.heap[z]?=some (.cells #[.int .i64 EX,vl,vm,vd,vv,.slice (some ⟨pb,pof,none⟩) NP cp,.slice (some ⟨ob,oof,none⟩) NO co] 35 (0,0)):=by rw[hW0,hz];exact heap_alloc_new w _
 have hzl:z<W0.heap.size:=(Array.getElem?_eq_some_iff.1 hzk).1
 have hob:ob<w.heap.size:=World.block_lt_of_cell? w _ (hvol 0 _ rfl)
 have hpb:pb<w.heap.size:=World.block_lt_of_cell? w _ (hpol 0 _ rfl)
 have HSK:=zh (fun(w':World) (hb:Below W0.heap.size W0 w')=>(show w'.cell? ⟨z,5,none⟩=some (.slice (some ⟨pb,pof,none⟩) NP cp)∧w'.cell? ⟨z,6,none⟩=some (.slice (some ⟨ob,oof,none⟩) NO co)∧w'.cell? ⟨ob,oof+v * 2+1,none⟩=some (.int .i64 (p0:Int))∧w'.rangeAt pb (pof+p0 * 17) [a0,.int .i64 KK,.int .i64 MM,.int .i64 QQ,a4,a5,a6,a7,a8,a9,a10,a11,a12,a13,a14,a15,a16] from
  ⟨by rw[cell_of_row w' z 5 _ _ _ ((hb.block z hzl).trans hzk)];rfl,by rw[cell_of_row w' z 6 _ _ _ ((hb.block z hzl).trans hzk)];rfl,(World.cell?_of_block (w:=w) (w':=w') ((hb.block ob (Nat.lt_of_lt_of_le hob hb0.size)).trans (hb0.block ob hob))).trans (hvol 1 _ rfl),range_same hpol ((hb.block pb (Nat.lt_of_lt_of_le hpb hb0.size)).trans (hb0.block pb hpb))⟩))
 have HTH:=zh (show((W0.alloc (.cells #[.string ⟨#[]⟩,.int .i64 0,.int .i64 0,.int .i64 0,.int .i64 0,.int .i64 0,.int .i64 0,.int .i64 0,.int .i64 0,.slice none 0 0,.slice none 0 0,.bool false,.slice none 0 0,.slice none 0 0,.bool false,.slice none 0 0,.slice none 0 0] 55)).drew).there W0.heap.size 0 17 from there_new (w:=(W0.alloc (.cells #[.string ⟨#[]⟩,.int .i64 0,.int .i64 0,.int .i64 0,.int .i64 0,.int .i64 0,.int .i64 0,.int .i64 0,.int .i64 0,.slice none 0 0,.slice none 0 0,.bool false,.slice none 0 0,.slice none 0 0,.bool false,.slice none 0 0,.slice none 0 0] 55)).drew) (cs:=#[.string ⟨#[]⟩,.int .i64 0,.int .i64 0,.int .i64 0,.int .i64 0,.int .i64 0,.int .i64 0,.int .i64 0,.int .i64 0,.slice none 0 0,.slice none 0 0,.bool false,.slice none 0 0,.slice none 0 0,.bool false,.slice none 0 0,.slice none 0 0]) (heap_alloc_new W0 _) (Nat.le_refl 17))
 have HON:=zh hone
 have HW0:=zh hW0
 have HQ:=zh hz
 have HB0:=zh hb0
 have i1:(v:Int)<(NO:Int):=by omega
 have i2:(p0:Int)<(NP:Int):=by omega
 clear hvol hpol hone hW0 hz hb0 hzk hzl hob hpb hv hp hsz
 go_enter Tryz.func150,Tryz.ntmps150
 go_upto_region 1 with fail
 rw[←HW0.out,←HQ.out]
 refine region_tail (S:=(fun w'=>w'.cell? ⟨z,5,none⟩=some (.slice (some ⟨pb,pof,none⟩) NP cp)∧w'.cell? ⟨z,6,none⟩=some (.slice (some ⟨ob,oof,none⟩) NO co)∧w'.cell? ⟨ob,oof+v * 2+1,none⟩=some (.int .i64 (p0:Int))∧w'.rangeAt pb (pof+p0 * 17) [a0,.int .i64 KK,.int .i64 MM,.int .i64 QQ,a4,a5,a6,a7,a8,a9,a10,a11,a12,a13,a14,a15,a16])) [11] (by kernel_rfl) (HSK.out _ (Below.refl _ _).drew) (fun hHeld=>?_)
 refine tk 0 6 ?_
 refine tk 1 7 ?_
 refine tk 2 8 ?_
 refine tk 3 9 ?_
 refine tk 4 10 ?_
 refine tk 5 11 ?_
 refine tk 6 12 ?_
 refine tk 7 13 ?_
 refine tk 8 14 ?_
 refine takeT (i:=9) (d:=15) (v:=(.agg #[a0,.int .i64 KK,.int .i64 MM,.int .i64 QQ,a4,a5,a6,a7,a8,a9,a10,a11,a12,a13,a14,a15,a16])) rfl rfl (by kernel_rfl) (by kernel_rfl) (by kernel_rfl) (by kernel_rfl) (fun _ _ _ h=>h) (yieldsIf_load_mid (by rfl) 55 (.tmp 14) rfl pb (pof+p0 * 17) (by rfl) [a0,.int .i64 KK,.int .i64 MM,.int .i64 QQ,a4,a5,a6,a7,a8,a9,a10,a11,a12,a13,a14,a15,a16] _ (fun w hw=>hw.2.2.2) Tryz.underlying55 rfl size_pol) (by assumption) ?_
 (try simp only[Act.put,z1,z2,z3])
 refine readyT (rs:=[10]) (by kernel_rfl) (by simp) ?_
 refine AllReadyT.cons rfl (fun K hK=>?_) ?_
 ·go_simp
  refine hK.out _ _ ?_ (fun hHeld=>?_)
  ·exact HSK.out _ ((Below.refl _ _).drew.alloc (Nat.le_refl _) _)
  clear hK K
  (try simp only[Act.put,z1,z2,z3])
  refine readyT (rs:=[11]) (by kernel_rfl) (by simp) ?_
  refine AllReadyT.consT rfl rfl (fun K hK=>?_) ?_
  ·rw[if_pos (by rfl)]
   refine wp_store_mid 55 (.tmp 5) (.tmp 15) rfl W0.heap.size 0 #[a0,.int .i64 KK,.int .i64 MM,.int .i64 QQ,a4,a5,a6,a7,a8,a9,a10,a11,a12,a13,a14,a15,a16] (by rfl) (by rfl) HTH.out size_pol HON.out ?_
   refine hK.out _ _ ?_
   clear hK K
   (try simp only[Act.put,z1,z2,z3])
   refine doneT (by kernel_rfl) ?_ _
   clear hHeld
   obtain⟨W6,hW6⟩:=zx (World.setCells ((W0.alloc (.cells #[.string ⟨#[]⟩,.int .i64 0,.int .i64 0,.int .i64 0,.int .i64 0,.int .i64 0,.int .i64 0,.int .i64 0,.int .i64 0,.slice none 0 0,.slice none 0 0,.bool false,.slice none 0 0,.slice none 0 0,.bool false,.slice none 0 0,.slice none 0 0] 55)).drew) W0.heap.size 0 [a0,.int .i64 KK,.int .i64 MM,.int .i64 QQ,a4,a5,a6,a7,a8,a9,a10,a11,a12,a13,a14,a15,a16])
   obtain⟨gp,hgp⟩:=zx W0.heap.size
   rw[←hW6,←hgp]
   have hb6:Below W0.heap.size W0 W6:=by rw[hW6];exact below_setCellsV (Nat.le_refl _) _ _ _ ((Below.refl _ _).alloc (Nat.le_refl _) _).drew
   have hgr:W6.rangeAt gp 0 [a0,.int .i64 KK,.int .i64 MM,.int .i64 QQ,a4,a5,a6,a7,a8,a9,a10,a11,a12,a13,a14,a15,a16]:=by rw[hW6,hgp];exact World.rangeAt_setCells_same _ _ _ _ HTH.out
   have g1:W6.cell? ⟨gp,1,none⟩=some (.int .i64 KK):=hgr 1 _ rfl
   have g2:W6.cell? ⟨gp,2,none⟩=some (.int .i64 MM):=hgr 2 _ rfl
   have HB6:=zh (HB0.out.trans (hb6.mono HB0.out.size))
   clear hW6 hgp hb6 hgr HTH HSK
   go_wp2_with fail
   go_ret
   exact⟨rfl,HB6.out⟩
  exact AllReadyT.nil
 exact AllReadyT.nil
end Go.Proofs.YtgfaieppacabjaaGreat

namespace Go.Proofs.YtgfaieppacabjaaGreat
open Go.RowKit
set_option linter.unusedVariables false
set_option linter.unusedSimpArgs false
theorem cells9{W:World} {g:Nat} {a b c d e f h i j:Value} {t:TypeId} (q:W.heap[g]?=some (.cells #[a,b,c,d,e,f,h,i,j] t (0,0))):W.cell? ⟨g,0,none⟩=some a∧W.cell? ⟨g,1,none⟩=some b∧W.cell? ⟨g,2,none⟩=some c∧W.cell? ⟨g,3,none⟩=some d∧W.cell? ⟨g,4,none⟩=some e∧W.cell? ⟨g,5,none⟩=some f∧W.cell? ⟨g,6,none⟩=some h∧W.cell? ⟨g,7,none⟩=some i∧W.cell? ⟨g,8,none⟩=some j:=by
 refine⟨?_,?_,?_,?_,?_,?_,?_,?_,?_⟩ <;> (rw[cell_of_row _ _ _ _ _ _ q];rfl)
theorem new7{w W:World} {a b c d e f g:Value} {t:TypeId} (h:W=w.alloc (.cells #[a,b,c,d,e,f,g] t)):W.heap[w.heap.size]?=some (.cells #[a,b,c,d,e,f,g] t (0,0))∧Below w.heap.size w W:=by
 subst h
 exact⟨heap_alloc_new _ _,(Below.refl _ _).alloc (Nat.le_refl _) _⟩
end Go.Proofs.YtgfaieppacabjaaGreat

namespace Go.Proofs.YtgfaieppacabjaaGreat
open Go.RowKit
set_option linter.unusedVariables false
set_option linter.unusedSimpArgs false
theorem rvalidate_k(N:Nat) (hN:N≤12) (vl vm vd vv vp vo:Value) (F:FltM) (w:World) (hf:FleetS w (Bl w.heap.size) vl vm vd vv vp vo F) (hok:FleetOk N F) :
  Calls Tryz.prog 17 #[.agg #[.int .i64 F.ext,vl,vm,vd,vv,vp,vo]] w fun e w'=>e=.returned (.int .i64 0)∧Below w.heap.size w w':=by
 obtain⟨W0,hW0⟩:=zx (w.alloc (.cells #[.int .i64 F.ext,vl,vm,vd,vv,vp,vo] 35))
 obtain⟨z,hz⟩:=zx w.heap.size
 have hb0:Below w.heap.size w W0:=by rw[hW0];exact(Below.refl _ _).alloc (Nat.le_refl _) _
 have hzk:W0.heap[z]?=some (.cells #[.int .i64 F.ext,vl,vm,vd,vv,vp,vo] 35 (0,0)):=by rw[hW0,hz];exact heap_alloc_new _ _
 obtain⟨c0,c1,c2,c3,c4,c5,c6⟩:=cells7 hzk
 have HV:=zh (rvalidf_any N hN vl vm vd vv vp vo F W0 (hf.below hb0) hok)
 have HW0:=zh hW0
 have HZ:=zh hz
 have HB0:=zh hb0
 obtain⟨EX,hEX⟩:=zx F.ext
 rw[←hEX] at HV HW0 c0 ⊢
 clear hf hok hW0 hz hb0 hzk hEX
 go_enter Tryz.func17,Tryz.ntmps17
 go_wp2_with fail
 rw[←HW0.out]
 refine HV.out.mono ?_
 rintro e w1 ⟨rfl,hb1⟩
 have HB1:=zh hb1
 clear c0 c1 c2 c3 c4 c5 c6 hb1
 go_wp2_with fail
 go_ret
 exact⟨rfl,HB0.out.trans (HB1.out.mono HB0.out.size)⟩
theorem size_vioL:(Tryz.prog.info? 166).map (·.size)=some 3:=by kernel_rfl
theorem size_fltL:(Tryz.prog.info? 35).map (·.size)=some 7:=by kernel_rfl
theorem boxed7{w W:World} {a b c d e f g:Value} {t:TypeId} (h:W=w.alloc (.cells #[a,b,c,d,e,f,g] t)):W.heap[w.heap.size]?=some (.cells #[a,b,c,d,e,f,g] t (0,0))∧Below w.heap.size w W:=by
 subst h
 exact⟨heap_alloc_new _ _,(Below.refl _ _).alloc (Nat.le_refl _) _⟩
theorem tvalid_any(N:Nat) (hN:N≤12) (vl vm vd vv vp vo:Value) (F:FltM) (w:World) (hf:FleetS w (Bl w.heap.size) vl vm vd vv vp vo F) (hok:FleetOk N F) :
  Calls Tryz.prog 105 #[.agg #[.int .i64 F.ext,vl,vm,vd,vv,vp,vo]] w fun e w'=>e=.returned (.bool true)∧Below w.heap.size w w':=by
 have HV:=zh (fun(w':World) (hb:Below w.heap.size w w')=>fvalidate_any N hN _ _ _ _ _ _ F w' (hf.below hb) hok)
 obtain⟨Al,nl,cl,rfl⟩:=hf.1.form3
 obtain⟨Am,nm,cm,rfl⟩:=hf.2.1.form3
 obtain⟨Ad,nd,cd,rfl⟩:=hf.2.2.1.form3
 obtain⟨Av,nv,cv,rfl⟩:=hf.2.2.2.1.form3
 obtain⟨Ap,np,cp,rfl⟩:=hf.2.2.2.2.1.form3
 obtain⟨Ao,no,co,rfl⟩:=hf.2.2.2.2.2.form3
 obtain⟨EX,hEX⟩:=zx F.ext
 rw[←hEX] at HV ⊢
 clear hf hok hEX
 obtain⟨W1,hW1⟩:=zx (w.alloc (.cells #[.int .i64 EX,.slice Al nl cl,.slice Am nm cm,.slice Ad nd cd,.slice Av nv cv,.slice Ap np cp,.slice Ao no co] 35))
 obtain⟨g0,hg0⟩:=zx w.heap.size
 have hk:=(boxed7 hW1).1
 have hb1:=(boxed7 hW1).2
 rw[←hg0] at hk
 have HB1:=zh hb1
 have HK:=zh hk
 have HW:=zh (And.intro hW1 hg0)
 clear hk hb1 hW1 hg0
 go_enter Tryz.func105,Tryz.ntmps105
 go_upto_region 1 with fail
 rw[←HW.out.1,←HW.out.2]
 obtain⟨c0,c1,c2,c3,c4,c5,c6⟩:=cells7 HK.out
 go_wp2_with fail
 refine(HV.out W1 HB1.out).mono ?_
 rintro e w2 ⟨rfl,hb2⟩
 have HB2:=zh (HB1.out.trans (hb2.mono HB1.out.size))
 clear hb2 c0 c1 c2 c3 c4 c5 c6
 go_wp2_with fail
 go_ret
 exact⟨rfl,HB2.out⟩
theorem shape_any(N:Nat) (hN:N≤12) (vl vm vd vv vp vo vL:Value) (F:FltM) (L:List (List Int)) (v:Nat) (w:World) (hf:FleetS w (Bl w.heap.size) vl vm vd vv vp vo F) (hok:FleetOk N F) (hl:SlS 1 RowIK w (Bl w.heap.size) vL L) (hlo:LayOk F F.vols.length L) (hv:v<F.vols.length) :
  Calls Tryz.prog 106 #[.agg #[.int .i64 F.ext,vl,vm,vd,vv,vp,vo],vL,.int .i64 (v:Int)] w fun e w'=>e=.returned (.tuple #[.agg #[.int .i64 0,.int .i64 0,.int .i64 0],.bool false])∧Below w.heap.size w w':=by
 have HFG:=zh (fun(w':World) (hb:Below w.heap.size w w')=>gfragments_any N hN _ _ _ _ _ _ F v w' (hf.below hb) hok hv)
 obtain⟨Al,nl,cl,rfl⟩:=hf.1.form3
 obtain⟨Am,nm,cm,rfl⟩:=hf.2.1.form3
 obtain⟨Ad,nd,cd,rfl⟩:=hf.2.2.1.form3
 obtain⟨Av,cv,hvv,-,hmv⟩:=hf.2.2.2.1.form
 subst hvv
 obtain⟨Ap,np,cp,rfl⟩:=hf.2.2.2.2.1.form3
 obtain⟨Ao,no,co,rfl⟩:=hf.2.2.2.2.2.form3
 obtain⟨AL,cL,hvL,-,hmL⟩:=hl.form
 subst hvL
 have hvl:v<L.length:=by rw[hlo.1];exact hv
 obtain⟨b,off,cs,hAe,hR,-,hc,hcs⟩:=hl.at_ (k:=v) hvl
 obtain⟨l,hll⟩:∃l,L[v]?=some l:=⟨_,List.getElem?_eq_getElem hvl⟩
 rw[(List.getElem?_eq_some_iff.1 hll).2] at hcs
 obtain⟨vr,rfl,hr⟩:=hcs
 subst hAe
 obtain⟨hlen,hrng⟩:=hlo.2 v l hll
 obtain⟨A1,c1,hv1,-,hm1⟩:=hr.form7
 subst hv1
 have hsz:=szN_range hok hv
 obtain⟨EX,hEX⟩:=zx F.ext
 obtain⟨NV,hNV⟩:=zx F.dves.length
 obtain⟨LN,hLN⟩:=zx l.length
 obtain⟨NO,hNO⟩:=zx L.length
 rw[←hlen,←hEX,←hLN,←hNV] at HFG
 rw[←hLN] at hc
 rw[←hNV] at hrng hmv
 rw[←hNO] at hmL hvl
 unfold maxLen at hmv hm1 hmL
 have f0:w.cell? ⟨b,off+v,none⟩=some (.slice A1 LN c1):=by have:=hc 0 _ rfl;simpa using this
 obtain⟨W1,hW1⟩:=zx ((w.alloc (.cells #[.int .i64 EX,.slice Al nl cl,.slice Am nm cm,.slice Ad nd cd,.slice Av NV cv,.slice Ap np cp,.slice Ao no co] 35)).alloc (.cells #[.int .i64 0,.int .i64 0,.int .i64 0] 166))
 obtain⟨g0,hg0⟩:=zx w.heap.size
 obtain⟨g1,hg1⟩:=zx (w.heap.size+1)
 have hb1:Below w.heap.size w W1:=by rw[hW1];exact((Below.refl _ _).alloc (Nat.le_refl _) _).alloc (by simp) _
 have i0:W1.heap[g0]?=some (.cells #[.int .i64 EX,.slice Al nl cl,.slice Am nm cm,.slice Ad nd cd,.slice Av NV cv,.slice Ap np cp,.slice Ao no co] 35 (0,0)):=by rw[hW1,hg0];exact(Below.heap_alloc _ _ _ (by simp)).trans (heap_alloc_new _ _)
 have i1:W1.heap[g1]?=some (.cells #[.int .i64 0,.int .i64 0,.int .i64 0] 166 (0,0)):=by rw[hW1,hg1];exact heap_alloc_at _ _ _ (by simp)
 have l0:=(Array.getElem?_eq_some_iff.1 i0).1
 have l1:=(Array.getElem?_eq_some_iff.1 i1).1
 have HBW:=zh (show ∀w',Below W1.heap.size W1 w'→Below w.heap.size w w' from fun w' hb=>hb1.trans (hb.mono hb1.size))
 have hrg:W1.rangeAt g0 0 [.int .i64 EX,.slice Al nl cl,.slice Am nm cm,.slice Ad nd cd,.slice Av NV cv,.slice Ap np cp,.slice Ao no co]:=fun j x hx=>by rw[cell_of_row _ _ _ _ _ _ i0,Nat.zero_add,←Array.getElem?_toList];exact hx
 have HSR:=zh (show ∀w',Below W1.heap.size W1 w'→(w'.cell? ⟨b,off+v,none⟩=some (.slice A1 LN c1)∧w'.rangeAt g0 0 [.int .i64 EX,.slice Al nl cl,.slice Am nm cm,.slice Ad nd cd,.slice Av NV cv,.slice Ap np cp,.slice Ao no co]) from fun w' hb=>⟨((hb1.trans (hb.mono hb1.size)).cell (p:=⟨b,off+v,none⟩) hR).trans f0,range_same hrg (hb.block g0 l0)⟩)
 have HV3:=zh (show ∀w',Below W1.heap.size W1 w'→w'.heap[g1]?=some (.cells #[.int .i64 0,.int .i64 0,.int .i64 0] 166 (0,0)) from fun w' hb=>(hb.block g1 l1).trans i1)
 have HRR:=zh hr
 have HNG:=zh hrng
 have HW:=zh (And.intro hW1 (And.intro hg0 hg1))
 have HG1:=zh (show w.heap.size≤g1 by omega)
 have HLN:=zh (show LN=l.length∧LN≤6 from⟨hLN,by omega⟩)
 have hne:((LN:Int) != (LN:Int))=false:=by simp
 have jv:(v:Int)<(NO:Int):=by omega
 rw[←hEX,←hNV,←hNO]
 clear hf hok hl hlo hv hvl hR hc hll hlen hrng hr hsz hEX hNV hLN hNO f0 hb1 i0 i1 l0 l1 hrg hW1 hg0 hg1
 go_enter Tryz.func106,Tryz.ntmps106
 go_upto_region 1 with fail
 rw[←HW.out.1,←HW.out.2.1,show g0+1=g1 by (have:=HW.out;omega)]
 refine region_tail (S:=(fun w'=>w'.cell? ⟨b,off+v,none⟩=some (.slice A1 LN c1)∧w'.rangeAt g0 0 [.int .i64 EX,.slice Al nl cl,.slice Am nm cm,.slice Ad nd cd,.slice Av NV cv,.slice Ap np cp,.slice Ao no co])) [] (by kernel_rfl) (HSR.out _ (Below.refl _ _).drew) (fun hHeld=>?_)
 refine tk 0 10 ?_
 refine tk 1 11 ?_
 refine tk 2 12 ?_
 refine tk 3 13 ?_
 refine tk 4 14 ?_
 refine takeT (i:=5) (d:=15) (v:=(.agg #[.int .i64 EX,.slice Al nl cl,.slice Am nm cm,.slice Ad nd cd,.slice Av NV cv,.slice Ap np cp,.slice Ao no co])) rfl rfl (by kernel_rfl) (by kernel_rfl) (by kernel_rfl) (by kernel_rfl) (fun _ _ _ h=>h) (yieldsIf_load_mid (by rfl) 35 (.tmp 3) rfl g0 0 (by rfl) [.int .i64 EX,.slice Al nl cl,.slice Am nm cm,.slice Ad nd cd,.slice Av NV cv,.slice Ap np cp,.slice Ao no co] _ (fun w hw=>hw.2) Tryz.underlying35 rfl size_fltL) (by assumption) ?_
 (try simp only[Act.put,z1,z2,z3])
 refine tk 6 16 ?_
 refine readyT (rs:=[7]) (by kernel_rfl) (by simp) ?_
 refine AllReadyT.cons rfl (fun K hK=>?_) ?_
 ·go_simp
  (go_at_call 150;refine(HFG.out _ (HBW.out _ (Below.refl _ _).drew)).mono ?_;rintro e w9 ⟨rfl,hb9⟩;have HB9:=zh (show Below W1.heap.size W1 w9 from((Below.refl _ _).drew:Below W1.heap.size W1 W1.drew).trans hb9);clear hb9)
  go_wp2_with fail
  refine hK.out _ _ ?_ (fun hHeld=>?_)
  ·exact HSR.out _ HB9.out
  clear hK K
  (try simp only[Act.put,z1,z2,z3])
  refine tk 8 18 ?_
  refine doneT (by kernel_rfl) ?_ _
  clear hHeld
  have q0:=(HSR.out w9 HB9.out).1
  go_upto_region 3 with fail
  go_wp2_with fail
  clear q0 hne
  go_loopg [31] LN (fun z v31 wr=>∃j:Nat,j≤LN∧z=LN - j∧v31=.int .i64 (j:Int)∧Hid (Below W1.heap.size W1 wr))
  case atStart=>exact⟨0,by omega,rfl,rfl,HB9⟩
  case round =>
   obtain⟨j,hj,rfl,rfl,HB⟩:=hrel
   obtain⟨W4,hW4⟩:=zx wr
   rw[←hW4] at HB ⊢
   clear hW4
   by_cases hlt:j<LN
   ·have hjl:j<l.length:=by rw[←HLN.out.1];exact hlt
    obtain⟨b2,off2,hA1,hR2,hc2,hx2⟩:=HRR.out.at7 (k:=j) hjl
    subst hA1
    obtain⟨x,hx⟩:=zx (l[j])
    rw[←hx] at hc2 hx2
    have hxr:=HNG.out x (by rw[hx];exact List.getElem_mem _)
    have e0:W4.cell? ⟨b2,off2+j,none⟩=some (.int .i64 x):=((HBW.out W4 HB.out).cell (p:=⟨b2,off2+j,none⟩) hR2).trans hc2
    have e4:W4.cell? ⟨g0,4,none⟩=some (.slice Av NV cv):=(HSR.out W4 HB.out).2 4 _ rfl
    have k1:decide (x < -1)=false:=decide_eq_false (by omega)
    have k2:decide ((NV:Int)≤x)=false:=decide_eq_false (by omega)
    have lj:(j:Int)<(LN:Int):=by omega
    have lq:(LN:Int)≤6:=by have:=HLN.out.2;omega
    clear hjl hx hxr hR2 hc2 hx2
    go_wp2_with fail
    clear e0 e4 k1 k2
    go_roundg (LN - (j+1))
    case measure=>omega
    case rel=>exact⟨j+1,by omega,rfl,by go_num,HB⟩
   ·have hth:W4.there g1 0 3:=there_new (HV3.out W4 HB.out) (Nat.le_refl 3)
    have HTH:=zh hth
    clear hth
    go_upto_region 9 with fail
    refine wp_region_lit ?_
    refine wpList_plain rfl (fun K hK=>?_)
    go_simp
    refine hK _ _ ?_
    clear hK
    (try simp only[Act.put,z1,z2,z3])
    refine wpList_store_mid rfl 166 (.tmp 6) (.tmp 49) rfl g1 0 #[.int .i64 0,.int .i64 0,.int .i64 0] (by rfl) (by rfl) HTH.out size_vioL (by simp[Value.oneCell']) ?_
    (try simp only[Act.put,z1,z2,z3])
    have hgr:=World.rangeAt_setCells_same _ _ _ [.int .i64 0,.int .i64 0,.int .i64 0] HTH.out
    have hbw:Below w.heap.size w (World.setCells W4 g1 0 [.int .i64 0,.int .i64 0,.int .i64 0]):=below_setCellsV HG1.out _ _ _ (HBW.out W4 HB.out)
    obtain⟨W15,hW15⟩:=zx (World.setCells W4 g1 0 [.int .i64 0,.int .i64 0,.int .i64 0])
    rw[←hW15] at hgr hbw ⊢
    clear hW15
    have HGR:=zh hgr
    have HBZ:=zh hbw
    clear hgr hbw
    go_wp2_with fail
    have hld:=run_loadVar_mid (P:=Tryz.prog) W15 g1 0 166 _ _ HGR.out Tryz.underlying166 rfl size_vioL
    exact bodyPost_ret (v:=.tuple #[.agg #[.int .i64 0,.int .i64 0,.int .i64 0],.bool false]) (by simp[results,Tryz.results106,asAddr,hld]) rfl ⟨rfl,HBZ.out⟩
 exact AllReadyT.nil
theorem tshaped_any(N:Nat) (hN:N≤12) (vl vm vd vv vp vo vL:Value) (F:FltM) (L:List (List Int)) (w:World) (hf:FleetS w (Bl w.heap.size) vl vm vd vv vp vo F) (hok:FleetOk N F) (hl:SlS 1 RowIK w (Bl w.heap.size) vL L) (hlo:LayOk F F.vols.length L) :
  Calls Tryz.prog 48 #[.agg #[.int .i64 F.ext,vl,vm,vd,vv,vp,vo],vL] w fun e w'=>e=.returned (.bool true)∧Below w.heap.size w w':=by
 have HV:=zh (fun(w':World) (hb:Below w.heap.size w w')=>tvalid_any N hN _ _ _ _ _ _ F w' (hf.below hb) hok)
 have HSH:=zh (fun(v:Nat) (w':World) (hb:Below w.heap.size w w') (hv:v<F.vols.length)=>shape_any N hN _ _ _ _ _ _ vL F L v w' (hf.below hb) hok (SlS.below rowIK hl hb) hlo hv)
 obtain⟨Al,nl,cl,rfl⟩:=hf.1.form3
 obtain⟨Am,nm,cm,rfl⟩:=hf.2.1.form3
 obtain⟨Ad,nd,cd,rfl⟩:=hf.2.2.1.form3
 obtain⟨Av,NV,cv,rfl⟩:=hf.2.2.2.1.form3
 obtain⟨Ap,np,cp,rfl⟩:=hf.2.2.2.2.1.form3
 obtain⟨Ao,co,hvo,-⟩:=hf.2.2.2.2.2.form
 subst hvo
 obtain⟨AL,cL,hvL,-,hmL⟩:=hl.form
 subst hvL
 unfold maxLen at hmL
 rw[hlo.1] at HSH hmL ⊢
 obtain⟨EX,hEX⟩:=zx F.ext
 obtain⟨no,hNO⟩:=zx F.vols.length
 rw[←hEX,←hNO] at HV HSH ⊢
 rw[←hNO] at hmL
 have hne:((no:Int) != (no:Int))=false:=by simp
 obtain⟨W1,hW1⟩:=zx (w.alloc (.cells #[.int .i64 EX,.slice Al nl cl,.slice Am nm cm,.slice Ad nd cd,.slice Av NV cv,.slice Ap np cp,.slice Ao no co] 35))
 obtain⟨g0,hg0⟩:=zx w.heap.size
 have hk:=(boxed7 hW1).1
 have hb1:=(boxed7 hW1).2
 rw[←hg0] at hk
 have l0:=(Array.getElem?_eq_some_iff.1 hk).1
 have HK:=zh (show ∀w',Below W1.heap.size W1 w'→(w'.heap[g0]?=some (.cells #[.int .i64 EX,.slice Al nl cl,.slice Am nm cm,.slice Ad nd cd,.slice Av NV cv,.slice Ap np cp,.slice Ao no co] 35 (0,0))∧Below w.heap.size w w') from fun w' hb=>⟨(hb.block g0 l0).trans hk,hb1.trans (hb.mono hb1.size)⟩)
 have HW:=zh (And.intro hW1 hg0)
 have HM:=zh hmL
 clear hf hok hl hlo hEX hNO hk hb1 hW1 hg0 l0
 go_enter Tryz.func48,Tryz.ntmps48
 go_upto_region 1 with fail
 rw[←HW.out.1,←HW.out.2]
 obtain⟨c0,c1,c2,c3,c4,c5,c6⟩:=cells7 (HK.out W1 (Below.refl _ _)).1
 go_wp2_with fail
 refine(HV.out W1 (HK.out W1 (Below.refl _ _)).2).mono ?_
 rintro e w2 ⟨rfl,hb2⟩
 have HB2:=zh hb2
 clear hb2 c0 c1 c2 c3 c4 c5 c6
 obtain⟨c0,c1,c2,c3,c4,c5,c6⟩:=cells7 (HK.out w2 HB2.out).1
 go_wp2_with fail
 clear c0 c1 c2 c3 c4 c5 c6 hne
 go_loopg [21] no (fun z v21 wr=>∃j:Nat,j≤no∧z=no - j∧v21=.int .i64 (j:Int)∧Hid (Below W1.heap.size W1 wr))
 case atStart=>exact⟨0,by omega,rfl,rfl,HB2⟩
 case round =>
  obtain⟨j,hj,rfl,rfl,HB⟩:=hrel
  obtain⟨W4,hW4⟩:=zx wr
  rw[←hW4] at HB ⊢
  clear hW4
  by_cases hlt:j<no
  ·obtain⟨c0,c1,c2,c3,c4,c5,c6⟩:=cells7 (HK.out W4 HB.out).1
   have HS:=zh (HSH.out j W4 (HK.out W4 HB.out).2 hlt)
   have lj:(j:Int)<(no:Int):=by omega
   go_wp2_with fail
   refine HS.out.mono ?_
   rintro e w5 ⟨rfl,hb5⟩
   have HB5:=zh (HB.out.trans (hb5.mono HB.out.size))
   have HBX:=zh hb5
   clear hb5 c0 c1 c2 c3 c4 c5 c6 HS
   go_upto_region 7 with fail
   obtain⟨W6,hW6⟩:=zx (w5.alloc (.cells #[.int .i64 0,.int .i64 0,.int .i64 0] 166))
   have hb6:Below w5.heap.size w5 W6:=by rw[hW6];exact(Below.refl _ _).alloc (Nat.le_refl _) _
   rw[←hW6]
   have HB6:=zh (HB5.out.trans (hb6.mono HB5.out.size))
   clear hW6 hb6
   go_wp2_with fail
   go_roundg (no - (j+1))
   case measure=>omega
   case rel=>exact⟨j+1,by omega,rfl,by go_num,HB6⟩
  ·go_wp2_with fail
   go_ret
   exact⟨rfl,(HK.out W4 HB.out).2⟩
end Go.Proofs.YtgfaieppacabjaaGreat

namespace Go.Proofs.YtgfaieppacabjaaGreat
open Go.RowKit
set_option linter.unusedVariables false
set_option linter.unusedSimpArgs false
theorem bad_any(ext:Int) (vl vm vd vv vp vo vr:Value) (NV:Nat) (l:List Int) (w:World) (hl1:∃A n c,vl=.slice A n c) (hm1:∃A n c,vm=.slice A n c) (hd1:∃A n c,vd=.slice A n c) (hv1:∃A c,vv=.slice A NV c) (hp1:∃A n c,vp=.slice A n c) (ho1:∃A n c,vo=.slice A n c) (hr:IntS w (Bl w.heap.size) vr l) (hrng:∀x∈l,-1≤x∧x<NV) (h6:l.length≤6) :
  Calls Tryz.prog 53 #[.agg #[.int .i64 ext,vl,vm,vd,vv,vp,vo],vr] w fun e w'=>e=.returned (.int .i64 (-1))∧Below w.heap.size w w':=by
 obtain⟨Al,nl,cl,rfl⟩:=hl1
 obtain⟨Am,nm,cm,rfl⟩:=hm1
 obtain⟨Ad,nd,cd,rfl⟩:=hd1
 obtain⟨Av,cv,rfl⟩:=hv1
 obtain⟨Ap,np,cp,rfl⟩:=hp1
 obtain⟨Ao,no,co,rfl⟩:=ho1
 obtain⟨A1,c1,rfl,-,hm⟩:=hr.form7
 obtain⟨LN,hLN⟩:=zx l.length
 obtain⟨EX,hEX⟩:=zx ext
 rw[←hLN] at h6 ⊢
 rw[←hEX]
 obtain⟨W1,hW1⟩:=zx (w.alloc (.cells #[.int .i64 EX,.slice Al nl cl,.slice Am nm cm,.slice Ad nd cd,.slice Av NV cv,.slice Ap np cp,.slice Ao no co] 35))
 obtain⟨g0,hg0⟩:=zx w.heap.size
 have hk:=(boxed7 hW1).1
 have hb1:=(boxed7 hW1).2
 rw[←hg0] at hk
 have l0:=(Array.getElem?_eq_some_iff.1 hk).1
 have HK:=zh (show ∀w',Below W1.heap.size W1 w'→(w'.heap[g0]?=some (.cells #[.int .i64 EX,.slice Al nl cl,.slice Am nm cm,.slice Ad nd cd,.slice Av NV cv,.slice Ap np cp,.slice Ao no co] 35 (0,0))∧Below w.heap.size w w') from fun w' hb=>⟨(hb.block g0 l0).trans hk,hb1.trans (hb.mono hb1.size)⟩)
 have HW:=zh (And.intro hW1 hg0)
 have HR:=zh hr
 have HNG:=zh hrng
 have HLN:=zh hLN
 have l6:(LN:Int)≤6:=by omega
 clear hr hrng hm hLN hEX hW1 hg0 hk hb1 l0 h6
 go_enter Tryz.func53,Tryz.ntmps53
 go_upto_region 1 with fail
 rw[←HW.out.1,←HW.out.2]
 go_wp2_with fail
 go_loopg [5] LN (fun z v5 wr=>∃j:Nat,j≤LN∧z=LN - j∧v5=.int .i64 (j:Int)∧Hid (Below W1.heap.size W1 wr))
 case atStart=>exact⟨0,by omega,rfl,rfl,zh (Below.refl _ _)⟩
 case round =>
  obtain⟨j,hj,rfl,rfl,HB⟩:=hrel
  obtain⟨W4,hW4⟩:=zx wr
  rw[←hW4] at HB ⊢
  clear hW4
  by_cases hlt:j<LN
  ·have hjl:j<l.length:=by rw[←HLN.out];exact hlt
   obtain⟨b2,off2,hA1,hR2,hc2,hx2⟩:=HR.out.at7 (k:=j) hjl
   subst hA1
   obtain⟨x,hx⟩:=zx (l[j])
   rw[←hx] at hc2 hx2
   have hxr:=HNG.out x (by rw[hx];exact List.getElem_mem _)
   have e0:W4.cell? ⟨b2,off2+j,none⟩=some (.int .i64 x):=((HK.out W4 HB.out).2.cell (p:=⟨b2,off2+j,none⟩) hR2).trans hc2
   obtain⟨c0,c1,c2,c3,c4,c5,c6⟩:=cells7 (HK.out W4 HB.out).1
   have k1:decide (x < -1)=false:=decide_eq_false (by omega)
   have k2:decide ((NV:Int)≤x)=false:=decide_eq_false (by omega)
   have lj:(j:Int)<(LN:Int):=by omega
   clear hjl hx hxr hR2 hc2 hx2
   go_upto_region 4 with fail
   go_quiet (fail)
   go_wp2_with fail
   clear e0 c0 c1 c2 c3 c4 c5 c6 k1 k2
   go_roundg (LN - (j+1))
   case measure=>omega
   case rel=>exact⟨j+1,by omega,rfl,by go_num,by first | exact zh HB.out.drew | exact zh (Below.drewN' HB.out _)⟩
  ·go_wp2_with fail
   go_ret
   exact⟨rfl,(HK.out W4 HB.out).2⟩
theorem rshaped_any(N:Nat) (hN:N≤12) (vl vm vd vv vp vo vL:Value) (F:FltM) (L:List (List Int)) (w:World) (hf:FleetS w (Bl w.heap.size) vl vm vd vv vp vo F) (hok:FleetOk N F) (hl:SlS 1 RowIK w (Bl w.heap.size) vL L) (hlo:LayOk F F.vols.length L) :
  Calls Tryz.prog 21 #[.agg #[.int .i64 F.ext,vl,vm,vd,vv,vp,vo],vL] w fun e w'=>e=.returned (.bool true)∧Below w.heap.size w w':=by
 have HV:=zh (fun(w':World) (hb:Below w.heap.size w w')=>rvalidf_any N hN _ _ _ _ _ _ F w' (hf.below hb) hok)
 have HF:=zh hf
 have HLS:=zh hl
 have HLO:=zh hlo
 have HOK:=zh hok
 have HFR:=zh (fun(v:Nat) (w':World) (hb:Below w.heap.size w w') (hv:v<F.vols.length)=>rfragments_any N hN _ _ _ _ _ _ F v w' (hf.below hb) hok hv)
 have HBA:=zh (fun(vr:Value) (l:List Int) (w':World) (hb:Below w.heap.size w w') (hr:IntS w' (Bl w'.heap.size) vr l) (hrng:∀x∈l,-1≤x∧x<(F.dves.length:Int)) (h6:l.length≤6)=>bad_any F.ext vl vm vd vv vp vo vr F.dves.length l w' hf.1.form3 hf.2.1.form3 hf.2.2.1.form3 (by obtain⟨A,c,e,-⟩:=hf.2.2.2.1.form;exact⟨A,c,e⟩) hf.2.2.2.2.1.form3 hf.2.2.2.2.2.form3 hr hrng h6)
 obtain⟨Al,nl,cl,rfl⟩:=hf.1.form3
 obtain⟨Am,nm,cm,rfl⟩:=hf.2.1.form3
 obtain⟨Ad,nd,cd,rfl⟩:=hf.2.2.1.form3
 obtain⟨Av,NV,cv,rfl⟩:=hf.2.2.2.1.form3
 obtain⟨Ap,np,cp,rfl⟩:=hf.2.2.2.2.1.form3
 obtain⟨Ao,co,hvo,-⟩:=hf.2.2.2.2.2.form
 subst hvo
 obtain⟨AL,cL,hvL,-,hmL⟩:=hl.form
 subst hvL
 unfold maxLen at hmL
 rw[hlo.1] at HLS hmL ⊢
 obtain⟨EX,hEX⟩:=zx F.ext
 obtain⟨no,hNO⟩:=zx F.vols.length
 rw[←hEX,←hNO] at HV HFR ⊢
 rw[←hEX] at HBA
 rw[←hNO] at hmL HLS HBA HLO
 have hne:((no:Int) != (no:Int))=false:=by simp
 obtain⟨W1,hW1⟩:=zx (w.alloc (.cells #[.int .i64 EX,.slice Al nl cl,.slice Am nm cm,.slice Ad nd cd,.slice Av NV cv,.slice Ap np cp,.slice Ao no co] 35))
 obtain⟨g0,hg0⟩:=zx w.heap.size
 have hk:=(boxed7 hW1).1
 have hb1:=(boxed7 hW1).2
 rw[←hg0] at hk
 have l0:=(Array.getElem?_eq_some_iff.1 hk).1
 have HK:=zh (show ∀w',Below W1.heap.size W1 w'→(w'.heap[g0]?=some (.cells #[.int .i64 EX,.slice Al nl cl,.slice Am nm cm,.slice Ad nd cd,.slice Av NV cv,.slice Ap np cp,.slice Ao no co] 35 (0,0))∧Below w.heap.size w w') from fun w' hb=>⟨(hb.block g0 l0).trans hk,hb1.trans (hb.mono hb1.size)⟩)
 have HW:=zh (And.intro hW1 hg0)
 have HNO:=zh hNO
 clear hf hok hl hlo hEX hNO hk hb1 hW1 hg0 l0
 go_enter Tryz.func21,Tryz.ntmps21
 go_upto_region 1 with fail
 rw[←HW.out.1,←HW.out.2]
 obtain⟨c0,c1,c2,c3,c4,c5,c6⟩:=cells7 (HK.out W1 (Below.refl _ _)).1
 go_wp2_with fail
 refine(HV.out W1 (HK.out W1 (Below.refl _ _)).2).mono ?_
 rintro e w2 ⟨rfl,hb2⟩
 have HB2:=zh hb2
 clear hb2 c0 c1 c2 c3 c4 c5 c6
 obtain⟨c0,c1,c2,c3,c4,c5,c6⟩:=cells7 (HK.out w2 HB2.out).1
 go_wp2_with fail
 clear c0 c1 c2 c3 c4 c5 c6 hne
 go_loopg [5] no (fun z v5 wr=>∃j:Nat,j≤no∧z=no - j∧v5=.int .i64 (j:Int)∧Hid (Below W1.heap.size W1 wr))
 case atStart=>exact⟨0,by omega,rfl,rfl,HB2⟩
 case round =>
  obtain⟨j,hj,rfl,rfl,HB⟩:=hrel
  obtain⟨W4,hW4⟩:=zx wr
  rw[←hW4] at HB ⊢
  clear hW4
  by_cases hlt:j<no
  ·have hjl:j<L.length:=by rw[HLO.out.1];exact hlt
   obtain⟨b,off,cs,hAe,hR,-,hc,hcs⟩:=HLS.out.at_ (k:=j) hjl
   obtain⟨l,hll⟩:∃l,L[j]?=some l:=⟨_,List.getElem?_eq_getElem hjl⟩
   rw[(List.getElem?_eq_some_iff.1 hll).2] at hcs
   obtain⟨vr,rfl,hr⟩:=hcs
   subst hAe
   obtain⟨hlen,hrng⟩:=HLO.out.2 j l hll
   have hsz:=szN_range HOK.out (v:=j) (by rw[←HNO.out];exact hlt)
   have HBAD:=zh (fun(w':World) (hb:Below w.heap.size w w')=>HBA.out vr l w' hb ((hr.keep (fun b hb'=>hb.block b hb')).mono (fun b hb'=>Nat.lt_of_lt_of_le hb' hb.size)) hrng (by omega))
   have HFG:=zh (fun(w':World) (hb:Below w.heap.size w w')=>HFR.out j w' hb hlt)
   obtain⟨A1,c1,hv1,-,hm1⟩:=hr.form7
   subst hv1
   obtain⟨LN,hLN⟩:=zx l.length
   rw[←hlen,←hLN] at HFG
   rw[←hLN] at hc HBAD
   have f0:w.cell? ⟨b,off+j,none⟩=some (.slice A1 LN c1):=by have:=hc 0 _ rfl;simpa using this
   have HSR:=zh (show ∀w',Below W1.heap.size W1 w'→(w'.cell? ⟨b,off+j,none⟩=some (.slice A1 LN c1)∧w'.rangeAt g0 0 [.int .i64 EX,.slice Al nl cl,.slice Am nm cm,.slice Ad nd cd,.slice Av NV cv,.slice Ap np cp,.slice Ao no co]) from fun w' hb=>⟨((HK.out w' hb).2.cell (p:=⟨b,off+j,none⟩) hR).trans f0,fun i u hu=>by rw[cell_of_row _ _ _ _ _ _ (HK.out w' hb).1,Nat.zero_add,←Array.getElem?_toList];exact hu⟩)
   have hne:((LN:Int) != (LN:Int))=false:=by simp
   have lj:(j:Int)<(no:Int):=by omega
   clear hjl hR hc hll hr hlen hrng hsz hm1 hLN f0
   go_upto_region 6 with fail
   refine region_tail (S:=(fun w'=>w'.cell? ⟨b,off+j,none⟩=some (.slice A1 LN c1)∧w'.rangeAt g0 0 [.int .i64 EX,.slice Al nl cl,.slice Am nm cm,.slice Ad nd cd,.slice Av NV cv,.slice Ap np cp,.slice Ao no co])) [] (by kernel_rfl) (HSR.out _ HB.out.drew) (fun hHeld=>?_)
   refine tk 0 23 ?_
   refine tk 1 24 ?_
   refine tk 2 25 ?_
   refine tk 3 26 ?_
   refine tk 4 27 ?_
   refine takeT (i:=5) (d:=28) (v:=(.agg #[.int .i64 EX,.slice Al nl cl,.slice Am nm cm,.slice Ad nd cd,.slice Av NV cv,.slice Ap np cp,.slice Ao no co])) rfl rfl (by kernel_rfl) (by kernel_rfl) (by kernel_rfl) (by kernel_rfl) (fun _ _ _ h=>h) (yieldsIf_load_mid (by rfl) 35 (.tmp 2) rfl g0 0 (by rfl) [.int .i64 EX,.slice Al nl cl,.slice Am nm cm,.slice Ad nd cd,.slice Av NV cv,.slice Ap np cp,.slice Ao no co] _ (fun w hw=>hw.2) Tryz.underlying35 rfl size_fltL) (by assumption) ?_
   (try simp only[Act.put,z1,z2,z3])
   refine tk 6 29 ?_
   refine readyT (rs:=[7]) (by kernel_rfl) (by simp) ?_
   refine AllReadyT.cons rfl (fun K hK=>?_) ?_
   ·go_simp
    (go_at_call 52;refine(HFG.out _ (HK.out _ HB.out.drew).2).mono ?_;rintro e w9 ⟨rfl,hb9⟩;have HB9:=zh (show Below W1.heap.size W1 w9 from HB.out.drew.trans (hb9.mono HB.out.drew.size));clear hb9)
    go_wp2_with fail
    refine hK.out _ _ ?_ (fun hHeld=>?_)
    ·exact HSR.out _ HB9.out
    clear hK K
    (try simp only[Act.put,z1,z2,z3])
    refine tk 8 31 ?_
    refine tk 9 32 ?_
    refine takeT (i:=10) (d:=33) (v:=(.agg #[.int .i64 EX,.slice Al nl cl,.slice Am nm cm,.slice Ad nd cd,.slice Av NV cv,.slice Ap np cp,.slice Ao no co])) rfl rfl (by kernel_rfl) (by kernel_rfl) (by kernel_rfl) (by kernel_rfl) (fun _ _ _ h=>h) (yieldsIf_load_mid (by rfl) 35 (.tmp 2) rfl g0 0 (by rfl) [.int .i64 EX,.slice Al nl cl,.slice Am nm cm,.slice Ad nd cd,.slice Av NV cv,.slice Ap np cp,.slice Ao no co] _ (fun w hw=>hw.2) Tryz.underlying35 rfl size_fltL) (by assumption) ?_
    (try simp only[Act.put,z1,z2,z3])
    refine tk 11 34 ?_
    refine tk 12 35 ?_
    refine tk 13 36 ?_
    refine tk 14 37 ?_
    refine readyT (rs:=[15]) (by kernel_rfl) (by simp) ?_
    refine AllReadyT.cons rfl (fun K hK=>?_) ?_
    ·go_simp
     (go_at_call 53;refine(HBAD.out _ (HK.out _ HB9.out).2).mono ?_;rintro e w10 ⟨rfl,hb10⟩;have HB10:=zh (show Below W1.heap.size W1 w10 from HB9.out.trans (hb10.mono HB9.out.size));clear hb10)
     go_wp2_with fail
     refine hK.out _ _ ?_ (fun hHeld=>?_)
     ·exact HSR.out _ HB10.out
     clear hK K
     (try simp only[Act.put,z1,z2,z3])
     refine tk 16 39 ?_
     refine tk 17 40 ?_
     refine doneT (by kernel_rfl) ?_ _
     clear hHeld
     go_wp2_with fail
     go_roundg (no - (j+1))
     case measure=>omega
     case rel=>exact⟨j+1,by omega,rfl,by go_num,HB10⟩
    exact AllReadyT.nil
   exact AllReadyT.nil
  ·go_wp2_with fail
   go_ret
   exact⟨rfl,(HK.out W4 HB.out).2⟩
theorem same35_any(va vb:Value) (L:List (List Int)) (R R':Nat→Prop) (w:World) (ha:SlS 1 RowIK w R va L) (hb:SlS 1 RowIK w R' vb L) :
  Calls Tryz.prog 20 #[va,vb] w fun e w'=>e=.returned (.bool true)∧∃n,w'=w.drewN n:=by
 obtain⟨A,c,rfl,h1,h2⟩:=ha.form
 obtain⟨B,d,rfl,g1,g2⟩:=hb.form
 unfold maxLen at h2 g2
 have HA:=zh ha
 have HB:=zh hb
 obtain⟨LN,hL⟩:=zx L.length
 rw[←hL] at HA HB h1 h2 g1 g2 ⊢
 have HL:=zh hL
 clear ha hb hL
 go_enter Tryz.func20,Tryz.ntmps20
 go_wp2_with fail
 go_loopg [5] LN (fun z v5 wr=>∃j:Nat,j≤LN∧z=LN - j∧v5=.int .i64 (j:Int)∧Hid (∃n,wr=w.drewN n))
 case atStart=>exact⟨0,by omega,rfl,rfl,0,rfl⟩
 case round =>
  obtain⟨j,hj,rfl,rfl,hw⟩:=hrel
  obtain⟨n,rfl⟩:=hw.out
  clear hw
  by_cases hlt:j<LN
  ·have hjl:j<L.length:=by rw[←HL.out];exact hlt
   obtain⟨b,off,cs,hAe,-,-,hc,hcs⟩:=HA.out.at_ (k:=j) hjl
   obtain⟨b',off',cs',hBe,-,-,hc',hcs'⟩:=HB.out.at_ (k:=j) hjl
   subst hAe;subst hBe
   generalize L[j]=l at *
   obtain⟨v1,rfl,i1⟩:=hcs
   obtain⟨v2,rfl,i2⟩:=hcs'
   obtain⟨A1,k1,hv1,-,hm1⟩:=i1.form7
   obtain⟨A2,k2,hv2,-,hm2⟩:=i2.form7
   subst hv1 hv2
   unfold maxLen at hm1 hm2
   obtain⟨NL,hNL⟩:=zx l.length
   rw[←hNL] at hc hc' hm1 hm2
   have f1:w.cell? ⟨b,off+j,none⟩=some (.slice A1 NL k1):=by have:=hc 0 _ rfl;simpa using this
   have f2:w.cell? ⟨b',off'+j,none⟩=some (.slice A2 NL k2):=by have:=hc' 0 _ rfl;simpa using this
   have H1:=zh i1
   have H2:=zh i2
   have HNL:=zh hNL
   have HLT:=zh hlt
   have b5:((NL:Int) != (NL:Int))=false:=by simp
   clear hc hc' i1 i2 hNL hjl
   go_upto_region 6 with fail
   go_quiet (fail)
   go_wp2_with fail
   clear b5
   go_loopg [6] NL (fun z v6 wr=>∃i:Nat,i≤NL∧z=NL - i∧v6=.int .i64 (i:Int)∧Hid (∃n,wr=w.drewN n))
   case atStart=>exact⟨0,by omega,rfl,rfl,zh (by first | exact⟨_,rfl⟩ | exact drawn2 _ _ _ | (obtain⟨k,hk⟩:=drawn2 w _ _;exact⟨k,hk⟩))⟩
   case round =>
    obtain⟨i,hi,rfl,rfl,hw⟩:=hrel
    obtain⟨n2,rfl⟩:=hw.out
    clear hw
    by_cases hlt2:i<NL
    ·have hil:i<l.length:=by rw[←HNL.out];exact hlt2
     obtain⟨c1,o1,hA1,-,hc1,-⟩:=H1.out.at7 (k:=i) hil
     obtain⟨c2,o2,hA2,-,hc2,-⟩:=H2.out.at7 (k:=i) hil
     subst hA1 hA2
     generalize l[i]=x at *
     have he1:(x != x)=false:=by simp
     clear hil
     go_upto_region 11 with fail
     go_quiet (fail)
     go_wp2_with fail
     clear he1 hc1 hc2
     go_roundg (NL - (i+1))
     case measure=>omega
     case rel=>exact⟨i+1,by omega,rfl,by go_num,zh (by first | exact⟨_,rfl⟩ | exact drawn2 _ _ _ | (obtain⟨k,hk⟩:=drawn2 w _ _;exact⟨k,hk⟩))⟩
    ·go_wp2_with fail
     go_roundg (LN - (j+1))
     case measure=>omega
     case rel=>exact⟨j+1,by omega,rfl,by go_num,zh (by first | exact⟨_,rfl⟩ | exact drawn2 _ _ _ | (obtain⟨k,hk⟩:=drawn2 w _ _;exact⟨k,hk⟩))⟩
  ·go_wp2_with fail
   go_ret
   exact⟨rfl,_,rfl⟩
end Go.Proofs.YtgfaieppacabjaaGreat
