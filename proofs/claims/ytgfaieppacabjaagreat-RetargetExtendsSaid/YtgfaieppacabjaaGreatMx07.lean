/- Arguments opened to the words of XBase, for any seat. -/
import Derived.Test.YtgfaieppacabjaaGreatMw01
import Derived.Test.YtgfaieppacabjaaGreatMw02
import Derived.Test.YtgfaieppacabjaaGreatMw03
import Derived.Test.YtgfaieppacabjaaGreatMw04
import Derived.Test.YtgfaieppacabjaaGreatMw05
import Derived.Test.YtgfaieppacabjaaGreatMw06
import Derived.Test.YtgfaieppacabjaaGreatMw07
import Derived.Test.YtgfaieppacabjaaGreatMw08
import Derived.Test.YtgfaieppacabjaaGreatMw09
import Derived.Test.YtgfaieppacabjaaGreatMw10
import Derived.Test.YtgfaieppacabjaaGreatMw11
import Derived.Test.YtgfaieppacabjaaGreatMw12
import Derived.Test.YtgfaieppacabjaaGreatMw13
import Derived.Test.YtgfaieppacabjaaGreatMw14
import Derived.Test.YtgfaieppacabjaaGreatMw15
import Derived.Test.YtgfaieppacabjaaGreatMw16
import Derived.Test.YtgfaieppacabjaaGreatMw17
import Derived.Test.YtgfaieppacabjaaGreatMw18
import Derived.Test.YtgfaieppacabjaaGreatMw19
import Derived.Test.YtgfaieppacabjaaGreatMw20
import Derived.Test.YtgfaieppacabjaaGreatMw21
import Derived.Test.YtgfaieppacabjaaGreatMw22
import Derived.Test.YtgfaieppacabjaaGreatMx01
import Derived.ProofKit
import Derived.OpenShut
import Derived.Lib.SmallJoins
import Derived.Deep.Slices
import Derived.Deep.Fields
import Derived.ChangeSame
import Derived.Test.YtgfaieppacabjaaGreatMx02
import Derived.Test.YtgfaieppacabjaaGreatMx03
import Derived.Test.YtgfaieppacabjaaGreatMx04
import Derived.Test.YtgfaieppacabjaaGreatMx05
import Derived.Test.YtgfaieppacabjaaGreatMx06
set_option linter.unusedSectionVars false
set_option maxRecDepth 100000
set_option maxHeartbeats 12800000
namespace Go.Proofs.YtgfaieppacabjaaGreat
open Go.RowKit Go.ChangeShapes Go.WideShapes Go.ChangeAt Go.Deep Go.Joins
set_option linter.unusedVariables false
set_option linter.unusedSimpArgs false
theorem wf_i64{x:Int} (h:(Lit.int .i64 x).wf=true):I64 x:=by
 simpa[Lit.wf,IntKind.min,IntKind.max,IntKind.signed,IntKind.bits,I64] using h
section
variable {H : Type} {enc : TypeId × Value → H} {P : Program} {W : World}
theorem open_intS{t e:TypeId} {spare:Nat→Bool} {held:Bool} {base fuel:Nat} {v:Value} {x:DataW H×List MemPlace} (ht:P.underlying t=some (.slice e)) (he:P.underlying e=some (.int .i64)) (hc:P.cellsOf e=1)
  (h:DataW.trod enc P W base spare held fuel t [v]=some x):∃xs,IntS W (Bl W.heap.size) v xs:=by
 rcases open_ints ht he hc h with ⟨hcs,_⟩ | ⟨a,len,cap,zs,hcs,_,hl,hm,hz,_,hcell,hwz⟩
 ·simp at hcs;subst hcs
  exact⟨[],IntS.nil _ _ _⟩
 ·simp at hcs;subst hcs
  have hzl:len≤zs.length:=by rw[hz];split <;> omega
  have hxl:(zs.take len).length=len:=by rw[List.length_take];omega
  refine⟨zs.take len,⟨some a,cap,by rw[hxl],by rw[hxl];exact hl,by rw[hxl];omega,fun hn=>?_⟩,fun y hy=>wf_i64 (hwz y (List.mem_of_mem_take hy))⟩
  rw[hxl] at hn
  obtain⟨b,off,spot⟩:=a
  have g0:=hcell 0 (by omega)
  have hspot:spot=none:=by simpa[Addr.add] using World.cell?_spot g0
  subst hspot
  have hb:=block_lt_of_cell g0
  refine⟨b,off,rfl,by simpa[Addr.add,Bl] using hb,fun k y hk=>?_⟩
  have hkl:k<(zs.take len).length:=(List.getElem?_eq_some_iff.1 hk).1
  rw[hxl] at hkl
  have g:=hcell k (by omega)
  have e1:(⟨b,off,none⟩:Addr).add k=⟨b,off+k,none⟩:=by unfold Addr.add;split <;> simp_all
  rw[e1] at g
  rw[g]
  rw[List.getElem?_take_of_lt hkl] at hk
  rw[List.getD,hk];rfl
end
end Go.Proofs.YtgfaieppacabjaaGreat
