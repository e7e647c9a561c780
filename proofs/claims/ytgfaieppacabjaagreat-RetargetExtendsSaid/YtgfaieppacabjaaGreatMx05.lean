/- Sizes of raised fleets; retarget.Raise, said at once. -/
import Derived.Test.YtgfaieppacabjaaGreatMw01
import Derived.Test.YtgfaieppacabjaaGreatMw02
import Derived.Test.YtgfaieppacabjaaGreatMw03
import Derived.Test.YtgfaieppacabjaaGreatMw04
import Derived.Test.YtgfaieppacabjaaGreatMw05
import Derived.Test.YtgfaieppacabjaaGreatMw06
import Derived.Test.YtgfaieppacabjaaGreatMw07
import Derived.Test.YtgfaieppacabjaaGreatMw08
import Derived.Test.YtgfaieppacabjaaGreatMw09
import Derived.Test.YtgfaieppacabjaaGreatMw10
import Derived.Test.YtgfaieppacabjaaGreatMw11
import Derived.Test.YtgfaieppacabjaaGreatMw12
import Derived.Test.YtgfaieppacabjaaGreatMw13
import Derived.Test.YtgfaieppacabjaaGreatMw14
import Derived.Test.YtgfaieppacabjaaGreatMw15
import Derived.Test.YtgfaieppacabjaaGreatMw16
import Derived.Test.YtgfaieppacabjaaGreatMw17
import Derived.Test.YtgfaieppacabjaaGreatMw18
import Derived.Test.YtgfaieppacabjaaGreatMw19
import Derived.Test.YtgfaieppacabjaaGreatMw20
import Derived.Test.YtgfaieppacabjaaGreatMw21
import Derived.Test.YtgfaieppacabjaaGreatMw22
import Derived.Test.YtgfaieppacabjaaGreatMx01
import Derived.Test.YtgfaieppacabjaaGreatMx03
import Derived.Test.YtgfaieppacabjaaGreatMx04
import Derived.Test.YtgfaieppacabjaaGreatMx02
set_option linter.unusedSectionVars false
set_option maxRecDepth 100000
set_option maxHeartbeats 12800000
namespace Go.Proofs.YtgfaieppacabjaaGreat
open Go.RowKit
set_option linter.unusedVariables false
set_option linter.unusedSimpArgs false
theorem sz_up{N:Nat} {F:FltM} {pi:Nat} {x:PolM} {m q:Int} (hok:FleetOk N F) (hgk:FleetOk N (raiseM F pi m q)) (hx:F.pols[pi]?=some x) (hm:x.m≤m) {v:Nat} (hv:v<F.vols.length):szN F v≤szN (raiseM F pi m q) v:=by
 have h1:=szN_eq hok hv
 have h2:=szN_eq (F:=raiseM F pi m q) hgk (v:=v) hv
 have hvp:volP (raiseM F pi m q) v=volP F v:=rfl
 have hk:kOf (raiseM F pi m q) v=kOf F v∧mOf F v≤mOf (raiseM F pi m q) v:=by
  unfold kOf mOf
  rw[hvp]
  by_cases hp:pi=volP F v
  ·subst hp
   rw[raise_at hx,hx]
   exact⟨rfl,hm⟩
  ·rw[raise_other hp]
   exact⟨rfl,Int.le_refl _⟩
 omega
theorem raise_uni(Z0:Nat→Prop) (N:Nat) (hN:N≤12) (vl vm vd vv vp vo tn td:Value) (F:FltM) (pi:Nat) (x:PolM) (m q:Int) (w:World) (hf:FleetS w (BlZ Z0 w.heap.size) vl vm vd vv vp vo F) (hZ0:∀b,Z0 b→b<w.heap.size) (hok:FleetOk N F) (hx:F.pols[pi]?=some x) (hm:x.m≤m) (hm6:m≤6) (hq1:x.k≤q) (hq2:q≤x.k+m)
  (htn:LS w (Bl w.heap.size) tn (natL 1)) (htd:LS w (Bl w.heap.size) td (natL 1000)) :
  Calls Tryz.prog 11 #[.agg #[.int .i64 F.ext,vl,vm,vd,vv,vp,vo],.int .i64 (pi:Int),.int .i64 m,.int .i64 q,.agg #[.bool false,tn,td]] w fun e w'=>∃(ex er:Int) (A1 A2 A3 A4 A5 A6:Option Addr) (n1 n2 n3 n4 n5 n6 c1 c2 c3 c4 c5 c6:Nat),e=.returned (.tuple #[.agg #[.int .i64 ex,.slice A1 n1 c1,.slice A2 n2 c2,.slice A3 n3 c3,.slice A4 n4 c4,.slice A5 n5 c5,.slice A6 n6 c6],.int .i64 er])∧Below w.heap.size w w' ∧
   ((4<m∧er=5)∨(m≤4∧er=0∧ex=F.ext∧FleetS w' (BlZ Z0 w'.heap.size) (.slice A1 n1 c1) (.slice A2 n2 c2) (.slice A3 n3 c3) (.slice A4 n4 c4) (.slice A5 n5 c5) (.slice A6 n6 c6) (raiseM F pi m q))):=by
 refine(raiseZ_any Z0 N hN vl vm vd vv vp vo tn td F pi x m q w hf hZ0 hok hx hm hm6 hq1 hq2 htn htd).mono ?_
 rintro e w' ⟨hb,⟨h4,rfl⟩ | ⟨h4,ul,um,ud,uv,up,uo,rfl,hg⟩⟩
 ·exact⟨_,_,_,_,_,_,_,_,_,_,_,_,_,_,_,_,_,_,_,_,rfl,hb,.inl ⟨h4,rfl⟩⟩
 ·obtain⟨A1,n1,c1,rfl⟩:=hg.1.form3
  obtain⟨A2,n2,c2,rfl⟩:=hg.2.1.form3
  obtain⟨A3,n3,c3,rfl⟩:=hg.2.2.1.form3
  obtain⟨A4,n4,c4,rfl⟩:=hg.2.2.2.1.form3
  obtain⟨A5,n5,c5,rfl⟩:=hg.2.2.2.2.1.form3
  obtain⟨A6,n6,c6,rfl⟩:=hg.2.2.2.2.2.form3
  exact⟨_,_,_,_,_,_,_,_,_,_,_,_,_,_,_,_,_,_,_,_,rfl,hb,.inr ⟨h4,rfl,rfl,hg⟩⟩
end Go.Proofs.YtgfaieppacabjaaGreat
