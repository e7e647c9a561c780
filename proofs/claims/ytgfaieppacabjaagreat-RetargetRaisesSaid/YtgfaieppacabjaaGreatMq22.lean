/- Parts. -/
import Derived.Test.YtgfaieppacabjaaGreatMq21
set_option linter.unusedSectionVars false
set_option maxRecDepth 100000
set_option maxHeartbeats 12800000
set_option linter.unusedVariables false
set_option linter.unusedSimpArgs false
namespace Go.Proofs.YtgfaieppacabjaaGreat
open Go.RowKit
theorem TightR.onward{w w':World}{g B j:Nat}{ps:List PolM}(h:TightR w g B ps j)(hc:∀k,k<j->w'.cell? ⟨g,k*17+10,none⟩=w.cell? ⟨g,k*17+10,none⟩){hot:List (Option Nat)}(hh:HotBy hot w w')(hn:∀k,some k∈hot->k<B):TightR w' g B ps j:=fun k x hk hx=>by
 obtain⟨q,h1,h2⟩:=h k x hk hx;refine⟨q,(hc k hk).trans h1,own_stay frcK h2 (zR _) (fun b hb hl=>hh.block b hl (fun e=>by have:=hn b e;omega)) (fun b hb=>⟨hb.1,hb.2.1⟩) (fun b hb=>⟨hb.1,zM hb.2.1 hh.size,hb.2.2⟩)⟩
structure Copied (Z:Nat->Prop) (w:World) (ul um ud uv:Value) (gP kP:Nat) (uo:Value) (F:FltM):Prop where
 laws:SlS 4 LawK w (NotG Z w gP gP gP) ul F.laws
 models:SlS 4 ModK w (NotG Z w gP gP gP) um F.models
 doms:SlS 7 DomK w (NotG Z w gP gP gP) ud F.doms
 dves:SlS 3 DveK w (NotG Z w gP gP gP) uv F.dves
 vols:SlS 2 VolK w (NotG Z w gP gP gP) uo F.vols
 pols:RowA 17 PolK w 55 gP kP F.pols (NotG Z w gP gP gP)
 tight:∃B,gP<B/\TightR w gP B F.pols F.pols.length
theorem setY{w:World}{a g o:Nat}{x y u:Value}(h:w.cell? ⟨a,9,none⟩=some x/\w.cell? ⟨a,10,none⟩=some y)(ha:a≠g):(w.setCell ⟨g,o,none⟩ u).cell? ⟨a,9,none⟩=some x/\(w.setCell ⟨g,o,none⟩ u).cell? ⟨a,10,none⟩=some y:=by
 have e:∀i,(w.setCell ⟨g,o,none⟩ u).cell? ⟨a,i,none⟩=w.cell? ⟨a,i,none⟩:=fun i=>World.cell?_setCell_far w _ _ u (fun h=>ha h.symm)
 exact⟨(e 9).trans h.1,(e 10).trans h.2⟩
theorem setZ{w:World}{a g o m n:Nat}{xs ys us:List Value}(h:w.rangeAt a m xs/\w.rangeAt a n ys)(ha:a≠g):(w.setCells g o us).rangeAt a m xs/\(w.setCells g o us).rangeAt a n ys :=
 ⟨World.rangeAt_setCells_apart h.1 _ _ _ (.inl ha),World.rangeAt_setCells_apart h.2 _ _ _ (.inl ha)⟩
theorem set11{w:World}{a b g o:Nat}{x y z u:Value}(h:w.cell? ⟨a,1,none⟩=some x/\w.cell? ⟨b,1,none⟩=some y/\w.cell? ⟨b,3,none⟩=some z)(ha:a≠g)(hb:b≠g) :
  (w.setCell ⟨g,o,none⟩ u).cell? ⟨a,1,none⟩=some x/\(w.setCell ⟨g,o,none⟩ u).cell? ⟨b,1,none⟩=some y/\(w.setCell ⟨g,o,none⟩ u).cell? ⟨b,3,none⟩=some z:=by
 have e:∀k i,k≠g->(w.setCell ⟨g,o,none⟩ u).cell? ⟨k,i,none⟩=w.cell? ⟨k,i,none⟩:=fun k i hk=>by unfold World.cell?;rw[Below.heap_setCell w ⟨g,o,none⟩ u k hk]
 exact⟨(e a 1 ha).trans h.1,(e b 1 hb).trans h.2.1,(e b 3 hb).trans h.2.2⟩
end Go.Proofs.YtgfaieppacabjaaGreat
