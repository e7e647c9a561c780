/- PROVED: For every input IncidentNeeds returns true: a stripe can be read once the drives of Rescue are back, but not without any one of them. Condition: three tables of the library that the row lists hold what the program's text lays (tied by the card). -/
import Derived.Test.YtcfkllnpkmebpaaGreatDoorMh01
import Derived.Test.YtcfkllnpkmebpaaGreatDoorMh02
import Derived.Test.YtcfkllnpkmebpaaGreatDoorMh03
import Derived.Test.YtcfkllnpkmebpaaGreatDoorMh04
import Derived.Test.YtcfkllnpkmebpaaGreatDoorMh05
import Derived.Test.YtcfkllnpkmebpaaGreatDoorMh06
import Derived.Test.YtcfkllnpkmebpaaGreatDoorMh07
import Derived.Test.YtcfkllnpkmebpaaGreatDoorMh08
import Derived.Test.YtcfkllnpkmebpaaGreatDoorMh09
import Derived.Test.YtcfkllnpkmebpaaGreatDoorMh10
import Derived.Test.YtcfkllnpkmebpaaGreatDoorMh11
import Derived.Test.YtcfkllnpkmebpaaGreatDoorMh12
import Derived.Test.YtcfkllnpkmebpaaGreatDoorMh13
import Derived.Test.YtcfkllnpkmebpaaGreatDoorMh14
import Derived.Test.YtcfkllnpkmebpaaGreatDoorMh15
import Derived.Test.YtcfkllnpkmebpaaGreatDoorMh16
import Derived.Test.YtcfkllnpkmebpaaGreatDoorMh17
import Derived.Test.YtcfkllnpkmebpaaGreatDoorMh18
import Derived.Lay
import Derived.LaidMore
import Derived.Stop.Joined
import Derived.SevenTiedAt
import Derived.Test.YtcfkllnpkmebpaaGreatDoorTie
import Derived.Test.YtcfkllnpkmebpaaGreatDoorCards
import Derived.Test.YtcfkllnpkmebpaaGreatDoorMn08
import Derived.Test.YtcfkllnpkmebpaaGreatDoorMn01
import Derived.Test.YtcfkllnpkmebpaaGreatDoorMn02
import Derived.Test.YtcfkllnpkmebpaaGreatDoorMn03
import Derived.Test.YtcfkllnpkmebpaaGreatDoorMn04
import Derived.Test.YtcfkllnpkmebpaaGreatDoorMn05
import Derived.Test.YtcfkllnpkmebpaaGreatDoorMn06
import Derived.Test.YtcfkllnpkmebpaaGreatDoorMn07
set_option maxRecDepth 100000
set_option maxHeartbeats 12800000
namespace Go.Proofs.YtcfkllnpkmebpaaGreatDoor.lawNeeds
open Go.ChangeShapes Go.WideShapes Go.ChangeAt Go.RowKit
set_option linter.unusedVariables false
theorem own:ownKnob Tryz.prog.godebug=none:=by kernel_rfl
theorem laidOut:laidOutB Tryz.prog=true:=by kernel_rfl
def laid3 : List (String × DataW Unit) := [("math/bits.deBruijn32tab", Rows.laid_math_bits_deBruijn32tab), ("math/bits.deBruijn64tab", Rows.laid_math_bits_deBruijn64tab), ("internal/strconv.uint64pow10", Rows.laid_internal_strconv_uint64pow10)]
theorem lifted(os:Os) (started:os.Started) (H:Type) (enc:TypeId×Value→H) :
  ReturnsInHanded {} Tryz.checked os 6 .any (fun w args=>(Rows.incidentNeedsSpec.pre enc Tryz.prog Tryz.f6 Rows.incidentNeedsRow.domain false w args∧laidMetH Tryz.prog laid3 w)∧sizedMet enc Tryz.prog Tryz.f6 (OpenSpec.ofChange Rows.incidentNeedsSpec) false w args) (Rows.incidentNeedsSpec.post enc Tryz.prog Tryz.f6 false true false false):=by
 refine returnsInHanded_of_change_and (C:=Tryz.checked) (X:=fun w _=>laidMetH Tryz.prog laid3 w) (fun _ _ _ hh h=>h.of_heap hh) own started (by kernel_rfl) Tryz.func6
  (ChangeSpec.witness_shaped (enc:=enc) (C:=Tryz.checked) (os:=os) (X:=fun w _=>laidMetH Tryz.prog laid3 w) false (World.laidAll Tryz.prog os laid3) #[.slice none 0 0] 8 (World.laidAll_os _ _ _)
   (World.shaped_of_ZipB (by kernel_rfl) (by kernel_rfl)) (by kernel_rfl) (by kernel_rfl) (by kernel_rfl)
   (by rw[MakeChecks.laidMetH_plain _ _ _ (by kernel_rfl)];exact laidMet_laidAll _ (by kernel_rfl) (by kernel_rfl))) ?_
 intro W base args ds gs before hval0 hW hcnd _ hL _
 have hval:∀(j:Nat) t v,Tryz.f6.params[j]?=some t→args[j]?=some v→Value.okWide Tryz.prog W .any base t v:=hval0
 have hW':=hW
 obtain⟨p,q,hA0,hV,rfl,hfz,hnd⟩:=hW
 have hA:DataW.TrodAll enc Tryz.prog W 0 (fun _=>true) true Tryz.f6.params.toList args.toList ds p:=hA0
 rw[Tryz.params6] at hA hval
 obtain⟨v0,vs0,d0,ds0,p0,q0,hargs,rfl,rfl,h0,r0⟩:=trodAll_cons hA
 obtain⟨rfl,rfl,rfl⟩:=trodAll_nil r0
 obtain rfl:args=#[v0]:=by cases args;simp_all
 obtain⟨rfl,rfl⟩:=trodVars_none hV
 have k0:=h0
 have lt0:∀x∈p0,x.block<W.heap.size:=by obtain⟨m,hm⟩:=k0;exact DataW.trod_lt m _ _ _ hm
 obtain⟨a0,len0,cap0,rfl⟩:=okWide_slice Tryz.underlying22 (hval 0 22 v0 rfl rfl)
 obtain⟨xs,h_xs⟩:∃xs,IntS W (Bl W.heap.size) (.slice a0 len0 cap0) xs:=by
  obtain⟨fuel,hf⟩:=h0
  exact open_intS Tryz.underlying22 Tryz.underlying3 (by kernel_rfl) hf
 clear hA0 hval0
 refine(needs_any made_any _ xs W h_xs).mono fun e W' ⟨he,bel⟩=>?_
 subst he
 exact⟨_,rfl,_,_,_,[],_,[],hW',trodAll_mk1 (shut_bool Tryz.underlying4 _),(trodAll_cons_mk (Below.trod laidOut (by kernel_rfl) (of_decide_eq_true (by kernel_rfl)) k0 bel lt0) trodAll_mk0),rfl,bel.frame _,fun h=>by cases h⟩
theorem over:Rows.incidentNeedsRow.holds Tryz.pinned (OpenSpec.ofChange Rows.incidentNeedsSpec) :=
 OpenClaim.holds_of_wide 6 Tryz.f6 rfl rfl rfl rfl rfl rfl rfl ⟨rfl,rfl,rfl,rfl,rfl⟩ rfl rfl rfl rfl rfl (by kernel_rfl) Tryz.func6 (by kernel_rfl)
  (of_decide_eq_true (by kernel_rfl)) (by unfold Func.isWrapper;first | (rw[if_pos (by decide +kernel)];kernel_rfl) | (rw[if_neg (by decide +kernel)];exact⟨rfl,rfl⟩))
  (fun os started H enc _=>lifted os started H enc)
theorem said:Rows.IncidentNeedsSaid:=over
theorem proved:Rows.IncidentNeedsCardSaid :=
 Claim7.holds_tied_plain_at .later [] [.data, .data, .data] true (true, "f71a308326aa10e488d86df6d87f0dfbffc3fb80c4fd71eff46999023137051e") false
  said (fun _ h=>by cases h) (by kernel_rfl) (fun _ h=>by cases h) incidentNeeds_row_tie rfl ⟨rfl,rfl⟩ (by kernel_rfl) rfl
  (fun f fn hf hfn=>by
   obtain rfl : f = 6 := Option.some.inj ((show Tryz.prog.funcNamed "drydock/drydocklaw44.IncidentNeeds" = some 6 by kernel_rfl).symm.trans hf) |>.symm
   obtain rfl:fn=Tryz.f6:=(Option.some.inj (Tryz.func6.symm.trans hfn)).symm
   exact⟨by kernel_rfl,fun j t ht=>by
    rw[Tryz.params6] at ht
    have hm:t∈[22]:=by simpa using Array.mem_of_getElem? ht
    have hall:([22].all fun u=>!Tryz.prog.wantsStandIn u)=true:=by kernel_rfl
    exact(show Tryz.prog.wantsStandIn t=false by simpa using List.all_eq_true.1 hall t hm)⟩)
  (by kernel_rfl)
#print axioms proved
end Go.Proofs.YtcfkllnpkmebpaaGreatDoor.lawNeeds
