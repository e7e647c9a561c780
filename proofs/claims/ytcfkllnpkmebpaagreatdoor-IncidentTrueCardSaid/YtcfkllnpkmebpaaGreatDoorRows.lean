/-
  NARROWER THAN 'FOR EVERY INPUT', by the rows' own cells (each row's printed sentence says how): IncidentFormats: laid · IncidentParses: laid · IncidentRescues: laid · IncidentNeeds: laid · IncidentExplains: laid · IncidentBack: laid · IncidentTrue: laid.
  DERIVED. THE GIVEN ROWS OF THIS SEAT. 7 by the template 'for every input the law returns true; each argument reads behind the call as it read before'; 0 by the template 'total and deterministic' (their statements: YtcfkllnpkmebpaaGreatDoorTotals.lean).
  GIVEN WITH THE SEED: the statements are not yours to turn. If you find one false, say at which input.
  Laid BY PROGRAM, IN A SANDBOX (cutbox-rows.mjs): the forced cells as the released guide's own fill.sh prints them over the translation e3d84637dd85f389… (all of the seat's roots in one cut). By AI agents, Wed Nov 11 2026. No macro, syntax, notation, axiom, sorry.
-/
import Derived.Test.YtcfkllnpkmebpaaGreatDoorChecked
import GoSem.Claim
import GoSem.ClaimJoined
import GoSem.ClaimMapViews
import Derived.JoinedTies
import Derived.KernelRfl
namespace Go.Proofs.YtcfkllnpkmebpaaGreatDoor
/- THE CELL 'sum', in the pinned program and in every row, IS THE sha256 OF THE DUMP (.gsa) THAT YtcfkllnpkmebpaaGreatDoorProg.lean LOADS. Nothing in Lean hashes anything: it is a label: what it is worth is what the hold of that sum in a sandbox is worth. -/
noncomputable def Tryz.pinned : Pinned := { name := "ytcfkllnpkmebpaagreatdoor", sum := "e3d84637dd85f389e3a930168f0f3929e30879ed2b144a01e84c8417456b3963", checked := Tryz.checked }
namespace Rows
def none {H : Type} : Left H := { results := [], args := [] }

/- WHAT THE LISTED PACKAGE-LEVEL VARIABLES READ AS WHEN THE CALL BEGINS. Each datum BY PROGRAM (the guide's laid-datum.mjs) off the statement by which the dump's own 'gosem.cut.vars' lays the variable. In a bare row this is a premise. The card (YtcfkllnpkmebpaaGreatDoorCards.lean) ties it to the program's text. -/
def laid_math_bits_deBruijn32tab {H : Type} : DataW H := .agg [.lit (.int .u8 0), .lit (.int .u8 1), .lit (.int .u8 28), .lit (.int .u8 2), .lit (.int .u8 29), .lit (.int .u8 14), .lit (.int .u8 24), .lit (.int .u8 3), .lit (.int .u8 30), .lit (.int .u8 22), .lit (.int .u8 20), .lit (.int .u8 15), .lit (.int .u8 25), .lit (.int .u8 17), .lit (.int .u8 4), .lit (.int .u8 8), .lit (.int .u8 31), .lit (.int .u8 27), .lit (.int .u8 13), .lit (.int .u8 23), .lit (.int .u8 21), .lit (.int .u8 19), .lit (.int .u8 16), .lit (.int .u8 7), .lit (.int .u8 26), .lit (.int .u8 12), .lit (.int .u8 18), .lit (.int .u8 6), .lit (.int .u8 11), .lit (.int .u8 5), .lit (.int .u8 10), .lit (.int .u8 9)]
def laid_math_bits_deBruijn64tab {H : Type} : DataW H := .agg [.lit (.int .u8 0), .lit (.int .u8 1), .lit (.int .u8 56), .lit (.int .u8 2), .lit (.int .u8 57), .lit (.int .u8 49), .lit (.int .u8 28), .lit (.int .u8 3), .lit (.int .u8 61), .lit (.int .u8 58), .lit (.int .u8 42), .lit (.int .u8 50), .lit (.int .u8 38), .lit (.int .u8 29), .lit (.int .u8 17), .lit (.int .u8 4), .lit (.int .u8 62), .lit (.int .u8 47), .lit (.int .u8 59), .lit (.int .u8 36), .lit (.int .u8 45), .lit (.int .u8 43), .lit (.int .u8 51), .lit (.int .u8 22), .lit (.int .u8 53), .lit (.int .u8 39), .lit (.int .u8 33), .lit (.int .u8 30), .lit (.int .u8 24), .lit (.int .u8 18), .lit (.int .u8 12), .lit (.int .u8 5), .lit (.int .u8 63), .lit (.int .u8 55), .lit (.int .u8 48), .lit (.int .u8 27), .lit (.int .u8 60), .lit (.int .u8 41), .lit (.int .u8 37), .lit (.int .u8 16), .lit (.int .u8 46), .lit (.int .u8 35), .lit (.int .u8 44), .lit (.int .u8 21), .lit (.int .u8 52), .lit (.int .u8 32), .lit (.int .u8 23), .lit (.int .u8 11), .lit (.int .u8 54), .lit (.int .u8 26), .lit (.int .u8 40), .lit (.int .u8 15), .lit (.int .u8 34), .lit (.int .u8 20), .lit (.int .u8 31), .lit (.int .u8 10), .lit (.int .u8 25), .lit (.int .u8 14), .lit (.int .u8 19), .lit (.int .u8 9), .lit (.int .u8 13), .lit (.int .u8 8), .lit (.int .u8 7), .lit (.int .u8 6)]
def laid_internal_strconv_uint64pow10 {H : Type} : DataW H := .agg [.lit (.int .u64 1), .lit (.int .u64 10), .lit (.int .u64 100), .lit (.int .u64 1000), .lit (.int .u64 10000), .lit (.int .u64 100000), .lit (.int .u64 1000000), .lit (.int .u64 10000000), .lit (.int .u64 100000000), .lit (.int .u64 1000000000), .lit (.int .u64 10000000000), .lit (.int .u64 100000000000), .lit (.int .u64 1000000000000), .lit (.int .u64 10000000000000), .lit (.int .u64 100000000000000), .lit (.int .u64 1000000000000000), .lit (.int .u64 10000000000000000), .lit (.int .u64 100000000000000000), .lit (.int .u64 1000000000000000000), .lit (.int .u64 10000000000000000000)]

/-- 'drydocklaw44.IncidentFormats': WHATEVER THE INPUT: true; the input reads as it did. -/
def incidentFormatsSpec : ChangeSpec := { name := "incidentFormats", fn := fun _ => fun
  | [d1, d2, d3, d4, d5] => { results := [.lit (.bool true)], args := [d1, d2, d3, d4, d5] }
  | _ => none }
def incidentFormatsRow : OpenClaim := { program := "ytcfkllnpkmebpaagreatdoor", sum := "e3d84637dd85f389e3a930168f0f3929e30879ed2b144a01e84c8417456b3963", func := "drydock/drydocklaw44.IncidentFormats", spec := "incidentFormats", inPlace := ["internal/abi.NoEscape", "internal/bytealg.IndexByteString", "internal/bytealg.IndexString"], unfollowed := true, recurses := true, named := ["internal/strconv.uint64pow10", "math/bits.deBruijn32tab", "math/bits.deBruijn64tab", "internal/bytealg.MaxLen"], plainKeys := false, apart := false, laid := [("math/bits.deBruijn32tab", laid_math_bits_deBruijn32tab), ("math/bits.deBruijn64tab", laid_math_bits_deBruijn64tab), ("internal/strconv.uint64pow10", laid_internal_strconv_uint64pow10)] }
def IncidentFormatsSaid : Prop := incidentFormatsRow.holds Tryz.pinned (OpenSpec.ofChange incidentFormatsSpec)

/-- ITS FALSE NEIGHBOUR: 'it returns false'. Refute it at one input. -/
def incidentFormatsWrong : ChangeSpec := { name := "incidentFormats", fn := fun _ => fun
  | [d1, d2, d3, d4, d5] => { results := [.lit (.bool false)], args := [d1, d2, d3, d4, d5] }
  | _ => none }
def IncidentFormatsWrongFalsely : Prop := incidentFormatsRow.holds Tryz.pinned (OpenSpec.ofChange incidentFormatsWrong)

/-- 'drydocklaw44.IncidentParses': WHATEVER THE INPUT: true; the input reads as it did. -/
def incidentParsesSpec : ChangeSpec := { name := "incidentParses", fn := fun _ => fun
  | [d1, d2, d3, d4, d5] => { results := [.lit (.bool true)], args := [d1, d2, d3, d4, d5] }
  | _ => none }
def incidentParsesRow : OpenClaim := { program := "ytcfkllnpkmebpaagreatdoor", sum := "e3d84637dd85f389e3a930168f0f3929e30879ed2b144a01e84c8417456b3963", func := "drydock/drydocklaw44.IncidentParses", spec := "incidentParses", inPlace := ["internal/abi.NoEscape", "internal/bytealg.IndexByteString", "internal/bytealg.IndexString"], unfollowed := true, recurses := true, named := ["internal/strconv.uint64pow10", "math/bits.deBruijn32tab", "math/bits.deBruijn64tab", "internal/bytealg.MaxLen"], plainKeys := false, apart := false, laid := [("math/bits.deBruijn32tab", laid_math_bits_deBruijn32tab), ("math/bits.deBruijn64tab", laid_math_bits_deBruijn64tab), ("internal/strconv.uint64pow10", laid_internal_strconv_uint64pow10)] }
def IncidentParsesSaid : Prop := incidentParsesRow.holds Tryz.pinned (OpenSpec.ofChange incidentParsesSpec)

/-- ITS FALSE NEIGHBOUR: 'it returns false'. Refute it at one input. -/
def incidentParsesWrong : ChangeSpec := { name := "incidentParses", fn := fun _ => fun
  | [d1, d2, d3, d4, d5] => { results := [.lit (.bool false)], args := [d1, d2, d3, d4, d5] }
  | _ => none }
def IncidentParsesWrongFalsely : Prop := incidentParsesRow.holds Tryz.pinned (OpenSpec.ofChange incidentParsesWrong)

/-- 'drydocklaw44.IncidentRescues': WHATEVER THE INPUT: true; the input reads as it did. -/
def incidentRescuesSpec : ChangeSpec := { name := "incidentRescues", fn := fun _ => fun
  | [d1, d2, d3, d4] => { results := [.lit (.bool true)], args := [d1, d2, d3, d4] }
  | _ => none }
def incidentRescuesRow : OpenClaim := { program := "ytcfkllnpkmebpaagreatdoor", sum := "e3d84637dd85f389e3a930168f0f3929e30879ed2b144a01e84c8417456b3963", func := "drydock/drydocklaw44.IncidentRescues", spec := "incidentRescues", inPlace := ["internal/abi.NoEscape", "internal/bytealg.IndexByteString", "internal/bytealg.IndexString"], unfollowed := true, recurses := true, named := ["internal/strconv.uint64pow10", "math/bits.deBruijn32tab", "math/bits.deBruijn64tab", "internal/bytealg.MaxLen"], plainKeys := false, apart := false, laid := [("math/bits.deBruijn32tab", laid_math_bits_deBruijn32tab), ("math/bits.deBruijn64tab", laid_math_bits_deBruijn64tab), ("internal/strconv.uint64pow10", laid_internal_strconv_uint64pow10)] }
def IncidentRescuesSaid : Prop := incidentRescuesRow.holds Tryz.pinned (OpenSpec.ofChange incidentRescuesSpec)

/-- ITS FALSE NEIGHBOUR: 'it returns false'. Refute it at one input. -/
def incidentRescuesWrong : ChangeSpec := { name := "incidentRescues", fn := fun _ => fun
  | [d1, d2, d3, d4] => { results := [.lit (.bool false)], args := [d1, d2, d3, d4] }
  | _ => none }
def IncidentRescuesWrongFalsely : Prop := incidentRescuesRow.holds Tryz.pinned (OpenSpec.ofChange incidentRescuesWrong)

/-- 'drydocklaw44.IncidentNeeds': WHATEVER THE INPUT: true; the input reads as it did. -/
def incidentNeedsSpec : ChangeSpec := { name := "incidentNeeds", fn := fun _ => fun
  | [d] => { results := [.lit (.bool true)], args := [d] }
  | _ => none }
def incidentNeedsRow : OpenClaim := { program := "ytcfkllnpkmebpaagreatdoor", sum := "e3d84637dd85f389e3a930168f0f3929e30879ed2b144a01e84c8417456b3963", func := "drydock/drydocklaw44.IncidentNeeds", spec := "incidentNeeds", inPlace := ["internal/abi.NoEscape", "internal/bytealg.IndexByteString", "internal/bytealg.IndexString"], unfollowed := true, recurses := true, named := ["internal/strconv.uint64pow10", "math/bits.deBruijn32tab", "math/bits.deBruijn64tab", "internal/bytealg.MaxLen"], plainKeys := false, apart := false, laid := [("math/bits.deBruijn32tab", laid_math_bits_deBruijn32tab), ("math/bits.deBruijn64tab", laid_math_bits_deBruijn64tab), ("internal/strconv.uint64pow10", laid_internal_strconv_uint64pow10)] }
def IncidentNeedsSaid : Prop := incidentNeedsRow.holds Tryz.pinned (OpenSpec.ofChange incidentNeedsSpec)

/-- ITS FALSE NEIGHBOUR: 'it returns false'. Refute it at one input. -/
def incidentNeedsWrong : ChangeSpec := { name := "incidentNeeds", fn := fun _ => fun
  | [d] => { results := [.lit (.bool false)], args := [d] }
  | _ => none }
def IncidentNeedsWrongFalsely : Prop := incidentNeedsRow.holds Tryz.pinned (OpenSpec.ofChange incidentNeedsWrong)

/-- 'drydocklaw44.IncidentExplains': WHATEVER THE INPUT: true; the input reads as it did. -/
def incidentExplainsSpec : ChangeSpec := { name := "incidentExplains", fn := fun _ => fun
  | [d1, d2] => { results := [.lit (.bool true)], args := [d1, d2] }
  | _ => none }
def incidentExplainsRow : OpenClaim := { program := "ytcfkllnpkmebpaagreatdoor", sum := "e3d84637dd85f389e3a930168f0f3929e30879ed2b144a01e84c8417456b3963", func := "drydock/drydocklaw44.IncidentExplains", spec := "incidentExplains", inPlace := ["internal/abi.NoEscape", "internal/bytealg.IndexByteString", "internal/bytealg.IndexString"], unfollowed := true, recurses := true, named := ["internal/strconv.uint64pow10", "math/bits.deBruijn32tab", "math/bits.deBruijn64tab", "internal/bytealg.MaxLen"], plainKeys := false, apart := false, laid := [("math/bits.deBruijn32tab", laid_math_bits_deBruijn32tab), ("math/bits.deBruijn64tab", laid_math_bits_deBruijn64tab), ("internal/strconv.uint64pow10", laid_internal_strconv_uint64pow10)] }
def IncidentExplainsSaid : Prop := incidentExplainsRow.holds Tryz.pinned (OpenSpec.ofChange incidentExplainsSpec)

/-- ITS FALSE NEIGHBOUR: 'it returns false'. Refute it at one input. -/
def incidentExplainsWrong : ChangeSpec := { name := "incidentExplains", fn := fun _ => fun
  | [d1, d2] => { results := [.lit (.bool false)], args := [d1, d2] }
  | _ => none }
def IncidentExplainsWrongFalsely : Prop := incidentExplainsRow.holds Tryz.pinned (OpenSpec.ofChange incidentExplainsWrong)

/-- 'drydocklaw44.IncidentBack': WHATEVER THE INPUT: true; the input reads as it did. -/
def incidentBackSpec : ChangeSpec := { name := "incidentBack", fn := fun _ => fun
  | [d1, d2] => { results := [.lit (.bool true)], args := [d1, d2] }
  | _ => none }
def incidentBackRow : OpenClaim := { program := "ytcfkllnpkmebpaagreatdoor", sum := "e3d84637dd85f389e3a930168f0f3929e30879ed2b144a01e84c8417456b3963", func := "drydock/drydocklaw44.IncidentBack", spec := "incidentBack", inPlace := ["internal/abi.NoEscape", "internal/bytealg.IndexByteString", "internal/bytealg.IndexString"], unfollowed := true, recurses := true, named := ["internal/strconv.uint64pow10", "math/bits.deBruijn32tab", "math/bits.deBruijn64tab", "internal/bytealg.MaxLen"], plainKeys := false, apart := false, laid := [("math/bits.deBruijn32tab", laid_math_bits_deBruijn32tab), ("math/bits.deBruijn64tab", laid_math_bits_deBruijn64tab), ("internal/strconv.uint64pow10", laid_internal_strconv_uint64pow10)] }
def IncidentBackSaid : Prop := incidentBackRow.holds Tryz.pinned (OpenSpec.ofChange incidentBackSpec)

/-- ITS FALSE NEIGHBOUR: 'it returns false'. Refute it at one input. -/
def incidentBackWrong : ChangeSpec := { name := "incidentBack", fn := fun _ => fun
  | [d1, d2] => { results := [.lit (.bool false)], args := [d1, d2] }
  | _ => none }
def IncidentBackWrongFalsely : Prop := incidentBackRow.holds Tryz.pinned (OpenSpec.ofChange incidentBackWrong)

/-- 'drydocklaw44.IncidentTrue': WHATEVER THE INPUT: true; the input reads as it did. -/
def incidentTrueSpec : ChangeSpec := { name := "incidentTrue", fn := fun _ => fun
  | [d] => { results := [.lit (.bool true)], args := [d] }
  | _ => none }
def incidentTrueRow : OpenClaim := { program := "ytcfkllnpkmebpaagreatdoor", sum := "e3d84637dd85f389e3a930168f0f3929e30879ed2b144a01e84c8417456b3963", func := "drydock/drydocklaw44.IncidentTrue", spec := "incidentTrue", inPlace := ["internal/abi.NoEscape", "internal/bytealg.IndexByteString", "internal/bytealg.IndexString"], unfollowed := true, recurses := true, named := ["internal/strconv.uint64pow10", "math/bits.deBruijn32tab", "math/bits.deBruijn64tab", "internal/bytealg.MaxLen"], plainKeys := false, apart := false, laid := [("math/bits.deBruijn32tab", laid_math_bits_deBruijn32tab), ("math/bits.deBruijn64tab", laid_math_bits_deBruijn64tab), ("internal/strconv.uint64pow10", laid_internal_strconv_uint64pow10)] }
def IncidentTrueSaid : Prop := incidentTrueRow.holds Tryz.pinned (OpenSpec.ofChange incidentTrueSpec)

/-- ITS FALSE NEIGHBOUR: 'it returns false'. Refute it at one input. -/
def incidentTrueWrong : ChangeSpec := { name := "incidentTrue", fn := fun _ => fun
  | [d] => { results := [.lit (.bool false)], args := [d] }
  | _ => none }
def IncidentTrueWrongFalsely : Prop := incidentTrueRow.holds Tryz.pinned (OpenSpec.ofChange incidentTrueWrong)

/- THE SECOND FORM. 'bulk': how many values and letters a reading holds, each counted each time it is reached (what is shared counts as often as it is met; a slice's spare places count too). A statement '..UptoSaid' is the law's where the arguments, and the package variables that the reading takes, are together of bulk at most 1048576: NARROWER than '..Said'. Prove '..Said' where nothing that the law and all that it calls make is longer than what came in: it says more and counts as full. Else prove '..UptoSaid'. A law counts once. -/
mutual
def uptoBulk {H : Type} : DataW H → Nat
  | .lit (.string bytes) => bytes.length + 1
  | .lit _ => 1
  | .nil => 1
  | .ptr d => uptoBulk d + 1
  | .slice elems spare => uptoBulkAll elems + uptoBulkAll spare + 1
  | .agg parts => uptoBulkAll parts + 1
  | .iface _ d => uptoBulk d + 1
  | .map entries => uptoBulkEntries entries + 1
  | .held _ => 1
def uptoBulkAll {H : Type} : List (DataW H) → Nat
  | [] => 0
  | d :: r => uptoBulk d + uptoBulkAll r
def uptoBulkEntries {H : Type} : List (Lit × DataW H) → Nat
  | [] => 0
  | x :: r => uptoBulkEntry x + uptoBulkEntries r
def uptoBulkEntry {H : Type} : Lit × DataW H → Nat
  | (.string bytes, d) => bytes.length + uptoBulk d + 1
  | (_, d) => uptoBulk d + 1
 end
def uptoSmall : (H : Type) → List (DataW H) → Bool := fun _ ds => decide (uptoBulkAll ds ≤ 1048576)
def OpenSpec.upto (s : _root_.Go.ChangeSpec) : _root_.Go.OpenSpec := { _root_.Go.OpenSpec.ofChange s with cond := some uptoSmall }

/-- 'drydocklaw44.IncidentFormats', WHERE WHAT IT READS IS OF BULK AT MOST 1048576: true; the input reads as it did. -/
def incidentFormatsUptoRow : OpenClaim := { program := "ytcfkllnpkmebpaagreatdoor", sum := "e3d84637dd85f389e3a930168f0f3929e30879ed2b144a01e84c8417456b3963", func := "drydock/drydocklaw44.IncidentFormats", spec := "incidentFormats", inPlace := ["internal/abi.NoEscape", "internal/bytealg.IndexByteString", "internal/bytealg.IndexString"], unfollowed := true, recurses := true, named := ["internal/strconv.uint64pow10", "math/bits.deBruijn32tab", "math/bits.deBruijn64tab", "internal/bytealg.MaxLen"], plainKeys := false, apart := false, laid := [("math/bits.deBruijn32tab", laid_math_bits_deBruijn32tab), ("math/bits.deBruijn64tab", laid_math_bits_deBruijn64tab), ("internal/strconv.uint64pow10", laid_internal_strconv_uint64pow10)], narrowed := true }
def IncidentFormatsUptoSaid : Prop := incidentFormatsUptoRow.holds Tryz.pinned (OpenSpec.upto incidentFormatsSpec)

/-- 'drydocklaw44.IncidentParses', WHERE WHAT IT READS IS OF BULK AT MOST 1048576: true; the input reads as it did. -/
def incidentParsesUptoRow : OpenClaim := { program := "ytcfkllnpkmebpaagreatdoor", sum := "e3d84637dd85f389e3a930168f0f3929e30879ed2b144a01e84c8417456b3963", func := "drydock/drydocklaw44.IncidentParses", spec := "incidentParses", inPlace := ["internal/abi.NoEscape", "internal/bytealg.IndexByteString", "internal/bytealg.IndexString"], unfollowed := true, recurses := true, named := ["internal/strconv.uint64pow10", "math/bits.deBruijn32tab", "math/bits.deBruijn64tab", "internal/bytealg.MaxLen"], plainKeys := false, apart := false, laid := [("math/bits.deBruijn32tab", laid_math_bits_deBruijn32tab), ("math/bits.deBruijn64tab", laid_math_bits_deBruijn64tab), ("internal/strconv.uint64pow10", laid_internal_strconv_uint64pow10)], narrowed := true }
def IncidentParsesUptoSaid : Prop := incidentParsesUptoRow.holds Tryz.pinned (OpenSpec.upto incidentParsesSpec)

/-- 'drydocklaw44.IncidentRescues', WHERE WHAT IT READS IS OF BULK AT MOST 1048576: true; the input reads as it did. -/
def incidentRescuesUptoRow : OpenClaim := { program := "ytcfkllnpkmebpaagreatdoor", sum := "e3d84637dd85f389e3a930168f0f3929e30879ed2b144a01e84c8417456b3963", func := "drydock/drydocklaw44.IncidentRescues", spec := "incidentRescues", inPlace := ["internal/abi.NoEscape", "internal/bytealg.IndexByteString", "internal/bytealg.IndexString"], unfollowed := true, recurses := true, named := ["internal/strconv.uint64pow10", "math/bits.deBruijn32tab", "math/bits.deBruijn64tab", "internal/bytealg.MaxLen"], plainKeys := false, apart := false, laid := [("math/bits.deBruijn32tab", laid_math_bits_deBruijn32tab), ("math/bits.deBruijn64tab", laid_math_bits_deBruijn64tab), ("internal/strconv.uint64pow10", laid_internal_strconv_uint64pow10)], narrowed := true }
def IncidentRescuesUptoSaid : Prop := incidentRescuesUptoRow.holds Tryz.pinned (OpenSpec.upto incidentRescuesSpec)

/-- 'drydocklaw44.IncidentNeeds', WHERE WHAT IT READS IS OF BULK AT MOST 1048576: true; the input reads as it did. -/
def incidentNeedsUptoRow : OpenClaim := { program := "ytcfkllnpkmebpaagreatdoor", sum := "e3d84637dd85f389e3a930168f0f3929e30879ed2b144a01e84c8417456b3963", func := "drydock/drydocklaw44.IncidentNeeds", spec := "incidentNeeds", inPlace := ["internal/abi.NoEscape", "internal/bytealg.IndexByteString", "internal/bytealg.IndexString"], unfollowed := true, recurses := true, named := ["internal/strconv.uint64pow10", "math/bits.deBruijn32tab", "math/bits.deBruijn64tab", "internal/bytealg.MaxLen"], plainKeys := false, apart := false, laid := [("math/bits.deBruijn32tab", laid_math_bits_deBruijn32tab), ("math/bits.deBruijn64tab", laid_math_bits_deBruijn64tab), ("internal/strconv.uint64pow10", laid_internal_strconv_uint64pow10)], narrowed := true }
def IncidentNeedsUptoSaid : Prop := incidentNeedsUptoRow.holds Tryz.pinned (OpenSpec.upto incidentNeedsSpec)

/-- 'drydocklaw44.IncidentExplains', WHERE WHAT IT READS IS OF BULK AT MOST 1048576: true; the input reads as it did. -/
def incidentExplainsUptoRow : OpenClaim := { program := "ytcfkllnpkmebpaagreatdoor", sum := "e3d84637dd85f389e3a930168f0f3929e30879ed2b144a01e84c8417456b3963", func := "drydock/drydocklaw44.IncidentExplains", spec := "incidentExplains", inPlace := ["internal/abi.NoEscape", "internal/bytealg.IndexByteString", "internal/bytealg.IndexString"], unfollowed := true, recurses := true, named := ["internal/strconv.uint64pow10", "math/bits.deBruijn32tab", "math/bits.deBruijn64tab", "internal/bytealg.MaxLen"], plainKeys := false, apart := false, laid := [("math/bits.deBruijn32tab", laid_math_bits_deBruijn32tab), ("math/bits.deBruijn64tab", laid_math_bits_deBruijn64tab), ("internal/strconv.uint64pow10", laid_internal_strconv_uint64pow10)], narrowed := true }
def IncidentExplainsUptoSaid : Prop := incidentExplainsUptoRow.holds Tryz.pinned (OpenSpec.upto incidentExplainsSpec)

/-- 'drydocklaw44.IncidentBack', WHERE WHAT IT READS IS OF BULK AT MOST 1048576: true; the input reads as it did. -/
def incidentBackUptoRow : OpenClaim := { program := "ytcfkllnpkmebpaagreatdoor", sum := "e3d84637dd85f389e3a930168f0f3929e30879ed2b144a01e84c8417456b3963", func := "drydock/drydocklaw44.IncidentBack", spec := "incidentBack", inPlace := ["internal/abi.NoEscape", "internal/bytealg.IndexByteString", "internal/bytealg.IndexString"], unfollowed := true, recurses := true, named := ["internal/strconv.uint64pow10", "math/bits.deBruijn32tab", "math/bits.deBruijn64tab", "internal/bytealg.MaxLen"], plainKeys := false, apart := false, laid := [("math/bits.deBruijn32tab", laid_math_bits_deBruijn32tab), ("math/bits.deBruijn64tab", laid_math_bits_deBruijn64tab), ("internal/strconv.uint64pow10", laid_internal_strconv_uint64pow10)], narrowed := true }
def IncidentBackUptoSaid : Prop := incidentBackUptoRow.holds Tryz.pinned (OpenSpec.upto incidentBackSpec)

/-- 'drydocklaw44.IncidentTrue', WHERE WHAT IT READS IS OF BULK AT MOST 1048576: true; the input reads as it did. -/
def incidentTrueUptoRow : OpenClaim := { program := "ytcfkllnpkmebpaagreatdoor", sum := "e3d84637dd85f389e3a930168f0f3929e30879ed2b144a01e84c8417456b3963", func := "drydock/drydocklaw44.IncidentTrue", spec := "incidentTrue", inPlace := ["internal/abi.NoEscape", "internal/bytealg.IndexByteString", "internal/bytealg.IndexString"], unfollowed := true, recurses := true, named := ["internal/strconv.uint64pow10", "math/bits.deBruijn32tab", "math/bits.deBruijn64tab", "internal/bytealg.MaxLen"], plainKeys := false, apart := false, laid := [("math/bits.deBruijn32tab", laid_math_bits_deBruijn32tab), ("math/bits.deBruijn64tab", laid_math_bits_deBruijn64tab), ("internal/strconv.uint64pow10", laid_internal_strconv_uint64pow10)], narrowed := true }
def IncidentTrueUptoSaid : Prop := incidentTrueUptoRow.holds Tryz.pinned (OpenSpec.upto incidentTrueSpec)

end Rows
end Go.Proofs.YtcfkllnpkmebpaaGreatDoor
