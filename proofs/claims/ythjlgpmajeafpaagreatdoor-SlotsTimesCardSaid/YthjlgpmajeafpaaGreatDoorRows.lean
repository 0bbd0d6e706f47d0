/-
  NARROWER THAN 'FOR EVERY INPUT', by the rows' own cells (each row's printed sentence says how): MessageParts: loops, laid · MessageFates: loops, laid · SlotsChecks: loops, laid · SlotsFinds: loops, laid · SlotsEquals: loops, laid · SlotsWaiting: loops, laid · MessageSorts: loops, laid · SlotsPuts: loops, laid · SlotsOrders: loops, laid · SlotsLimits: laid · SlotsRemoves: loops, laid · SlotsTimes: loops, laid.
  DERIVED. THE GIVEN ROWS OF THIS SEAT. 12 by the template 'for every input the law returns true; each argument reads behind the call as it read before'; 0 by the template 'total and deterministic' (their statements: YthjlgpmajeafpaaGreatDoorTotals.lean).
  GIVEN WITH THE SEED: the statements are not yours to turn. If you find one false, say at which input.
  Laid BY PROGRAM, IN A SANDBOX (cutbox-rows.mjs): the forced cells as the released guide's own fill.sh prints them over the translation 7985f0eea34df635… (all of the seat's roots in one cut). By AI agents, Wed Nov 11 2026. No macro, syntax, notation, axiom, sorry.
-/
import Derived.Test.YthjlgpmajeafpaaGreatDoorChecked
import GoSem.PinnedTables
import GoSem.Claim
import GoSem.ClaimJoined
import GoSem.ClaimMapViews
import Derived.JoinedTies
import Derived.KernelRfl
namespace Go.Proofs.YthjlgpmajeafpaaGreatDoor
/- THE CELL 'sum', in the pinned program and in every row, IS THE sha256 OF THE DUMP (.gsa) THAT YthjlgpmajeafpaaGreatDoorProg.lean LOADS. Nothing in Lean hashes anything: it is a label: what it is worth is what the hold of that sum in a sandbox is worth. -/
noncomputable def Tryz.pinned : Pinned := { name := "ythjlgpmajeafpaagreatdoor", sum := "7985f0eea34df63554ff63ad146b31be9e4020d4935054941322176ba242eab4", checked := Tryz.checked }
namespace Rows
def none {H : Type} : Left H := { results := [], args := [] }

/- WHAT THE LISTED PACKAGE-LEVEL VARIABLES READ AS WHEN THE CALL BEGINS. Each datum BY PROGRAM (the guide's laid-datum.mjs) off the statement by which the dump's own 'gosem.cut.vars' lays the variable. In a bare row this is a premise. The card (YthjlgpmajeafpaaGreatDoorCards.lean) ties it to the program's text. -/
def laid_math_bits_deBruijn32tab {H : Type} : DataW H := .agg [.lit (.int .u8 0), .lit (.int .u8 1), .lit (.int .u8 28), .lit (.int .u8 2), .lit (.int .u8 29), .lit (.int .u8 14), .lit (.int .u8 24), .lit (.int .u8 3), .lit (.int .u8 30), .lit (.int .u8 22), .lit (.int .u8 20), .lit (.int .u8 15), .lit (.int .u8 25), .lit (.int .u8 17), .lit (.int .u8 4), .lit (.int .u8 8), .lit (.int .u8 31), .lit (.int .u8 27), .lit (.int .u8 13), .lit (.int .u8 23), .lit (.int .u8 21), .lit (.int .u8 19), .lit (.int .u8 16), .lit (.int .u8 7), .lit (.int .u8 26), .lit (.int .u8 12), .lit (.int .u8 18), .lit (.int .u8 6), .lit (.int .u8 11), .lit (.int .u8 5), .lit (.int .u8 10), .lit (.int .u8 9)]
def laid_math_bits_deBruijn64tab {H : Type} : DataW H := .agg [.lit (.int .u8 0), .lit (.int .u8 1), .lit (.int .u8 56), .lit (.int .u8 2), .lit (.int .u8 57), .lit (.int .u8 49), .lit (.int .u8 28), .lit (.int .u8 3), .lit (.int .u8 61), .lit (.int .u8 58), .lit (.int .u8 42), .lit (.int .u8 50), .lit (.int .u8 38), .lit (.int .u8 29), .lit (.int .u8 17), .lit (.int .u8 4), .lit (.int .u8 62), .lit (.int .u8 47), .lit (.int .u8 59), .lit (.int .u8 36), .lit (.int .u8 45), .lit (.int .u8 43), .lit (.int .u8 51), .lit (.int .u8 22), .lit (.int .u8 53), .lit (.int .u8 39), .lit (.int .u8 33), .lit (.int .u8 30), .lit (.int .u8 24), .lit (.int .u8 18), .lit (.int .u8 12), .lit (.int .u8 5), .lit (.int .u8 63), .lit (.int .u8 55), .lit (.int .u8 48), .lit (.int .u8 27), .lit (.int .u8 60), .lit (.int .u8 41), .lit (.int .u8 37), .lit (.int .u8 16), .lit (.int .u8 46), .lit (.int .u8 35), .lit (.int .u8 44), .lit (.int .u8 21), .lit (.int .u8 52), .lit (.int .u8 32), .lit (.int .u8 23), .lit (.int .u8 11), .lit (.int .u8 54), .lit (.int .u8 26), .lit (.int .u8 40), .lit (.int .u8 15), .lit (.int .u8 34), .lit (.int .u8 20), .lit (.int .u8 31), .lit (.int .u8 10), .lit (.int .u8 25), .lit (.int .u8 14), .lit (.int .u8 19), .lit (.int .u8 9), .lit (.int .u8 13), .lit (.int .u8 8), .lit (.int .u8 7), .lit (.int .u8 6)]
def laid_internal_strconv_uint64pow10 {H : Type} : DataW H := .agg [.lit (.int .u64 1), .lit (.int .u64 10), .lit (.int .u64 100), .lit (.int .u64 1000), .lit (.int .u64 10000), .lit (.int .u64 100000), .lit (.int .u64 1000000), .lit (.int .u64 10000000), .lit (.int .u64 100000000), .lit (.int .u64 1000000000), .lit (.int .u64 10000000000), .lit (.int .u64 100000000000), .lit (.int .u64 1000000000000), .lit (.int .u64 10000000000000), .lit (.int .u64 100000000000000), .lit (.int .u64 1000000000000000), .lit (.int .u64 10000000000000000), .lit (.int .u64 100000000000000000), .lit (.int .u64 1000000000000000000), .lit (.int .u64 10000000000000000000)]
def laid_unicode_utf8_acceptRanges {H : Type} : DataW H := .agg [.agg [.lit (.int .u8 128), .lit (.int .u8 191)], .agg [.lit (.int .u8 160), .lit (.int .u8 191)], .agg [.lit (.int .u8 128), .lit (.int .u8 159)], .agg [.lit (.int .u8 144), .lit (.int .u8 191)], .agg [.lit (.int .u8 128), .lit (.int .u8 143)], .agg [.lit (.int .u8 0), .lit (.int .u8 0)], .agg [.lit (.int .u8 0), .lit (.int .u8 0)], .agg [.lit (.int .u8 0), .lit (.int .u8 0)], .agg [.lit (.int .u8 0), .lit (.int .u8 0)], .agg [.lit (.int .u8 0), .lit (.int .u8 0)], .agg [.lit (.int .u8 0), .lit (.int .u8 0)], .agg [.lit (.int .u8 0), .lit (.int .u8 0)], .agg [.lit (.int .u8 0), .lit (.int .u8 0)], .agg [.lit (.int .u8 0), .lit (.int .u8 0)], .agg [.lit (.int .u8 0), .lit (.int .u8 0)], .agg [.lit (.int .u8 0), .lit (.int .u8 0)]]
/-- One of Go's own tables, pinned by name: the form's constant. -/
def laid_unicode_utf8_first : DataW Unit := Go.Pinned.utf8First

/-- 'manifoldlaw29.MessageParts': WHATEVER THE INPUT: true; the input reads as it did. -/
def messagePartsSpec : ChangeSpec := { name := "messageParts", fn := fun _ => fun
  | [d1, d2] => { results := [.lit (.bool true)], args := [d1, d2] }
  | _ => none }
def messagePartsRow : OpenClaim := { program := "ythjlgpmajeafpaagreatdoor", sum := "7985f0eea34df63554ff63ad146b31be9e4020d4935054941322176ba242eab4", func := "manifold/manifoldlaw29.MessageParts", spec := "messageParts", inPlace := ["internal/abi.NoEscape", "internal/bytealg.MakeNoZero", "internal/bytealg.abigen_runtime_cmpstring"], unfollowed := true, recurses := true, named := ["unicode/utf8.first", "unicode/utf8.acceptRanges", "internal/strconv.uint64pow10", "math/bits.deBruijn32tab", "math/bits.deBruijn64tab"], loops := true, apart := false, laid := [("math/bits.deBruijn32tab", laid_math_bits_deBruijn32tab), ("math/bits.deBruijn64tab", laid_math_bits_deBruijn64tab), ("internal/strconv.uint64pow10", laid_internal_strconv_uint64pow10), ("unicode/utf8.acceptRanges", laid_unicode_utf8_acceptRanges), ("unicode/utf8.first", laid_unicode_utf8_first)] }
def MessagePartsSaid : Prop := messagePartsRow.holds Tryz.pinned (OpenSpec.ofChange messagePartsSpec)

/-- ITS FALSE NEIGHBOUR: 'it returns false'. Refute it at one input. -/
def messagePartsWrong : ChangeSpec := { name := "messageParts", fn := fun _ => fun
  | [d1, d2] => { results := [.lit (.bool false)], args := [d1, d2] }
  | _ => none }
def MessagePartsWrongFalsely : Prop := messagePartsRow.holds Tryz.pinned (OpenSpec.ofChange messagePartsWrong)

/-- 'manifoldlaw29.MessageFates': WHATEVER THE INPUT: true; the input reads as it did. -/
def messageFatesSpec : ChangeSpec := { name := "messageFates", fn := fun _ => fun
  | [d1, d2, d3] => { results := [.lit (.bool true)], args := [d1, d2, d3] }
  | _ => none }
def messageFatesRow : OpenClaim := { program := "ythjlgpmajeafpaagreatdoor", sum := "7985f0eea34df63554ff63ad146b31be9e4020d4935054941322176ba242eab4", func := "manifold/manifoldlaw29.MessageFates", spec := "messageFates", inPlace := ["internal/abi.NoEscape", "internal/bytealg.MakeNoZero"], unfollowed := true, recurses := true, named := ["unicode/utf8.first", "unicode/utf8.acceptRanges", "internal/strconv.uint64pow10", "math/bits.deBruijn32tab", "math/bits.deBruijn64tab"], loops := true, apart := false, laid := [("math/bits.deBruijn32tab", laid_math_bits_deBruijn32tab), ("math/bits.deBruijn64tab", laid_math_bits_deBruijn64tab), ("internal/strconv.uint64pow10", laid_internal_strconv_uint64pow10), ("unicode/utf8.acceptRanges", laid_unicode_utf8_acceptRanges), ("unicode/utf8.first", laid_unicode_utf8_first)] }
def MessageFatesSaid : Prop := messageFatesRow.holds Tryz.pinned (OpenSpec.ofChange messageFatesSpec)

/-- ITS FALSE NEIGHBOUR: 'it returns false'. Refute it at one input. -/
def messageFatesWrong : ChangeSpec := { name := "messageFates", fn := fun _ => fun
  | [d1, d2, d3] => { results := [.lit (.bool false)], args := [d1, d2, d3] }
  | _ => none }
def MessageFatesWrongFalsely : Prop := messageFatesRow.holds Tryz.pinned (OpenSpec.ofChange messageFatesWrong)

/-- 'manifoldlaw30.SlotsChecks': WHATEVER THE INPUT: true; the input reads as it did. -/
def slotsChecksSpec : ChangeSpec := { name := "slotsChecks", fn := fun _ => fun
  | [d1, d2] => { results := [.lit (.bool true)], args := [d1, d2] }
  | _ => none }
def slotsChecksRow : OpenClaim := { program := "ythjlgpmajeafpaagreatdoor", sum := "7985f0eea34df63554ff63ad146b31be9e4020d4935054941322176ba242eab4", func := "manifold/manifoldlaw30.SlotsChecks", spec := "slotsChecks", inPlace := ["internal/bytealg.abigen_runtime_cmpstring", "internal/abi.NoEscape", "internal/bytealg.MakeNoZero"], unfollowed := true, recurses := true, named := ["unicode/utf8.first", "unicode/utf8.acceptRanges", "internal/strconv.uint64pow10", "math/bits.deBruijn32tab", "math/bits.deBruijn64tab"], loops := true, apart := false, laid := [("math/bits.deBruijn32tab", laid_math_bits_deBruijn32tab), ("math/bits.deBruijn64tab", laid_math_bits_deBruijn64tab), ("internal/strconv.uint64pow10", laid_internal_strconv_uint64pow10), ("unicode/utf8.acceptRanges", laid_unicode_utf8_acceptRanges), ("unicode/utf8.first", laid_unicode_utf8_first)] }
def SlotsChecksSaid : Prop := slotsChecksRow.holds Tryz.pinned (OpenSpec.ofChange slotsChecksSpec)

/-- ITS FALSE NEIGHBOUR: 'it returns false'. Refute it at one input. -/
def slotsChecksWrong : ChangeSpec := { name := "slotsChecks", fn := fun _ => fun
  | [d1, d2] => { results := [.lit (.bool false)], args := [d1, d2] }
  | _ => none }
def SlotsChecksWrongFalsely : Prop := slotsChecksRow.holds Tryz.pinned (OpenSpec.ofChange slotsChecksWrong)

/-- 'manifoldlaw30.SlotsFinds': WHATEVER THE INPUT: true; the input reads as it did. -/
def slotsFindsSpec : ChangeSpec := { name := "slotsFinds", fn := fun _ => fun
  | [d1, d2] => { results := [.lit (.bool true)], args := [d1, d2] }
  | _ => none }
def slotsFindsRow : OpenClaim := { program := "ythjlgpmajeafpaagreatdoor", sum := "7985f0eea34df63554ff63ad146b31be9e4020d4935054941322176ba242eab4", func := "manifold/manifoldlaw30.SlotsFinds", spec := "slotsFinds", inPlace := ["internal/bytealg.abigen_runtime_cmpstring", "internal/abi.NoEscape", "internal/bytealg.MakeNoZero"], unfollowed := true, recurses := true, named := ["unicode/utf8.first", "unicode/utf8.acceptRanges", "internal/strconv.uint64pow10", "math/bits.deBruijn32tab", "math/bits.deBruijn64tab"], loops := true, apart := false, laid := [("math/bits.deBruijn32tab", laid_math_bits_deBruijn32tab), ("math/bits.deBruijn64tab", laid_math_bits_deBruijn64tab), ("internal/strconv.uint64pow10", laid_internal_strconv_uint64pow10), ("unicode/utf8.acceptRanges", laid_unicode_utf8_acceptRanges), ("unicode/utf8.first", laid_unicode_utf8_first)] }
def SlotsFindsSaid : Prop := slotsFindsRow.holds Tryz.pinned (OpenSpec.ofChange slotsFindsSpec)

/-- ITS FALSE NEIGHBOUR: 'it returns false'. Refute it at one input. -/
def slotsFindsWrong : ChangeSpec := { name := "slotsFinds", fn := fun _ => fun
  | [d1, d2] => { results := [.lit (.bool false)], args := [d1, d2] }
  | _ => none }
def SlotsFindsWrongFalsely : Prop := slotsFindsRow.holds Tryz.pinned (OpenSpec.ofChange slotsFindsWrong)

/-- 'manifoldlaw30.SlotsEquals': WHATEVER THE INPUT: true; the input reads as it did. -/
def slotsEqualsSpec : ChangeSpec := { name := "slotsEquals", fn := fun _ => fun
  | [d1, d2] => { results := [.lit (.bool true)], args := [d1, d2] }
  | _ => none }
def slotsEqualsRow : OpenClaim := { program := "ythjlgpmajeafpaagreatdoor", sum := "7985f0eea34df63554ff63ad146b31be9e4020d4935054941322176ba242eab4", func := "manifold/manifoldlaw30.SlotsEquals", spec := "slotsEquals", inPlace := ["internal/bytealg.abigen_runtime_cmpstring", "internal/abi.NoEscape", "internal/bytealg.MakeNoZero"], unfollowed := true, recurses := true, named := ["unicode/utf8.first", "unicode/utf8.acceptRanges", "internal/strconv.uint64pow10", "math/bits.deBruijn32tab", "math/bits.deBruijn64tab"], loops := true, apart := false, laid := [("math/bits.deBruijn32tab", laid_math_bits_deBruijn32tab), ("math/bits.deBruijn64tab", laid_math_bits_deBruijn64tab), ("internal/strconv.uint64pow10", laid_internal_strconv_uint64pow10), ("unicode/utf8.acceptRanges", laid_unicode_utf8_acceptRanges), ("unicode/utf8.first", laid_unicode_utf8_first)] }
def SlotsEqualsSaid : Prop := slotsEqualsRow.holds Tryz.pinned (OpenSpec.ofChange slotsEqualsSpec)

/-- ITS FALSE NEIGHBOUR: 'it returns false'. Refute it at one input. -/
def slotsEqualsWrong : ChangeSpec := { name := "slotsEquals", fn := fun _ => fun
  | [d1, d2] => { results := [.lit (.bool false)], args := [d1, d2] }
  | _ => none }
def SlotsEqualsWrongFalsely : Prop := slotsEqualsRow.holds Tryz.pinned (OpenSpec.ofChange slotsEqualsWrong)

/-- 'manifoldlaw30.SlotsWaiting': WHATEVER THE INPUT: true; the input reads as it did. -/
def slotsWaitingSpec : ChangeSpec := { name := "slotsWaiting", fn := fun _ => fun
  | [d] => { results := [.lit (.bool true)], args := [d] }
  | _ => none }
def slotsWaitingRow : OpenClaim := { program := "ythjlgpmajeafpaagreatdoor", sum := "7985f0eea34df63554ff63ad146b31be9e4020d4935054941322176ba242eab4", func := "manifold/manifoldlaw30.SlotsWaiting", spec := "slotsWaiting", inPlace := ["internal/bytealg.abigen_runtime_cmpstring", "internal/abi.NoEscape", "internal/bytealg.MakeNoZero"], unfollowed := true, recurses := true, named := ["unicode/utf8.first", "unicode/utf8.acceptRanges", "internal/strconv.uint64pow10", "math/bits.deBruijn32tab", "math/bits.deBruijn64tab"], loops := true, apart := false, laid := [("math/bits.deBruijn32tab", laid_math_bits_deBruijn32tab), ("math/bits.deBruijn64tab", laid_math_bits_deBruijn64tab), ("internal/strconv.uint64pow10", laid_internal_strconv_uint64pow10), ("unicode/utf8.acceptRanges", laid_unicode_utf8_acceptRanges), ("unicode/utf8.first", laid_unicode_utf8_first)] }
def SlotsWaitingSaid : Prop := slotsWaitingRow.holds Tryz.pinned (OpenSpec.ofChange slotsWaitingSpec)

/-- ITS FALSE NEIGHBOUR: 'it returns false'. Refute it at one input. -/
def slotsWaitingWrong : ChangeSpec := { name := "slotsWaiting", fn := fun _ => fun
  | [d] => { results := [.lit (.bool false)], args := [d] }
  | _ => none }
def SlotsWaitingWrongFalsely : Prop := slotsWaitingRow.holds Tryz.pinned (OpenSpec.ofChange slotsWaitingWrong)

/-- 'manifoldlaw29.MessageSorts': WHATEVER THE INPUT: true; the input reads as it did. -/
def messageSortsSpec : ChangeSpec := { name := "messageSorts", fn := fun _ => fun
  | [d] => { results := [.lit (.bool true)], args := [d] }
  | _ => none }
def messageSortsRow : OpenClaim := { program := "ythjlgpmajeafpaagreatdoor", sum := "7985f0eea34df63554ff63ad146b31be9e4020d4935054941322176ba242eab4", func := "manifold/manifoldlaw29.MessageSorts", spec := "messageSorts", inPlace := ["internal/abi.NoEscape", "internal/bytealg.MakeNoZero", "internal/bytealg.abigen_runtime_cmpstring"], unfollowed := true, recurses := true, named := ["unicode/utf8.first", "unicode/utf8.acceptRanges", "internal/strconv.uint64pow10", "math/bits.deBruijn32tab", "math/bits.deBruijn64tab"], loops := true, apart := false, laid := [("math/bits.deBruijn32tab", laid_math_bits_deBruijn32tab), ("math/bits.deBruijn64tab", laid_math_bits_deBruijn64tab), ("internal/strconv.uint64pow10", laid_internal_strconv_uint64pow10), ("unicode/utf8.acceptRanges", laid_unicode_utf8_acceptRanges), ("unicode/utf8.first", laid_unicode_utf8_first)] }
def MessageSortsSaid : Prop := messageSortsRow.holds Tryz.pinned (OpenSpec.ofChange messageSortsSpec)

/-- ITS FALSE NEIGHBOUR: 'it returns false'. Refute it at one input. -/
def messageSortsWrong : ChangeSpec := { name := "messageSorts", fn := fun _ => fun
  | [d] => { results := [.lit (.bool false)], args := [d] }
  | _ => none }
def MessageSortsWrongFalsely : Prop := messageSortsRow.holds Tryz.pinned (OpenSpec.ofChange messageSortsWrong)

/-- 'manifoldlaw30.SlotsPuts': WHATEVER THE INPUT: true; the input reads as it did. -/
def slotsPutsSpec : ChangeSpec := { name := "slotsPuts", fn := fun _ => fun
  | [d1, d2] => { results := [.lit (.bool true)], args := [d1, d2] }
  | _ => none }
def slotsPutsRow : OpenClaim := { program := "ythjlgpmajeafpaagreatdoor", sum := "7985f0eea34df63554ff63ad146b31be9e4020d4935054941322176ba242eab4", func := "manifold/manifoldlaw30.SlotsPuts", spec := "slotsPuts", inPlace := ["internal/bytealg.abigen_runtime_cmpstring", "internal/abi.NoEscape", "internal/bytealg.MakeNoZero", "slices.overlaps[manifold/api.Slot]"], unfollowed := true, recurses := true, named := ["unicode/utf8.first", "unicode/utf8.acceptRanges", "internal/strconv.uint64pow10", "math/bits.deBruijn32tab", "math/bits.deBruijn64tab"], loops := true, apart := false, laid := [("math/bits.deBruijn32tab", laid_math_bits_deBruijn32tab), ("math/bits.deBruijn64tab", laid_math_bits_deBruijn64tab), ("internal/strconv.uint64pow10", laid_internal_strconv_uint64pow10), ("unicode/utf8.acceptRanges", laid_unicode_utf8_acceptRanges), ("unicode/utf8.first", laid_unicode_utf8_first)] }
def SlotsPutsSaid : Prop := slotsPutsRow.holds Tryz.pinned (OpenSpec.ofChange slotsPutsSpec)

/-- ITS FALSE NEIGHBOUR: 'it returns false'. Refute it at one input. -/
def slotsPutsWrong : ChangeSpec := { name := "slotsPuts", fn := fun _ => fun
  | [d1, d2] => { results := [.lit (.bool false)], args := [d1, d2] }
  | _ => none }
def SlotsPutsWrongFalsely : Prop := slotsPutsRow.holds Tryz.pinned (OpenSpec.ofChange slotsPutsWrong)

/-- 'manifoldlaw30.SlotsOrders': WHATEVER THE INPUT: true; the input reads as it did. -/
def slotsOrdersSpec : ChangeSpec := { name := "slotsOrders", fn := fun _ => fun
  | [d] => { results := [.lit (.bool true)], args := [d] }
  | _ => none }
def slotsOrdersRow : OpenClaim := { program := "ythjlgpmajeafpaagreatdoor", sum := "7985f0eea34df63554ff63ad146b31be9e4020d4935054941322176ba242eab4", func := "manifold/manifoldlaw30.SlotsOrders", spec := "slotsOrders", inPlace := ["internal/bytealg.abigen_runtime_cmpstring", "internal/abi.NoEscape", "internal/bytealg.MakeNoZero", "slices.overlaps[manifold/api.Slot]"], unfollowed := true, recurses := true, named := ["unicode/utf8.first", "unicode/utf8.acceptRanges", "internal/strconv.uint64pow10", "math/bits.deBruijn32tab", "math/bits.deBruijn64tab"], loops := true, apart := false, laid := [("math/bits.deBruijn32tab", laid_math_bits_deBruijn32tab), ("math/bits.deBruijn64tab", laid_math_bits_deBruijn64tab), ("internal/strconv.uint64pow10", laid_internal_strconv_uint64pow10), ("unicode/utf8.acceptRanges", laid_unicode_utf8_acceptRanges), ("unicode/utf8.first", laid_unicode_utf8_first)] }
def SlotsOrdersSaid : Prop := slotsOrdersRow.holds Tryz.pinned (OpenSpec.ofChange slotsOrdersSpec)

/-- ITS FALSE NEIGHBOUR: 'it returns false'. Refute it at one input. -/
def slotsOrdersWrong : ChangeSpec := { name := "slotsOrders", fn := fun _ => fun
  | [d] => { results := [.lit (.bool false)], args := [d] }
  | _ => none }
def SlotsOrdersWrongFalsely : Prop := slotsOrdersRow.holds Tryz.pinned (OpenSpec.ofChange slotsOrdersWrong)

/-- 'manifoldlaw30.SlotsLimits': WHATEVER THE INPUT: true; the input reads as it did. -/
def slotsLimitsSpec : ChangeSpec := { name := "slotsLimits", fn := fun _ => fun
  | [d1, d2] => { results := [.lit (.bool true)], args := [d1, d2] }
  | _ => none }
def slotsLimitsRow : OpenClaim := { program := "ythjlgpmajeafpaagreatdoor", sum := "7985f0eea34df63554ff63ad146b31be9e4020d4935054941322176ba242eab4", func := "manifold/manifoldlaw30.SlotsLimits", spec := "slotsLimits", inPlace := ["internal/bytealg.abigen_runtime_cmpstring", "internal/abi.NoEscape", "internal/bytealg.MakeNoZero", "slices.overlaps[manifold/api.Slot]"], unfollowed := true, recurses := true, named := ["unicode/utf8.first", "unicode/utf8.acceptRanges", "internal/strconv.uint64pow10", "math/bits.deBruijn32tab", "math/bits.deBruijn64tab"], apart := false, laid := [("math/bits.deBruijn32tab", laid_math_bits_deBruijn32tab), ("math/bits.deBruijn64tab", laid_math_bits_deBruijn64tab), ("internal/strconv.uint64pow10", laid_internal_strconv_uint64pow10), ("unicode/utf8.acceptRanges", laid_unicode_utf8_acceptRanges), ("unicode/utf8.first", laid_unicode_utf8_first)] }
def SlotsLimitsSaid : Prop := slotsLimitsRow.holds Tryz.pinned (OpenSpec.ofChange slotsLimitsSpec)

/-- ITS FALSE NEIGHBOUR: 'it returns false'. Refute it at one input. -/
def slotsLimitsWrong : ChangeSpec := { name := "slotsLimits", fn := fun _ => fun
  | [d1, d2] => { results := [.lit (.bool false)], args := [d1, d2] }
  | _ => none }
def SlotsLimitsWrongFalsely : Prop := slotsLimitsRow.holds Tryz.pinned (OpenSpec.ofChange slotsLimitsWrong)

/-- 'manifoldlaw30.SlotsRemoves': WHATEVER THE INPUT: true; the input reads as it did. -/
def slotsRemovesSpec : ChangeSpec := { name := "slotsRemoves", fn := fun _ => fun
  | [d1, d2, d3] => { results := [.lit (.bool true)], args := [d1, d2, d3] }
  | _ => none }
def slotsRemovesRow : OpenClaim := { program := "ythjlgpmajeafpaagreatdoor", sum := "7985f0eea34df63554ff63ad146b31be9e4020d4935054941322176ba242eab4", func := "manifold/manifoldlaw30.SlotsRemoves", spec := "slotsRemoves", inPlace := ["internal/bytealg.abigen_runtime_cmpstring", "internal/abi.NoEscape", "internal/bytealg.MakeNoZero", "slices.overlaps[manifold/api.Slot]"], unfollowed := true, recurses := true, named := ["unicode/utf8.first", "unicode/utf8.acceptRanges", "internal/strconv.uint64pow10", "math/bits.deBruijn32tab", "math/bits.deBruijn64tab"], loops := true, apart := false, laid := [("math/bits.deBruijn32tab", laid_math_bits_deBruijn32tab), ("math/bits.deBruijn64tab", laid_math_bits_deBruijn64tab), ("internal/strconv.uint64pow10", laid_internal_strconv_uint64pow10), ("unicode/utf8.acceptRanges", laid_unicode_utf8_acceptRanges), ("unicode/utf8.first", laid_unicode_utf8_first)] }
def SlotsRemovesSaid : Prop := slotsRemovesRow.holds Tryz.pinned (OpenSpec.ofChange slotsRemovesSpec)

/-- ITS FALSE NEIGHBOUR: 'it returns false'. Refute it at one input. -/
def slotsRemovesWrong : ChangeSpec := { name := "slotsRemoves", fn := fun _ => fun
  | [d1, d2, d3] => { results := [.lit (.bool false)], args := [d1, d2, d3] }
  | _ => none }
def SlotsRemovesWrongFalsely : Prop := slotsRemovesRow.holds Tryz.pinned (OpenSpec.ofChange slotsRemovesWrong)

/-- 'manifoldlaw30.SlotsTimes': WHATEVER THE INPUT: true; the input reads as it did. -/
def slotsTimesSpec : ChangeSpec := { name := "slotsTimes", fn := fun _ => fun
  | [d1, d2] => { results := [.lit (.bool true)], args := [d1, d2] }
  | _ => none }
def slotsTimesRow : OpenClaim := { program := "ythjlgpmajeafpaagreatdoor", sum := "7985f0eea34df63554ff63ad146b31be9e4020d4935054941322176ba242eab4", func := "manifold/manifoldlaw30.SlotsTimes", spec := "slotsTimes", inPlace := ["internal/bytealg.abigen_runtime_cmpstring", "internal/abi.NoEscape", "internal/bytealg.MakeNoZero"], unfollowed := true, recurses := true, named := ["unicode/utf8.first", "unicode/utf8.acceptRanges", "internal/strconv.uint64pow10", "math/bits.deBruijn32tab", "math/bits.deBruijn64tab"], loops := true, apart := false, laid := [("math/bits.deBruijn32tab", laid_math_bits_deBruijn32tab), ("math/bits.deBruijn64tab", laid_math_bits_deBruijn64tab), ("internal/strconv.uint64pow10", laid_internal_strconv_uint64pow10), ("unicode/utf8.acceptRanges", laid_unicode_utf8_acceptRanges), ("unicode/utf8.first", laid_unicode_utf8_first)] }
def SlotsTimesSaid : Prop := slotsTimesRow.holds Tryz.pinned (OpenSpec.ofChange slotsTimesSpec)

/-- ITS FALSE NEIGHBOUR: 'it returns false'. Refute it at one input. -/
def slotsTimesWrong : ChangeSpec := { name := "slotsTimes", fn := fun _ => fun
  | [d1, d2] => { results := [.lit (.bool false)], args := [d1, d2] }
  | _ => none }
def SlotsTimesWrongFalsely : Prop := slotsTimesRow.holds Tryz.pinned (OpenSpec.ofChange slotsTimesWrong)

/- THE SECOND FORM. 'bulk': how many values and letters a reading holds, each counted each time it is reached (what is shared counts as often as it is met; a slice's spare places count too). A statement '..UptoSaid' is the law's where the arguments, and the package variables that the reading takes, are together of bulk at most 1048576: NARROWER than '..Said'. Prove '..Said' where nothing that the law and all that it calls make is longer than what came in: it says more and counts as full. Else prove '..UptoSaid'. A law counts once. -/
mutual
def uptoBulk {H : Type} : DataW H → Nat
  | .lit (.string bytes) => bytes.length + 1
  | .lit _ => 1
  | .nil => 1
  | .ptr d => uptoBulk d + 1
  | .slice elems spare => uptoBulkAll elems + uptoBulkAll spare + 1
  | .agg parts => uptoBulkAll parts + 1
  | .iface _ d => uptoBulk d + 1
  | .map entries => uptoBulkEntries entries + 1
  | .held _ => 1
def uptoBulkAll {H : Type} : List (DataW H) → Nat
  | [] => 0
  | d :: r => uptoBulk d + uptoBulkAll r
def uptoBulkEntries {H : Type} : List (Lit × DataW H) → Nat
  | [] => 0
  | x :: r => uptoBulkEntry x + uptoBulkEntries r
def uptoBulkEntry {H : Type} : Lit × DataW H → Nat
  | (.string bytes, d) => bytes.length + uptoBulk d + 1
  | (_, d) => uptoBulk d + 1
 end
def uptoSmall : (H : Type) → List (DataW H) → Bool := fun _ ds => decide (uptoBulkAll ds ≤ 1048576)
def OpenSpec.upto (s : _root_.Go.ChangeSpec) : _root_.Go.OpenSpec := { _root_.Go.OpenSpec.ofChange s with cond := some uptoSmall }

/-- 'manifoldlaw29.MessageParts', WHERE WHAT IT READS IS OF BULK AT MOST 1048576: true; the input reads as it did. -/
def messagePartsUptoRow : OpenClaim := { program := "ythjlgpmajeafpaagreatdoor", sum := "7985f0eea34df63554ff63ad146b31be9e4020d4935054941322176ba242eab4", func := "manifold/manifoldlaw29.MessageParts", spec := "messageParts", inPlace := ["internal/abi.NoEscape", "internal/bytealg.MakeNoZero", "internal/bytealg.abigen_runtime_cmpstring"], unfollowed := true, recurses := true, named := ["unicode/utf8.first", "unicode/utf8.acceptRanges", "internal/strconv.uint64pow10", "math/bits.deBruijn32tab", "math/bits.deBruijn64tab"], loops := true, apart := false, laid := [("math/bits.deBruijn32tab", laid_math_bits_deBruijn32tab), ("math/bits.deBruijn64tab", laid_math_bits_deBruijn64tab), ("internal/strconv.uint64pow10", laid_internal_strconv_uint64pow10), ("unicode/utf8.acceptRanges", laid_unicode_utf8_acceptRanges), ("unicode/utf8.first", laid_unicode_utf8_first)], narrowed := true }
def MessagePartsUptoSaid : Prop := messagePartsUptoRow.holds Tryz.pinned (OpenSpec.upto messagePartsSpec)

/-- 'manifoldlaw29.MessageFates', WHERE WHAT IT READS IS OF BULK AT MOST 1048576: true; the input reads as it did. -/
def messageFatesUptoRow : OpenClaim := { program := "ythjlgpmajeafpaagreatdoor", sum := "7985f0eea34df63554ff63ad146b31be9e4020d4935054941322176ba242eab4", func := "manifold/manifoldlaw29.MessageFates", spec := "messageFates", inPlace := ["internal/abi.NoEscape", "internal/bytealg.MakeNoZero"], unfollowed := true, recurses := true, named := ["unicode/utf8.first", "unicode/utf8.acceptRanges", "internal/strconv.uint64pow10", "math/bits.deBruijn32tab", "math/bits.deBruijn64tab"], loops := true, apart := false, laid := [("math/bits.deBruijn32tab", laid_math_bits_deBruijn32tab), ("math/bits.deBruijn64tab", laid_math_bits_deBruijn64tab), ("internal/strconv.uint64pow10", laid_internal_strconv_uint64pow10), ("unicode/utf8.acceptRanges", laid_unicode_utf8_acceptRanges), ("unicode/utf8.first", laid_unicode_utf8_first)], narrowed := true }
def MessageFatesUptoSaid : Prop := messageFatesUptoRow.holds Tryz.pinned (OpenSpec.upto messageFatesSpec)

/-- 'manifoldlaw30.SlotsChecks', WHERE WHAT IT READS IS OF BULK AT MOST 1048576: true; the input reads as it did. -/
def slotsChecksUptoRow : OpenClaim := { program := "ythjlgpmajeafpaagreatdoor", sum := "7985f0eea34df63554ff63ad146b31be9e4020d4935054941322176ba242eab4", func := "manifold/manifoldlaw30.SlotsChecks", spec := "slotsChecks", inPlace := ["internal/bytealg.abigen_runtime_cmpstring", "internal/abi.NoEscape", "internal/bytealg.MakeNoZero"], unfollowed := true, recurses := true, named := ["unicode/utf8.first", "unicode/utf8.acceptRanges", "internal/strconv.uint64pow10", "math/bits.deBruijn32tab", "math/bits.deBruijn64tab"], loops := true, apart := false, laid := [("math/bits.deBruijn32tab", laid_math_bits_deBruijn32tab), ("math/bits.deBruijn64tab", laid_math_bits_deBruijn64tab), ("internal/strconv.uint64pow10", laid_internal_strconv_uint64pow10), ("unicode/utf8.acceptRanges", laid_unicode_utf8_acceptRanges), ("unicode/utf8.first", laid_unicode_utf8_first)], narrowed := true }
def SlotsChecksUptoSaid : Prop := slotsChecksUptoRow.holds Tryz.pinned (OpenSpec.upto slotsChecksSpec)

/-- 'manifoldlaw30.SlotsFinds', WHERE WHAT IT READS IS OF BULK AT MOST 1048576: true; the input reads as it did. -/
def slotsFindsUptoRow : OpenClaim := { program := "ythjlgpmajeafpaagreatdoor", sum := "7985f0eea34df63554ff63ad146b31be9e4020d4935054941322176ba242eab4", func := "manifold/manifoldlaw30.SlotsFinds", spec := "slotsFinds", inPlace := ["internal/bytealg.abigen_runtime_cmpstring", "internal/abi.NoEscape", "internal/bytealg.MakeNoZero"], unfollowed := true, recurses := true, named := ["unicode/utf8.first", "unicode/utf8.acceptRanges", "internal/strconv.uint64pow10", "math/bits.deBruijn32tab", "math/bits.deBruijn64tab"], loops := true, apart := false, laid := [("math/bits.deBruijn32tab", laid_math_bits_deBruijn32tab), ("math/bits.deBruijn64tab", laid_math_bits_deBruijn64tab), ("internal/strconv.uint64pow10", laid_internal_strconv_uint64pow10), ("unicode/utf8.acceptRanges", laid_unicode_utf8_acceptRanges), ("unicode/utf8.first", laid_unicode_utf8_first)], narrowed := true }
def SlotsFindsUptoSaid : Prop := slotsFindsUptoRow.holds Tryz.pinned (OpenSpec.upto slotsFindsSpec)

/-- 'manifoldlaw30.SlotsEquals', WHERE WHAT IT READS IS OF BULK AT MOST 1048576: true; the input reads as it did. -/
def slotsEqualsUptoRow : OpenClaim := { program := "ythjlgpmajeafpaagreatdoor", sum := "7985f0eea34df63554ff63ad146b31be9e4020d4935054941322176ba242eab4", func := "manifold/manifoldlaw30.SlotsEquals", spec := "slotsEquals", inPlace := ["internal/bytealg.abigen_runtime_cmpstring", "internal/abi.NoEscape", "internal/bytealg.MakeNoZero"], unfollowed := true, recurses := true, named := ["unicode/utf8.first", "unicode/utf8.acceptRanges", "internal/strconv.uint64pow10", "math/bits.deBruijn32tab", "math/bits.deBruijn64tab"], loops := true, apart := false, laid := [("math/bits.deBruijn32tab", laid_math_bits_deBruijn32tab), ("math/bits.deBruijn64tab", laid_math_bits_deBruijn64tab), ("internal/strconv.uint64pow10", laid_internal_strconv_uint64pow10), ("unicode/utf8.acceptRanges", laid_unicode_utf8_acceptRanges), ("unicode/utf8.first", laid_unicode_utf8_first)], narrowed := true }
def SlotsEqualsUptoSaid : Prop := slotsEqualsUptoRow.holds Tryz.pinned (OpenSpec.upto slotsEqualsSpec)

/-- 'manifoldlaw30.SlotsWaiting', WHERE WHAT IT READS IS OF BULK AT MOST 1048576: true; the input reads as it did. -/
def slotsWaitingUptoRow : OpenClaim := { program := "ythjlgpmajeafpaagreatdoor", sum := "7985f0eea34df63554ff63ad146b31be9e4020d4935054941322176ba242eab4", func := "manifold/manifoldlaw30.SlotsWaiting", spec := "slotsWaiting", inPlace := ["internal/bytealg.abigen_runtime_cmpstring", "internal/abi.NoEscape", "internal/bytealg.MakeNoZero"], unfollowed := true, recurses := true, named := ["unicode/utf8.first", "unicode/utf8.acceptRanges", "internal/strconv.uint64pow10", "math/bits.deBruijn32tab", "math/bits.deBruijn64tab"], loops := true, apart := false, laid := [("math/bits.deBruijn32tab", laid_math_bits_deBruijn32tab), ("math/bits.deBruijn64tab", laid_math_bits_deBruijn64tab), ("internal/strconv.uint64pow10", laid_internal_strconv_uint64pow10), ("unicode/utf8.acceptRanges", laid_unicode_utf8_acceptRanges), ("unicode/utf8.first", laid_unicode_utf8_first)], narrowed := true }
def SlotsWaitingUptoSaid : Prop := slotsWaitingUptoRow.holds Tryz.pinned (OpenSpec.upto slotsWaitingSpec)

/-- 'manifoldlaw29.MessageSorts', WHERE WHAT IT READS IS OF BULK AT MOST 1048576: true; the input reads as it did. -/
def messageSortsUptoRow : OpenClaim := { program := "ythjlgpmajeafpaagreatdoor", sum := "7985f0eea34df63554ff63ad146b31be9e4020d4935054941322176ba242eab4", func := "manifold/manifoldlaw29.MessageSorts", spec := "messageSorts", inPlace := ["internal/abi.NoEscape", "internal/bytealg.MakeNoZero", "internal/bytealg.abigen_runtime_cmpstring"], unfollowed := true, recurses := true, named := ["unicode/utf8.first", "unicode/utf8.acceptRanges", "internal/strconv.uint64pow10", "math/bits.deBruijn32tab", "math/bits.deBruijn64tab"], loops := true, apart := false, laid := [("math/bits.deBruijn32tab", laid_math_bits_deBruijn32tab), ("math/bits.deBruijn64tab", laid_math_bits_deBruijn64tab), ("internal/strconv.uint64pow10", laid_internal_strconv_uint64pow10), ("unicode/utf8.acceptRanges", laid_unicode_utf8_acceptRanges), ("unicode/utf8.first", laid_unicode_utf8_first)], narrowed := true }
def MessageSortsUptoSaid : Prop := messageSortsUptoRow.holds Tryz.pinned (OpenSpec.upto messageSortsSpec)

/-- 'manifoldlaw30.SlotsPuts', WHERE WHAT IT READS IS OF BULK AT MOST 1048576: true; the input reads as it did. -/
def slotsPutsUptoRow : OpenClaim := { program := "ythjlgpmajeafpaagreatdoor", sum := "7985f0eea34df63554ff63ad146b31be9e4020d4935054941322176ba242eab4", func := "manifold/manifoldlaw30.SlotsPuts", spec := "slotsPuts", inPlace := ["internal/bytealg.abigen_runtime_cmpstring", "internal/abi.NoEscape", "internal/bytealg.MakeNoZero", "slices.overlaps[manifold/api.Slot]"], unfollowed := true, recurses := true, named := ["unicode/utf8.first", "unicode/utf8.acceptRanges", "internal/strconv.uint64pow10", "math/bits.deBruijn32tab", "math/bits.deBruijn64tab"], loops := true, apart := false, laid := [("math/bits.deBruijn32tab", laid_math_bits_deBruijn32tab), ("math/bits.deBruijn64tab", laid_math_bits_deBruijn64tab), ("internal/strconv.uint64pow10", laid_internal_strconv_uint64pow10), ("unicode/utf8.acceptRanges", laid_unicode_utf8_acceptRanges), ("unicode/utf8.first", laid_unicode_utf8_first)], narrowed := true }
def SlotsPutsUptoSaid : Prop := slotsPutsUptoRow.holds Tryz.pinned (OpenSpec.upto slotsPutsSpec)

/-- 'manifoldlaw30.SlotsOrders', WHERE WHAT IT READS IS OF BULK AT MOST 1048576: true; the input reads as it did. -/
def slotsOrdersUptoRow : OpenClaim := { program := "ythjlgpmajeafpaagreatdoor", sum := "7985f0eea34df63554ff63ad146b31be9e4020d4935054941322176ba242eab4", func := "manifold/manifoldlaw30.SlotsOrders", spec := "slotsOrders", inPlace := ["internal/bytealg.abigen_runtime_cmpstring", "internal/abi.NoEscape", "internal/bytealg.MakeNoZero", "slices.overlaps[manifold/api.Slot]"], unfollowed := true, recurses := true, named := ["unicode/utf8.first", "unicode/utf8.acceptRanges", "internal/strconv.uint64pow10", "math/bits.deBruijn32tab", "math/bits.deBruijn64tab"], loops := true, apart := false, laid := [("math/bits.deBruijn32tab", laid_math_bits_deBruijn32tab), ("math/bits.deBruijn64tab", laid_math_bits_deBruijn64tab), ("internal/strconv.uint64pow10", laid_internal_strconv_uint64pow10), ("unicode/utf8.acceptRanges", laid_unicode_utf8_acceptRanges), ("unicode/utf8.first", laid_unicode_utf8_first)], narrowed := true }
def SlotsOrdersUptoSaid : Prop := slotsOrdersUptoRow.holds Tryz.pinned (OpenSpec.upto slotsOrdersSpec)

/-- 'manifoldlaw30.SlotsLimits', WHERE WHAT IT READS IS OF BULK AT MOST 1048576: true; the input reads as it did. -/
def slotsLimitsUptoRow : OpenClaim := { program := "ythjlgpmajeafpaagreatdoor", sum := "7985f0eea34df63554ff63ad146b31be9e4020d4935054941322176ba242eab4", func := "manifold/manifoldlaw30.SlotsLimits", spec := "slotsLimits", inPlace := ["internal/bytealg.abigen_runtime_cmpstring", "internal/abi.NoEscape", "internal/bytealg.MakeNoZero", "slices.overlaps[manifold/api.Slot]"], unfollowed := true, recurses := true, named := ["unicode/utf8.first", "unicode/utf8.acceptRanges", "internal/strconv.uint64pow10", "math/bits.deBruijn32tab", "math/bits.deBruijn64tab"], apart := false, laid := [("math/bits.deBruijn32tab", laid_math_bits_deBruijn32tab), ("math/bits.deBruijn64tab", laid_math_bits_deBruijn64tab), ("internal/strconv.uint64pow10", laid_internal_strconv_uint64pow10), ("unicode/utf8.acceptRanges", laid_unicode_utf8_acceptRanges), ("unicode/utf8.first", laid_unicode_utf8_first)], narrowed := true }
def SlotsLimitsUptoSaid : Prop := slotsLimitsUptoRow.holds Tryz.pinned (OpenSpec.upto slotsLimitsSpec)

/-- 'manifoldlaw30.SlotsRemoves', WHERE WHAT IT READS IS OF BULK AT MOST 1048576: true; the input reads as it did. -/
def slotsRemovesUptoRow : OpenClaim := { program := "ythjlgpmajeafpaagreatdoor", sum := "7985f0eea34df63554ff63ad146b31be9e4020d4935054941322176ba242eab4", func := "manifold/manifoldlaw30.SlotsRemoves", spec := "slotsRemoves", inPlace := ["internal/bytealg.abigen_runtime_cmpstring", "internal/abi.NoEscape", "internal/bytealg.MakeNoZero", "slices.overlaps[manifold/api.Slot]"], unfollowed := true, recurses := true, named := ["unicode/utf8.first", "unicode/utf8.acceptRanges", "internal/strconv.uint64pow10", "math/bits.deBruijn32tab", "math/bits.deBruijn64tab"], loops := true, apart := false, laid := [("math/bits.deBruijn32tab", laid_math_bits_deBruijn32tab), ("math/bits.deBruijn64tab", laid_math_bits_deBruijn64tab), ("internal/strconv.uint64pow10", laid_internal_strconv_uint64pow10), ("unicode/utf8.acceptRanges", laid_unicode_utf8_acceptRanges), ("unicode/utf8.first", laid_unicode_utf8_first)], narrowed := true }
def SlotsRemovesUptoSaid : Prop := slotsRemovesUptoRow.holds Tryz.pinned (OpenSpec.upto slotsRemovesSpec)

/-- 'manifoldlaw30.SlotsTimes', WHERE WHAT IT READS IS OF BULK AT MOST 1048576: true; the input reads as it did. -/
def slotsTimesUptoRow : OpenClaim := { program := "ythjlgpmajeafpaagreatdoor", sum := "7985f0eea34df63554ff63ad146b31be9e4020d4935054941322176ba242eab4", func := "manifold/manifoldlaw30.SlotsTimes", spec := "slotsTimes", inPlace := ["internal/bytealg.abigen_runtime_cmpstring", "internal/abi.NoEscape", "internal/bytealg.MakeNoZero"], unfollowed := true, recurses := true, named := ["unicode/utf8.first", "unicode/utf8.acceptRanges", "internal/strconv.uint64pow10", "math/bits.deBruijn32tab", "math/bits.deBruijn64tab"], loops := true, apart := false, laid := [("math/bits.deBruijn32tab", laid_math_bits_deBruijn32tab), ("math/bits.deBruijn64tab", laid_math_bits_deBruijn64tab), ("internal/strconv.uint64pow10", laid_internal_strconv_uint64pow10), ("unicode/utf8.acceptRanges", laid_unicode_utf8_acceptRanges), ("unicode/utf8.first", laid_unicode_utf8_first)], narrowed := true }
def SlotsTimesUptoSaid : Prop := slotsTimesUptoRow.holds Tryz.pinned (OpenSpec.upto slotsTimesSpec)

end Rows
end Go.Proofs.YthjlgpmajeafpaaGreatDoor
