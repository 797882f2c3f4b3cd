/-
  NARROWER THAN 'FOR EVERY INPUT', by the rows' own cells (each row's printed sentence says how): WholeMethods: laid · WholeOrthodox: laid · WholeEntries: laid · WholeCalendar: laid · WholeBuiltin: laid.
  DERIVED. THE GIVEN ROWS OF THIS SEAT. 5 by the template 'for every input the law returns true; each argument reads behind the call as it read before'; 0 by the template 'total and deterministic' (their statements: YtblaphkaklocfaaGreatDoorTotals.lean).
  GIVEN WITH THE SEED: the statements are not yours to turn. If you find one false, say at which input.
  Laid BY PROGRAM, IN A SANDBOX (cutbox-rows.mjs): the forced cells as the released guide's own fill.sh prints them over the translation fec32fc340be69f4… (all of the seat's roots in one cut). By AI agents, Wed Nov 11 2026. No macro, syntax, notation, axiom, sorry.
-/
import Derived.Test.YtblaphkaklocfaaGreatDoorChecked
import GoSem.Claim
import GoSem.ClaimJoined
import GoSem.ClaimMapViews
import Derived.JoinedTies
import Derived.KernelRfl
namespace Go.Proofs.YtblaphkaklocfaaGreatDoor
/- THE CELL 'sum', in the pinned program and in every row, IS THE sha256 OF THE DUMP (.gsa) THAT YtblaphkaklocfaaGreatDoorProg.lean LOADS. Nothing in Lean hashes anything: it is a label: what it is worth is what the hold of that sum in a sandbox is worth. -/
noncomputable def Tryz.pinned : Pinned := { name := "ytblaphkaklocfaagreatdoor", sum := "fec32fc340be69f439e231db7a986b563e37a3a045eeeefb92743decb20d7b9f", checked := Tryz.checked }
namespace Rows
def none {H : Type} : Left H := { results := [], args := [] }

/- WHAT THE LISTED PACKAGE-LEVEL VARIABLES READ AS WHEN THE CALL BEGINS. Each datum BY PROGRAM (the guide's laid-datum.mjs) off the statement by which the dump's own 'gosem.cut.vars' lays the variable. In a bare row this is a premise. The card (YtblaphkaklocfaaGreatDoorCards.lean) ties it to the program's text. -/
def laid_math_bits_deBruijn32tab {H : Type} : DataW H := .agg [.lit (.int .u8 0), .lit (.int .u8 1), .lit (.int .u8 28), .lit (.int .u8 2), .lit (.int .u8 29), .lit (.int .u8 14), .lit (.int .u8 24), .lit (.int .u8 3), .lit (.int .u8 30), .lit (.int .u8 22), .lit (.int .u8 20), .lit (.int .u8 15), .lit (.int .u8 25), .lit (.int .u8 17), .lit (.int .u8 4), .lit (.int .u8 8), .lit (.int .u8 31), .lit (.int .u8 27), .lit (.int .u8 13), .lit (.int .u8 23), .lit (.int .u8 21), .lit (.int .u8 19), .lit (.int .u8 16), .lit (.int .u8 7), .lit (.int .u8 26), .lit (.int .u8 12), .lit (.int .u8 18), .lit (.int .u8 6), .lit (.int .u8 11), .lit (.int .u8 5), .lit (.int .u8 10), .lit (.int .u8 9)]
def laid_math_bits_deBruijn64tab {H : Type} : DataW H := .agg [.lit (.int .u8 0), .lit (.int .u8 1), .lit (.int .u8 56), .lit (.int .u8 2), .lit (.int .u8 57), .lit (.int .u8 49), .lit (.int .u8 28), .lit (.int .u8 3), .lit (.int .u8 61), .lit (.int .u8 58), .lit (.int .u8 42), .lit (.int .u8 50), .lit (.int .u8 38), .lit (.int .u8 29), .lit (.int .u8 17), .lit (.int .u8 4), .lit (.int .u8 62), .lit (.int .u8 47), .lit (.int .u8 59), .lit (.int .u8 36), .lit (.int .u8 45), .lit (.int .u8 43), .lit (.int .u8 51), .lit (.int .u8 22), .lit (.int .u8 53), .lit (.int .u8 39), .lit (.int .u8 33), .lit (.int .u8 30), .lit (.int .u8 24), .lit (.int .u8 18), .lit (.int .u8 12), .lit (.int .u8 5), .lit (.int .u8 63), .lit (.int .u8 55), .lit (.int .u8 48), .lit (.int .u8 27), .lit (.int .u8 60), .lit (.int .u8 41), .lit (.int .u8 37), .lit (.int .u8 16), .lit (.int .u8 46), .lit (.int .u8 35), .lit (.int .u8 44), .lit (.int .u8 21), .lit (.int .u8 52), .lit (.int .u8 32), .lit (.int .u8 23), .lit (.int .u8 11), .lit (.int .u8 54), .lit (.int .u8 26), .lit (.int .u8 40), .lit (.int .u8 15), .lit (.int .u8 34), .lit (.int .u8 20), .lit (.int .u8 31), .lit (.int .u8 10), .lit (.int .u8 25), .lit (.int .u8 14), .lit (.int .u8 19), .lit (.int .u8 9), .lit (.int .u8 13), .lit (.int .u8 8), .lit (.int .u8 7), .lit (.int .u8 6)]
def laid_internal_strconv_uint64pow10 {H : Type} : DataW H := .agg [.lit (.int .u64 1), .lit (.int .u64 10), .lit (.int .u64 100), .lit (.int .u64 1000), .lit (.int .u64 10000), .lit (.int .u64 100000), .lit (.int .u64 1000000), .lit (.int .u64 10000000), .lit (.int .u64 100000000), .lit (.int .u64 1000000000), .lit (.int .u64 10000000000), .lit (.int .u64 100000000000), .lit (.int .u64 1000000000000), .lit (.int .u64 10000000000000), .lit (.int .u64 100000000000000), .lit (.int .u64 1000000000000000), .lit (.int .u64 10000000000000000), .lit (.int .u64 100000000000000000), .lit (.int .u64 1000000000000000000), .lit (.int .u64 10000000000000000000)]
def laid_computus_julian_lengths {H : Type} : DataW H := .agg [.lit (.int .i64 31), .lit (.int .i64 28), .lit (.int .i64 31), .lit (.int .i64 30), .lit (.int .i64 31), .lit (.int .i64 30), .lit (.int .i64 31), .lit (.int .i64 31), .lit (.int .i64 30), .lit (.int .i64 31), .lit (.int .i64 30), .lit (.int .i64 31)]
def laid_computus_weekday_names {H : Type} : DataW H := .agg [.lit (.string [115, 117, 110, 100, 97, 121]), .lit (.string [109, 111, 110, 100, 97, 121]), .lit (.string [116, 117, 101, 115, 100, 97, 121]), .lit (.string [119, 101, 100, 110, 101, 115, 100, 97, 121]), .lit (.string [116, 104, 117, 114, 115, 100, 97, 121]), .lit (.string [102, 114, 105, 100, 97, 121]), .lit (.string [115, 97, 116, 117, 114, 100, 97, 121])]
def laid_computus_label_lengths {H : Type} : DataW H := .agg [.lit (.int .i64 31), .lit (.int .i64 28), .lit (.int .i64 31), .lit (.int .i64 30), .lit (.int .i64 31), .lit (.int .i64 30), .lit (.int .i64 31), .lit (.int .i64 31), .lit (.int .i64 30), .lit (.int .i64 31), .lit (.int .i64 30), .lit (.int .i64 31)]
def laid_computus_label_spans {H : Type} : DataW H := .agg [.lit (.int .i64 30), .lit (.int .i64 29), .lit (.int .i64 30), .lit (.int .i64 29), .lit (.int .i64 30), .lit (.int .i64 29), .lit (.int .i64 30), .lit (.int .i64 29), .lit (.int .i64 30), .lit (.int .i64 29), .lit (.int .i64 30), .lit (.int .i64 29)]
def laid_computus_cattext_policies {H : Type} : DataW H := .agg [.lit (.string [116, 114, 97, 110, 115, 102, 101, 114]), .lit (.string [99, 111, 109, 109, 101, 109, 111, 114, 97, 116, 101]), .lit (.string [111, 109, 105, 116])]
def laid_computus_ordotext_kinds {H : Type} : DataW H := .agg [.lit (.string [116, 101, 109, 112, 111, 114, 97, 108]), .lit (.string [112, 114, 111, 112, 101, 114]), .lit (.string [109, 111, 118, 101, 100])]

/-- 'computustop.WholeMethods': WHATEVER THE INPUT: true; the input reads as it did. -/
def wholeMethodsSpec : ChangeSpec := { name := "wholeMethods", fn := fun _ => fun
  | [d1, d2] => { results := [.lit (.bool true)], args := [d1, d2] }
  | _ => none }
def wholeMethodsRow : OpenClaim := { program := "ytblaphkaklocfaagreatdoor", sum := "fec32fc340be69f439e231db7a986b563e37a3a045eeeefb92743decb20d7b9f", func := "computus/computustop.WholeMethods", spec := "wholeMethods", inPlace := ["slices.overlaps[int]", "internal/abi.NoEscape", "internal/bytealg.MakeNoZero"], unfollowed := true, recurses := true, named := ["computus/julian.lengths", "computus/label.lengths", "computus/label.spans", "internal/strconv.uint64pow10", "math/bits.deBruijn32tab", "math/bits.deBruijn64tab", "computus/cattext.policies", "computus/weekday.names", "computus/ordotext.kinds"], apart := false, laid := [("math/bits.deBruijn32tab", laid_math_bits_deBruijn32tab), ("math/bits.deBruijn64tab", laid_math_bits_deBruijn64tab), ("internal/strconv.uint64pow10", laid_internal_strconv_uint64pow10), ("computus/julian.lengths", laid_computus_julian_lengths), ("computus/weekday.names", laid_computus_weekday_names), ("computus/label.lengths", laid_computus_label_lengths), ("computus/label.spans", laid_computus_label_spans), ("computus/cattext.policies", laid_computus_cattext_policies), ("computus/ordotext.kinds", laid_computus_ordotext_kinds)] }
def WholeMethodsSaid : Prop := wholeMethodsRow.holds Tryz.pinned (OpenSpec.ofChange wholeMethodsSpec)

/-- ITS FALSE NEIGHBOUR: 'it returns false'. Refute it at one input. -/
def wholeMethodsWrong : ChangeSpec := { name := "wholeMethods", fn := fun _ => fun
  | [d1, d2] => { results := [.lit (.bool false)], args := [d1, d2] }
  | _ => none }
def WholeMethodsWrongFalsely : Prop := wholeMethodsRow.holds Tryz.pinned (OpenSpec.ofChange wholeMethodsWrong)

/-- 'computustop.WholeOrthodox': WHATEVER THE INPUT: true; the input reads as it did. -/
def wholeOrthodoxSpec : ChangeSpec := { name := "wholeOrthodox", fn := fun _ => fun
  | [d] => { results := [.lit (.bool true)], args := [d] }
  | _ => none }
def wholeOrthodoxRow : OpenClaim := { program := "ytblaphkaklocfaagreatdoor", sum := "fec32fc340be69f439e231db7a986b563e37a3a045eeeefb92743decb20d7b9f", func := "computus/computustop.WholeOrthodox", spec := "wholeOrthodox", inPlace := ["slices.overlaps[int]", "internal/abi.NoEscape", "internal/bytealg.MakeNoZero"], unfollowed := true, recurses := true, named := ["computus/julian.lengths", "computus/label.lengths", "computus/label.spans", "internal/strconv.uint64pow10", "math/bits.deBruijn32tab", "math/bits.deBruijn64tab", "computus/cattext.policies", "computus/weekday.names", "computus/ordotext.kinds"], apart := false, laid := [("math/bits.deBruijn32tab", laid_math_bits_deBruijn32tab), ("math/bits.deBruijn64tab", laid_math_bits_deBruijn64tab), ("internal/strconv.uint64pow10", laid_internal_strconv_uint64pow10), ("computus/julian.lengths", laid_computus_julian_lengths), ("computus/weekday.names", laid_computus_weekday_names), ("computus/label.lengths", laid_computus_label_lengths), ("computus/label.spans", laid_computus_label_spans), ("computus/cattext.policies", laid_computus_cattext_policies), ("computus/ordotext.kinds", laid_computus_ordotext_kinds)] }
def WholeOrthodoxSaid : Prop := wholeOrthodoxRow.holds Tryz.pinned (OpenSpec.ofChange wholeOrthodoxSpec)

/-- ITS FALSE NEIGHBOUR: 'it returns false'. Refute it at one input. -/
def wholeOrthodoxWrong : ChangeSpec := { name := "wholeOrthodox", fn := fun _ => fun
  | [d] => { results := [.lit (.bool false)], args := [d] }
  | _ => none }
def WholeOrthodoxWrongFalsely : Prop := wholeOrthodoxRow.holds Tryz.pinned (OpenSpec.ofChange wholeOrthodoxWrong)

/-- 'computustop.WholeEntries': WHATEVER THE INPUT: true; the input reads as it did. -/
def wholeEntriesSpec : ChangeSpec := { name := "wholeEntries", fn := fun _ => fun
  | [d1, d2, d3] => { results := [.lit (.bool true)], args := [d1, d2, d3] }
  | _ => none }
def wholeEntriesRow : OpenClaim := { program := "ytblaphkaklocfaagreatdoor", sum := "fec32fc340be69f439e231db7a986b563e37a3a045eeeefb92743decb20d7b9f", func := "computus/computustop.WholeEntries", spec := "wholeEntries", inPlace := ["slices.overlaps[int]", "internal/abi.NoEscape", "internal/bytealg.MakeNoZero"], unfollowed := true, recurses := true, named := ["computus/julian.lengths", "computus/label.lengths", "computus/label.spans", "internal/strconv.uint64pow10", "math/bits.deBruijn32tab", "math/bits.deBruijn64tab", "computus/cattext.policies", "computus/weekday.names", "computus/ordotext.kinds"], apart := false, laid := [("math/bits.deBruijn32tab", laid_math_bits_deBruijn32tab), ("math/bits.deBruijn64tab", laid_math_bits_deBruijn64tab), ("internal/strconv.uint64pow10", laid_internal_strconv_uint64pow10), ("computus/julian.lengths", laid_computus_julian_lengths), ("computus/weekday.names", laid_computus_weekday_names), ("computus/label.lengths", laid_computus_label_lengths), ("computus/label.spans", laid_computus_label_spans), ("computus/cattext.policies", laid_computus_cattext_policies), ("computus/ordotext.kinds", laid_computus_ordotext_kinds)] }
def WholeEntriesSaid : Prop := wholeEntriesRow.holds Tryz.pinned (OpenSpec.ofChange wholeEntriesSpec)

/-- ITS FALSE NEIGHBOUR: 'it returns false'. Refute it at one input. -/
def wholeEntriesWrong : ChangeSpec := { name := "wholeEntries", fn := fun _ => fun
  | [d1, d2, d3] => { results := [.lit (.bool false)], args := [d1, d2, d3] }
  | _ => none }
def WholeEntriesWrongFalsely : Prop := wholeEntriesRow.holds Tryz.pinned (OpenSpec.ofChange wholeEntriesWrong)

/-- 'computustop.WholeCalendar': WHATEVER THE INPUT: true; the input reads as it did. -/
def wholeCalendarSpec : ChangeSpec := { name := "wholeCalendar", fn := fun _ => fun
  | [d1, d2] => { results := [.lit (.bool true)], args := [d1, d2] }
  | _ => none }
def wholeCalendarRow : OpenClaim := { program := "ytblaphkaklocfaagreatdoor", sum := "fec32fc340be69f439e231db7a986b563e37a3a045eeeefb92743decb20d7b9f", func := "computus/computustop.WholeCalendar", spec := "wholeCalendar", inPlace := ["slices.overlaps[int]", "internal/abi.NoEscape", "internal/bytealg.MakeNoZero"], unfollowed := true, recurses := true, named := ["computus/julian.lengths", "computus/label.lengths", "computus/label.spans", "internal/strconv.uint64pow10", "math/bits.deBruijn32tab", "math/bits.deBruijn64tab", "computus/cattext.policies", "computus/weekday.names", "computus/ordotext.kinds"], apart := false, laid := [("math/bits.deBruijn32tab", laid_math_bits_deBruijn32tab), ("math/bits.deBruijn64tab", laid_math_bits_deBruijn64tab), ("internal/strconv.uint64pow10", laid_internal_strconv_uint64pow10), ("computus/julian.lengths", laid_computus_julian_lengths), ("computus/weekday.names", laid_computus_weekday_names), ("computus/label.lengths", laid_computus_label_lengths), ("computus/label.spans", laid_computus_label_spans), ("computus/cattext.policies", laid_computus_cattext_policies), ("computus/ordotext.kinds", laid_computus_ordotext_kinds)] }
def WholeCalendarSaid : Prop := wholeCalendarRow.holds Tryz.pinned (OpenSpec.ofChange wholeCalendarSpec)

/-- ITS FALSE NEIGHBOUR: 'it returns false'. Refute it at one input. -/
def wholeCalendarWrong : ChangeSpec := { name := "wholeCalendar", fn := fun _ => fun
  | [d1, d2] => { results := [.lit (.bool false)], args := [d1, d2] }
  | _ => none }
def WholeCalendarWrongFalsely : Prop := wholeCalendarRow.holds Tryz.pinned (OpenSpec.ofChange wholeCalendarWrong)

/-- 'computustop.WholeBuiltin': WHATEVER THE INPUT: true; the input reads as it did. -/
def wholeBuiltinSpec : ChangeSpec := { name := "wholeBuiltin", fn := fun _ => fun
  | [d] => { results := [.lit (.bool true)], args := [d] }
  | _ => none }
def wholeBuiltinRow : OpenClaim := { program := "ytblaphkaklocfaagreatdoor", sum := "fec32fc340be69f439e231db7a986b563e37a3a045eeeefb92743decb20d7b9f", func := "computus/computustop.WholeBuiltin", spec := "wholeBuiltin", inPlace := ["slices.overlaps[int]", "internal/abi.NoEscape", "internal/bytealg.MakeNoZero"], unfollowed := true, recurses := true, named := ["computus/julian.lengths", "computus/label.lengths", "computus/label.spans", "internal/strconv.uint64pow10", "math/bits.deBruijn32tab", "math/bits.deBruijn64tab", "computus/cattext.policies", "computus/weekday.names", "computus/ordotext.kinds"], apart := false, laid := [("math/bits.deBruijn32tab", laid_math_bits_deBruijn32tab), ("math/bits.deBruijn64tab", laid_math_bits_deBruijn64tab), ("internal/strconv.uint64pow10", laid_internal_strconv_uint64pow10), ("computus/julian.lengths", laid_computus_julian_lengths), ("computus/weekday.names", laid_computus_weekday_names), ("computus/label.lengths", laid_computus_label_lengths), ("computus/label.spans", laid_computus_label_spans), ("computus/cattext.policies", laid_computus_cattext_policies), ("computus/ordotext.kinds", laid_computus_ordotext_kinds)] }
def WholeBuiltinSaid : Prop := wholeBuiltinRow.holds Tryz.pinned (OpenSpec.ofChange wholeBuiltinSpec)

/-- ITS FALSE NEIGHBOUR: 'it returns false'. Refute it at one input. -/
def wholeBuiltinWrong : ChangeSpec := { name := "wholeBuiltin", fn := fun _ => fun
  | [d] => { results := [.lit (.bool false)], args := [d] }
  | _ => none }
def WholeBuiltinWrongFalsely : Prop := wholeBuiltinRow.holds Tryz.pinned (OpenSpec.ofChange wholeBuiltinWrong)

/- THE SECOND FORM. 'bulk': how many values and letters a reading holds, each counted each time it is reached (what is shared counts as often as it is met; a slice's spare places count too). A statement '..UptoSaid' is the law's where the arguments, and the package variables that the reading takes, are together of bulk at most 1048576: NARROWER than '..Said'. Prove '..Said' where nothing that the law and all that it calls make is longer than what came in: it says more and counts as full. Else prove '..UptoSaid'. A law counts once. -/
mutual
def uptoBulk {H : Type} : DataW H → Nat
  | .lit (.string bytes) => bytes.length + 1
  | .lit _ => 1
  | .nil => 1
  | .ptr d => uptoBulk d + 1
  | .slice elems spare => uptoBulkAll elems + uptoBulkAll spare + 1
  | .agg parts => uptoBulkAll parts + 1
  | .iface _ d => uptoBulk d + 1
  | .map entries => uptoBulkEntries entries + 1
  | .held _ => 1
def uptoBulkAll {H : Type} : List (DataW H) → Nat
  | [] => 0
  | d :: r => uptoBulk d + uptoBulkAll r
def uptoBulkEntries {H : Type} : List (Lit × DataW H) → Nat
  | [] => 0
  | x :: r => uptoBulkEntry x + uptoBulkEntries r
def uptoBulkEntry {H : Type} : Lit × DataW H → Nat
  | (.string bytes, d) => bytes.length + uptoBulk d + 1
  | (_, d) => uptoBulk d + 1
 end
def uptoSmall : (H : Type) → List (DataW H) → Bool := fun _ ds => decide (uptoBulkAll ds ≤ 1048576)
def OpenSpec.upto (s : _root_.Go.ChangeSpec) : _root_.Go.OpenSpec := { _root_.Go.OpenSpec.ofChange s with cond := some uptoSmall }

/-- 'computustop.WholeMethods', WHERE WHAT IT READS IS OF BULK AT MOST 1048576: true; the input reads as it did. -/
def wholeMethodsUptoRow : OpenClaim := { program := "ytblaphkaklocfaagreatdoor", sum := "fec32fc340be69f439e231db7a986b563e37a3a045eeeefb92743decb20d7b9f", func := "computus/computustop.WholeMethods", spec := "wholeMethods", inPlace := ["slices.overlaps[int]", "internal/abi.NoEscape", "internal/bytealg.MakeNoZero"], unfollowed := true, recurses := true, named := ["computus/julian.lengths", "computus/label.lengths", "computus/label.spans", "internal/strconv.uint64pow10", "math/bits.deBruijn32tab", "math/bits.deBruijn64tab", "computus/cattext.policies", "computus/weekday.names", "computus/ordotext.kinds"], apart := false, laid := [("math/bits.deBruijn32tab", laid_math_bits_deBruijn32tab), ("math/bits.deBruijn64tab", laid_math_bits_deBruijn64tab), ("internal/strconv.uint64pow10", laid_internal_strconv_uint64pow10), ("computus/julian.lengths", laid_computus_julian_lengths), ("computus/weekday.names", laid_computus_weekday_names), ("computus/label.lengths", laid_computus_label_lengths), ("computus/label.spans", laid_computus_label_spans), ("computus/cattext.policies", laid_computus_cattext_policies), ("computus/ordotext.kinds", laid_computus_ordotext_kinds)], narrowed := true }
def WholeMethodsUptoSaid : Prop := wholeMethodsUptoRow.holds Tryz.pinned (OpenSpec.upto wholeMethodsSpec)

/-- 'computustop.WholeOrthodox', WHERE WHAT IT READS IS OF BULK AT MOST 1048576: true; the input reads as it did. -/
def wholeOrthodoxUptoRow : OpenClaim := { program := "ytblaphkaklocfaagreatdoor", sum := "fec32fc340be69f439e231db7a986b563e37a3a045eeeefb92743decb20d7b9f", func := "computus/computustop.WholeOrthodox", spec := "wholeOrthodox", inPlace := ["slices.overlaps[int]", "internal/abi.NoEscape", "internal/bytealg.MakeNoZero"], unfollowed := true, recurses := true, named := ["computus/julian.lengths", "computus/label.lengths", "computus/label.spans", "internal/strconv.uint64pow10", "math/bits.deBruijn32tab", "math/bits.deBruijn64tab", "computus/cattext.policies", "computus/weekday.names", "computus/ordotext.kinds"], apart := false, laid := [("math/bits.deBruijn32tab", laid_math_bits_deBruijn32tab), ("math/bits.deBruijn64tab", laid_math_bits_deBruijn64tab), ("internal/strconv.uint64pow10", laid_internal_strconv_uint64pow10), ("computus/julian.lengths", laid_computus_julian_lengths), ("computus/weekday.names", laid_computus_weekday_names), ("computus/label.lengths", laid_computus_label_lengths), ("computus/label.spans", laid_computus_label_spans), ("computus/cattext.policies", laid_computus_cattext_policies), ("computus/ordotext.kinds", laid_computus_ordotext_kinds)], narrowed := true }
def WholeOrthodoxUptoSaid : Prop := wholeOrthodoxUptoRow.holds Tryz.pinned (OpenSpec.upto wholeOrthodoxSpec)

/-- 'computustop.WholeEntries', WHERE WHAT IT READS IS OF BULK AT MOST 1048576: true; the input reads as it did. -/
def wholeEntriesUptoRow : OpenClaim := { program := "ytblaphkaklocfaagreatdoor", sum := "fec32fc340be69f439e231db7a986b563e37a3a045eeeefb92743decb20d7b9f", func := "computus/computustop.WholeEntries", spec := "wholeEntries", inPlace := ["slices.overlaps[int]", "internal/abi.NoEscape", "internal/bytealg.MakeNoZero"], unfollowed := true, recurses := true, named := ["computus/julian.lengths", "computus/label.lengths", "computus/label.spans", "internal/strconv.uint64pow10", "math/bits.deBruijn32tab", "math/bits.deBruijn64tab", "computus/cattext.policies", "computus/weekday.names", "computus/ordotext.kinds"], apart := false, laid := [("math/bits.deBruijn32tab", laid_math_bits_deBruijn32tab), ("math/bits.deBruijn64tab", laid_math_bits_deBruijn64tab), ("internal/strconv.uint64pow10", laid_internal_strconv_uint64pow10), ("computus/julian.lengths", laid_computus_julian_lengths), ("computus/weekday.names", laid_computus_weekday_names), ("computus/label.lengths", laid_computus_label_lengths), ("computus/label.spans", laid_computus_label_spans), ("computus/cattext.policies", laid_computus_cattext_policies), ("computus/ordotext.kinds", laid_computus_ordotext_kinds)], narrowed := true }
def WholeEntriesUptoSaid : Prop := wholeEntriesUptoRow.holds Tryz.pinned (OpenSpec.upto wholeEntriesSpec)

/-- 'computustop.WholeCalendar', WHERE WHAT IT READS IS OF BULK AT MOST 1048576: true; the input reads as it did. -/
def wholeCalendarUptoRow : OpenClaim := { program := "ytblaphkaklocfaagreatdoor", sum := "fec32fc340be69f439e231db7a986b563e37a3a045eeeefb92743decb20d7b9f", func := "computus/computustop.WholeCalendar", spec := "wholeCalendar", inPlace := ["slices.overlaps[int]", "internal/abi.NoEscape", "internal/bytealg.MakeNoZero"], unfollowed := true, recurses := true, named := ["computus/julian.lengths", "computus/label.lengths", "computus/label.spans", "internal/strconv.uint64pow10", "math/bits.deBruijn32tab", "math/bits.deBruijn64tab", "computus/cattext.policies", "computus/weekday.names", "computus/ordotext.kinds"], apart := false, laid := [("math/bits.deBruijn32tab", laid_math_bits_deBruijn32tab), ("math/bits.deBruijn64tab", laid_math_bits_deBruijn64tab), ("internal/strconv.uint64pow10", laid_internal_strconv_uint64pow10), ("computus/julian.lengths", laid_computus_julian_lengths), ("computus/weekday.names", laid_computus_weekday_names), ("computus/label.lengths", laid_computus_label_lengths), ("computus/label.spans", laid_computus_label_spans), ("computus/cattext.policies", laid_computus_cattext_policies), ("computus/ordotext.kinds", laid_computus_ordotext_kinds)], narrowed := true }
def WholeCalendarUptoSaid : Prop := wholeCalendarUptoRow.holds Tryz.pinned (OpenSpec.upto wholeCalendarSpec)

/-- 'computustop.WholeBuiltin', WHERE WHAT IT READS IS OF BULK AT MOST 1048576: true; the input reads as it did. -/
def wholeBuiltinUptoRow : OpenClaim := { program := "ytblaphkaklocfaagreatdoor", sum := "fec32fc340be69f439e231db7a986b563e37a3a045eeeefb92743decb20d7b9f", func := "computus/computustop.WholeBuiltin", spec := "wholeBuiltin", inPlace := ["slices.overlaps[int]", "internal/abi.NoEscape", "internal/bytealg.MakeNoZero"], unfollowed := true, recurses := true, named := ["computus/julian.lengths", "computus/label.lengths", "computus/label.spans", "internal/strconv.uint64pow10", "math/bits.deBruijn32tab", "math/bits.deBruijn64tab", "computus/cattext.policies", "computus/weekday.names", "computus/ordotext.kinds"], apart := false, laid := [("math/bits.deBruijn32tab", laid_math_bits_deBruijn32tab), ("math/bits.deBruijn64tab", laid_math_bits_deBruijn64tab), ("internal/strconv.uint64pow10", laid_internal_strconv_uint64pow10), ("computus/julian.lengths", laid_computus_julian_lengths), ("computus/weekday.names", laid_computus_weekday_names), ("computus/label.lengths", laid_computus_label_lengths), ("computus/label.spans", laid_computus_label_spans), ("computus/cattext.policies", laid_computus_cattext_policies), ("computus/ordotext.kinds", laid_computus_ordotext_kinds)], narrowed := true }
def WholeBuiltinUptoSaid : Prop := wholeBuiltinUptoRow.holds Tryz.pinned (OpenSpec.upto wholeBuiltinSpec)

end Rows
end Go.Proofs.YtblaphkaklocfaaGreatDoor
