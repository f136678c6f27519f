/-
  NARROWER THAN 'FOR EVERY INPUT', by the rows' own cells (each row's printed sentence says how): FloSays: laid · ObsFloats: laid.
  DERIVED. THE GIVEN ROWS OF THIS SEAT. 2 by the template 'for every input the law returns true; each argument reads behind the call as it read before'; 0 by the template 'total and deterministic' (their statements: YtnggflfjmgbncaaDoorTotals.lean).
  GIVEN WITH THE SEED: the statements are not yours to turn. If you find one false, say at which input.
  Laid BY PROGRAM, IN A SANDBOX (cutbox-rows.mjs): the forced cells as the released guide's own fill.sh prints them over the translation 82206fa0fba5ee9f… (all of the seat's roots in one cut). By AI agents, Wed Nov 11 2026. No macro, syntax, notation, axiom, sorry.
-/
import Derived.Test.YtnggflfjmgbncaaDoorChecked
import GoSem.Claim
import GoSem.ClaimJoined
import GoSem.ClaimMapViews
import Derived.JoinedTies
import Derived.KernelRfl
namespace Go.Proofs.YtnggflfjmgbncaaDoor
/- THE CELL 'sum', in the pinned program and in every row, IS THE sha256 OF THE DUMP (.gsa) THAT YtnggflfjmgbncaaDoorProg.lean LOADS. Nothing in Lean hashes anything: it is a label: what it is worth is what the hold of that sum in a sandbox is worth. -/
noncomputable def Tryd.pinned : Pinned := { name := "ytnggflfjmgbncaadoor", sum := "82206fa0fba5ee9f5ac943752aadeeca3fec3d43dab3a78159c6fdb9b1e260fc", checked := Tryd.checked }
namespace Rows
def none {H : Type} : Left H := { results := [], args := [] }

/- WHAT THE LISTED PACKAGE-LEVEL VARIABLES READ AS WHEN THE CALL BEGINS. Each datum BY PROGRAM (the guide's laid-datum.mjs) off the statement by which the dump's own 'gosem.cut.vars' lays the variable. In a bare row this is a premise. The card (YtnggflfjmgbncaaDoorCards.lean) ties it to the program's text. -/
def laid_math_bits_deBruijn32tab {H : Type} : DataW H := .agg [.lit (.int .u8 0), .lit (.int .u8 1), .lit (.int .u8 28), .lit (.int .u8 2), .lit (.int .u8 29), .lit (.int .u8 14), .lit (.int .u8 24), .lit (.int .u8 3), .lit (.int .u8 30), .lit (.int .u8 22), .lit (.int .u8 20), .lit (.int .u8 15), .lit (.int .u8 25), .lit (.int .u8 17), .lit (.int .u8 4), .lit (.int .u8 8), .lit (.int .u8 31), .lit (.int .u8 27), .lit (.int .u8 13), .lit (.int .u8 23), .lit (.int .u8 21), .lit (.int .u8 19), .lit (.int .u8 16), .lit (.int .u8 7), .lit (.int .u8 26), .lit (.int .u8 12), .lit (.int .u8 18), .lit (.int .u8 6), .lit (.int .u8 11), .lit (.int .u8 5), .lit (.int .u8 10), .lit (.int .u8 9)]
def laid_math_bits_deBruijn64tab {H : Type} : DataW H := .agg [.lit (.int .u8 0), .lit (.int .u8 1), .lit (.int .u8 56), .lit (.int .u8 2), .lit (.int .u8 57), .lit (.int .u8 49), .lit (.int .u8 28), .lit (.int .u8 3), .lit (.int .u8 61), .lit (.int .u8 58), .lit (.int .u8 42), .lit (.int .u8 50), .lit (.int .u8 38), .lit (.int .u8 29), .lit (.int .u8 17), .lit (.int .u8 4), .lit (.int .u8 62), .lit (.int .u8 47), .lit (.int .u8 59), .lit (.int .u8 36), .lit (.int .u8 45), .lit (.int .u8 43), .lit (.int .u8 51), .lit (.int .u8 22), .lit (.int .u8 53), .lit (.int .u8 39), .lit (.int .u8 33), .lit (.int .u8 30), .lit (.int .u8 24), .lit (.int .u8 18), .lit (.int .u8 12), .lit (.int .u8 5), .lit (.int .u8 63), .lit (.int .u8 55), .lit (.int .u8 48), .lit (.int .u8 27), .lit (.int .u8 60), .lit (.int .u8 41), .lit (.int .u8 37), .lit (.int .u8 16), .lit (.int .u8 46), .lit (.int .u8 35), .lit (.int .u8 44), .lit (.int .u8 21), .lit (.int .u8 52), .lit (.int .u8 32), .lit (.int .u8 23), .lit (.int .u8 11), .lit (.int .u8 54), .lit (.int .u8 26), .lit (.int .u8 40), .lit (.int .u8 15), .lit (.int .u8 34), .lit (.int .u8 20), .lit (.int .u8 31), .lit (.int .u8 10), .lit (.int .u8 25), .lit (.int .u8 14), .lit (.int .u8 19), .lit (.int .u8 9), .lit (.int .u8 13), .lit (.int .u8 8), .lit (.int .u8 7), .lit (.int .u8 6)]
def laid_internal_strconv_uint64pow10 {H : Type} : DataW H := .agg [.lit (.int .u64 1), .lit (.int .u64 10), .lit (.int .u64 100), .lit (.int .u64 1000), .lit (.int .u64 10000), .lit (.int .u64 100000), .lit (.int .u64 1000000), .lit (.int .u64 10000000), .lit (.int .u64 100000000), .lit (.int .u64 1000000000), .lit (.int .u64 10000000000), .lit (.int .u64 100000000000), .lit (.int .u64 1000000000000), .lit (.int .u64 10000000000000), .lit (.int .u64 100000000000000), .lit (.int .u64 1000000000000000), .lit (.int .u64 10000000000000000), .lit (.int .u64 100000000000000000), .lit (.int .u64 1000000000000000000), .lit (.int .u64 10000000000000000000)]
def laid_strconv_ErrRange {H : Type} : DataW H := .iface "*errors.errorString" (.ptr (.agg [.lit (.string [118, 97, 108, 117, 101, 32, 111, 117, 116, 32, 111, 102, 32, 114, 97, 110, 103, 101])]))
def laid_strconv_ErrSyntax {H : Type} : DataW H := .iface "*errors.errorString" (.ptr (.agg [.lit (.string [105, 110, 118, 97, 108, 105, 100, 32, 115, 121, 110, 116, 97, 120])]))
def laid_gristmill_api_ErrEnd {H : Type} : DataW H := .iface "*errors.errorString" (.ptr (.agg [.lit (.string [105, 116, 32, 101, 110, 100, 115, 32, 116, 111, 111, 32, 101, 97, 114, 108, 121])]))
def laid_gristmill_api_ErrShape {H : Type} : DataW H := .iface "*errors.errorString" (.ptr (.agg [.lit (.string [110, 111, 116, 32, 97, 115, 32, 105, 116, 32, 104, 97, 115, 32, 116, 111, 32, 98, 101])]))
def laid_gristmill_api_ErrRange {H : Type} : DataW H := .iface "*errors.errorString" (.ptr (.agg [.lit (.string [97, 32, 110, 117, 109, 98, 101, 114, 32, 111, 117, 116, 32, 111, 102, 32, 105, 116, 115, 32, 114, 97, 110, 103, 101])]))
def laid_gristmill_api_ErrMany {H : Type} : DataW H := .iface "*errors.errorString" (.ptr (.agg [.lit (.string [116, 111, 111, 32, 109, 97, 110, 121])]))
def laid_gristmill_api_ErrDeep {H : Type} : DataW H := .iface "*errors.errorString" (.ptr (.agg [.lit (.string [116, 111, 111, 32, 100, 101, 101, 112])]))
def laid_gristmill_api_ErrOpen {H : Type} : DataW H := .iface "*errors.errorString" (.ptr (.agg [.lit (.string [97, 32, 98, 114, 97, 99, 107, 101, 116, 32, 116, 104, 97, 116, 32, 105, 115, 32, 110, 111, 116, 32, 99, 108, 111, 115, 101, 100])]))
def laid_gristmill_api_ErrClose {H : Type} : DataW H := .iface "*errors.errorString" (.ptr (.agg [.lit (.string [97, 32, 98, 114, 97, 99, 107, 101, 116, 32, 116, 104, 97, 116, 32, 119, 97, 115, 32, 110, 111, 116, 32, 111, 112, 101, 110, 101, 100])]))
def laid_gristmill_api_ErrForm {H : Type} : DataW H := .iface "*errors.errorString" (.ptr (.agg [.lit (.string [110, 111, 32, 115, 117, 99, 104, 32, 102, 111, 114, 109])]))
def laid_gristmill_api_ErrName {H : Type} : DataW H := .iface "*errors.errorString" (.ptr (.agg [.lit (.string [110, 111, 116, 32, 97, 32, 110, 97, 109, 101])]))
def laid_gristmill_api_ErrTwice {H : Type} : DataW H := .iface "*errors.errorString" (.ptr (.agg [.lit (.string [116, 104, 101, 114, 101, 32, 105, 115, 32, 111, 110, 101])]))
def laid_gristmill_api_ErrNone {H : Type} : DataW H := .iface "*errors.errorString" (.ptr (.agg [.lit (.string [116, 104, 101, 114, 101, 32, 105, 115, 32, 110, 111, 110, 101])]))
def laid_gristmill_api_ErrArity {H : Type} : DataW H := .iface "*errors.errorString" (.ptr (.agg [.lit (.string [110, 111, 116, 32, 97, 115, 32, 109, 97, 110, 121, 32, 97, 115, 32, 105, 116, 32, 116, 97, 107, 101, 115])]))
def laid_gristmill_api_ErrMain {H : Type} : DataW H := .iface "*errors.errorString" (.ptr (.agg [.lit (.string [110, 111, 32, 109, 97, 105, 110, 32, 119, 105, 116, 104, 111, 117, 116, 32, 112, 97, 114, 97, 109, 101, 116, 101, 114, 115])]))
def laid_gristmill_api_ErrType {H : Type} : DataW H := .iface "*errors.errorString" (.ptr (.agg [.lit (.string [105, 116, 32, 104, 97, 115, 32, 110, 111, 32, 116, 121, 112, 101])]))
def laid_gristmill_api_ErrBound {H : Type} : DataW H := .iface "*errors.errorString" (.ptr (.agg [.lit (.string [110, 111, 116, 32, 98, 111, 117, 110, 100, 44, 32, 111, 114, 32, 98, 111, 117, 110, 100, 32, 116, 119, 105, 99, 101])]))
def laid_gristmill_api_ErrTag {H : Type} : DataW H := .iface "*errors.errorString" (.ptr (.agg [.lit (.string [110, 111, 116, 32, 111, 102, 32, 116, 104, 97, 116, 32, 116, 97, 103])]))
def laid_gristmill_api_ErrWord {H : Type} : DataW H := .iface "*errors.errorString" (.ptr (.agg [.lit (.string [110, 111, 32, 115, 117, 99, 104, 32, 119, 111, 114, 100])]))
def laid_gristmill_api_ErrNumber {H : Type} : DataW H := .iface "*errors.errorString" (.ptr (.agg [.lit (.string [110, 111, 116, 32, 97, 32, 110, 117, 109, 98, 101, 114])]))

/-- 'gristmilllaw1.FloSays': WHATEVER THE INPUT: true; the input reads as it did. -/
def floSaysSpec : ChangeSpec := { name := "floSays", fn := fun _ => fun
  | [d1, d2, d3, d4, d5] => { results := [.lit (.bool true)], args := [d1, d2, d3, d4, d5] }
  | _ => none }
def floSaysRow : OpenClaim := { program := "ytnggflfjmgbncaadoor", sum := "82206fa0fba5ee9f5ac943752aadeeca3fec3d43dab3a78159c6fdb9b1e260fc", func := "gristmill/gristmilllaw1.FloSays", spec := "floSays", inPlace := ["math.Float64bits", "math.Float64frombits", "math.archTrunc", "internal/bytealg.IndexByteString", "internal/bytealg.IndexString"], named := ["math/bits.deBruijn64tab", "internal/strconv.uint64pow10", "math/bits.deBruijn32tab", "gristmill/api.ErrNumber", "internal/bytealg.MaxLen", "strconv.ErrSyntax", "strconv.ErrRange", "gristmill/api.ErrEnd", "gristmill/api.ErrShape", "gristmill/api.ErrRange", "gristmill/api.ErrMany", "gristmill/api.ErrDeep", "gristmill/api.ErrOpen", "gristmill/api.ErrClose", "gristmill/api.ErrForm", "gristmill/api.ErrName", "gristmill/api.ErrTwice", "gristmill/api.ErrNone", "gristmill/api.ErrArity", "gristmill/api.ErrMain", "gristmill/api.ErrType", "gristmill/api.ErrBound", "gristmill/api.ErrTag", "gristmill/api.ErrWord"], apart := false, laid := [("math/bits.deBruijn32tab", laid_math_bits_deBruijn32tab), ("math/bits.deBruijn64tab", laid_math_bits_deBruijn64tab), ("internal/strconv.uint64pow10", laid_internal_strconv_uint64pow10), ("strconv.ErrRange", laid_strconv_ErrRange), ("strconv.ErrSyntax", laid_strconv_ErrSyntax), ("gristmill/api.ErrEnd", laid_gristmill_api_ErrEnd), ("gristmill/api.ErrShape", laid_gristmill_api_ErrShape), ("gristmill/api.ErrRange", laid_gristmill_api_ErrRange), ("gristmill/api.ErrMany", laid_gristmill_api_ErrMany), ("gristmill/api.ErrDeep", laid_gristmill_api_ErrDeep), ("gristmill/api.ErrOpen", laid_gristmill_api_ErrOpen), ("gristmill/api.ErrClose", laid_gristmill_api_ErrClose), ("gristmill/api.ErrForm", laid_gristmill_api_ErrForm), ("gristmill/api.ErrName", laid_gristmill_api_ErrName), ("gristmill/api.ErrTwice", laid_gristmill_api_ErrTwice), ("gristmill/api.ErrNone", laid_gristmill_api_ErrNone), ("gristmill/api.ErrArity", laid_gristmill_api_ErrArity), ("gristmill/api.ErrMain", laid_gristmill_api_ErrMain), ("gristmill/api.ErrType", laid_gristmill_api_ErrType), ("gristmill/api.ErrBound", laid_gristmill_api_ErrBound), ("gristmill/api.ErrTag", laid_gristmill_api_ErrTag), ("gristmill/api.ErrWord", laid_gristmill_api_ErrWord), ("gristmill/api.ErrNumber", laid_gristmill_api_ErrNumber)] }
def FloSaysSaid : Prop := floSaysRow.holds Tryd.pinned (OpenSpec.ofChange floSaysSpec)

/-- ITS FALSE NEIGHBOUR: 'it returns false'. Refute it at one input. -/
def floSaysWrong : ChangeSpec := { name := "floSays", fn := fun _ => fun
  | [d1, d2, d3, d4, d5] => { results := [.lit (.bool false)], args := [d1, d2, d3, d4, d5] }
  | _ => none }
def FloSaysWrongFalsely : Prop := floSaysRow.holds Tryd.pinned (OpenSpec.ofChange floSaysWrong)

/-- 'gristmilllaw11.ObsFloats': WHATEVER THE INPUT: true; the input reads as it did. -/
def obsFloatsSpec : ChangeSpec := { name := "obsFloats", fn := fun _ => fun
  | [d1, d2] => { results := [.lit (.bool true)], args := [d1, d2] }
  | _ => none }
def obsFloatsRow : OpenClaim := { program := "ytnggflfjmgbncaadoor", sum := "82206fa0fba5ee9f5ac943752aadeeca3fec3d43dab3a78159c6fdb9b1e260fc", func := "gristmill/gristmilllaw11.ObsFloats", spec := "obsFloats", inPlace := ["internal/abi.NoEscape", "math.Float64frombits", "math.Float64bits", "internal/bytealg.IndexByteString", "internal/bytealg.IndexString"], unfollowed := true, recurses := true, named := ["internal/strconv.uint64pow10", "math/bits.deBruijn32tab", "math/bits.deBruijn64tab", "gristmill/api.ErrForm", "gristmill/api.ErrNumber", "strconv.ErrSyntax", "strconv.ErrRange", "internal/bytealg.MaxLen"], apart := false, laid := [("math/bits.deBruijn32tab", laid_math_bits_deBruijn32tab), ("math/bits.deBruijn64tab", laid_math_bits_deBruijn64tab), ("internal/strconv.uint64pow10", laid_internal_strconv_uint64pow10), ("strconv.ErrRange", laid_strconv_ErrRange), ("strconv.ErrSyntax", laid_strconv_ErrSyntax), ("gristmill/api.ErrForm", laid_gristmill_api_ErrForm), ("gristmill/api.ErrNumber", laid_gristmill_api_ErrNumber)] }
def ObsFloatsSaid : Prop := obsFloatsRow.holds Tryd.pinned (OpenSpec.ofChange obsFloatsSpec)

/-- ITS FALSE NEIGHBOUR: 'it returns false'. Refute it at one input. -/
def obsFloatsWrong : ChangeSpec := { name := "obsFloats", fn := fun _ => fun
  | [d1, d2] => { results := [.lit (.bool false)], args := [d1, d2] }
  | _ => none }
def ObsFloatsWrongFalsely : Prop := obsFloatsRow.holds Tryd.pinned (OpenSpec.ofChange obsFloatsWrong)

/- THE SECOND FORM. 'bulk': how many values and letters a reading holds, each counted each time it is reached (what is shared counts as often as it is met; a slice's spare places count too). A statement '..UptoSaid' is the law's where the arguments, and the package variables that the reading takes, are together of bulk at most 1048576: NARROWER than '..Said'. Prove '..Said' where nothing that the law and all that it calls make is longer than what came in: it says more and counts as full. Else prove '..UptoSaid'. A law counts once. -/
mutual
def uptoBulk {H : Type} : DataW H → Nat
  | .lit (.string bytes) => bytes.length + 1
  | .lit _ => 1
  | .nil => 1
  | .ptr d => uptoBulk d + 1
  | .slice elems spare => uptoBulkAll elems + uptoBulkAll spare + 1
  | .agg parts => uptoBulkAll parts + 1
  | .iface _ d => uptoBulk d + 1
  | .map entries => uptoBulkEntries entries + 1
  | .held _ => 1
def uptoBulkAll {H : Type} : List (DataW H) → Nat
  | [] => 0
  | d :: r => uptoBulk d + uptoBulkAll r
def uptoBulkEntries {H : Type} : List (Lit × DataW H) → Nat
  | [] => 0
  | x :: r => uptoBulkEntry x + uptoBulkEntries r
def uptoBulkEntry {H : Type} : Lit × DataW H → Nat
  | (.string bytes, d) => bytes.length + uptoBulk d + 1
  | (_, d) => uptoBulk d + 1
 end
def uptoSmall : (H : Type) → List (DataW H) → Bool := fun _ ds => decide (uptoBulkAll ds ≤ 1048576)
def OpenSpec.upto (s : _root_.Go.ChangeSpec) : _root_.Go.OpenSpec := { _root_.Go.OpenSpec.ofChange s with cond := some uptoSmall }

/-- 'gristmilllaw1.FloSays', WHERE WHAT IT READS IS OF BULK AT MOST 1048576: true; the input reads as it did. -/
def floSaysUptoRow : OpenClaim := { program := "ytnggflfjmgbncaadoor", sum := "82206fa0fba5ee9f5ac943752aadeeca3fec3d43dab3a78159c6fdb9b1e260fc", func := "gristmill/gristmilllaw1.FloSays", spec := "floSays", inPlace := ["math.Float64bits", "math.Float64frombits", "math.archTrunc", "internal/bytealg.IndexByteString", "internal/bytealg.IndexString"], named := ["math/bits.deBruijn64tab", "internal/strconv.uint64pow10", "math/bits.deBruijn32tab", "gristmill/api.ErrNumber", "internal/bytealg.MaxLen", "strconv.ErrSyntax", "strconv.ErrRange", "gristmill/api.ErrEnd", "gristmill/api.ErrShape", "gristmill/api.ErrRange", "gristmill/api.ErrMany", "gristmill/api.ErrDeep", "gristmill/api.ErrOpen", "gristmill/api.ErrClose", "gristmill/api.ErrForm", "gristmill/api.ErrName", "gristmill/api.ErrTwice", "gristmill/api.ErrNone", "gristmill/api.ErrArity", "gristmill/api.ErrMain", "gristmill/api.ErrType", "gristmill/api.ErrBound", "gristmill/api.ErrTag", "gristmill/api.ErrWord"], apart := false, laid := [("math/bits.deBruijn32tab", laid_math_bits_deBruijn32tab), ("math/bits.deBruijn64tab", laid_math_bits_deBruijn64tab), ("internal/strconv.uint64pow10", laid_internal_strconv_uint64pow10), ("strconv.ErrRange", laid_strconv_ErrRange), ("strconv.ErrSyntax", laid_strconv_ErrSyntax), ("gristmill/api.ErrEnd", laid_gristmill_api_ErrEnd), ("gristmill/api.ErrShape", laid_gristmill_api_ErrShape), ("gristmill/api.ErrRange", laid_gristmill_api_ErrRange), ("gristmill/api.ErrMany", laid_gristmill_api_ErrMany), ("gristmill/api.ErrDeep", laid_gristmill_api_ErrDeep), ("gristmill/api.ErrOpen", laid_gristmill_api_ErrOpen), ("gristmill/api.ErrClose", laid_gristmill_api_ErrClose), ("gristmill/api.ErrForm", laid_gristmill_api_ErrForm), ("gristmill/api.ErrName", laid_gristmill_api_ErrName), ("gristmill/api.ErrTwice", laid_gristmill_api_ErrTwice), ("gristmill/api.ErrNone", laid_gristmill_api_ErrNone), ("gristmill/api.ErrArity", laid_gristmill_api_ErrArity), ("gristmill/api.ErrMain", laid_gristmill_api_ErrMain), ("gristmill/api.ErrType", laid_gristmill_api_ErrType), ("gristmill/api.ErrBound", laid_gristmill_api_ErrBound), ("gristmill/api.ErrTag", laid_gristmill_api_ErrTag), ("gristmill/api.ErrWord", laid_gristmill_api_ErrWord), ("gristmill/api.ErrNumber", laid_gristmill_api_ErrNumber)], narrowed := true }
def FloSaysUptoSaid : Prop := floSaysUptoRow.holds Tryd.pinned (OpenSpec.upto floSaysSpec)

/-- 'gristmilllaw11.ObsFloats', WHERE WHAT IT READS IS OF BULK AT MOST 1048576: true; the input reads as it did. -/
def obsFloatsUptoRow : OpenClaim := { program := "ytnggflfjmgbncaadoor", sum := "82206fa0fba5ee9f5ac943752aadeeca3fec3d43dab3a78159c6fdb9b1e260fc", func := "gristmill/gristmilllaw11.ObsFloats", spec := "obsFloats", inPlace := ["internal/abi.NoEscape", "math.Float64frombits", "math.Float64bits", "internal/bytealg.IndexByteString", "internal/bytealg.IndexString"], unfollowed := true, recurses := true, named := ["internal/strconv.uint64pow10", "math/bits.deBruijn32tab", "math/bits.deBruijn64tab", "gristmill/api.ErrForm", "gristmill/api.ErrNumber", "strconv.ErrSyntax", "strconv.ErrRange", "internal/bytealg.MaxLen"], apart := false, laid := [("math/bits.deBruijn32tab", laid_math_bits_deBruijn32tab), ("math/bits.deBruijn64tab", laid_math_bits_deBruijn64tab), ("internal/strconv.uint64pow10", laid_internal_strconv_uint64pow10), ("strconv.ErrRange", laid_strconv_ErrRange), ("strconv.ErrSyntax", laid_strconv_ErrSyntax), ("gristmill/api.ErrForm", laid_gristmill_api_ErrForm), ("gristmill/api.ErrNumber", laid_gristmill_api_ErrNumber)], narrowed := true }
def ObsFloatsUptoSaid : Prop := obsFloatsUptoRow.holds Tryd.pinned (OpenSpec.upto obsFloatsSpec)

end Rows
end Go.Proofs.YtnggflfjmgbncaaDoor
