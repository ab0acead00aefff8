/-
  NARROWER THAN 'FOR EVERY INPUT', by the rows' own cells (each row's printed sentence says how): LassoMatchesReference: loops, laid · LassoDecodeEncode: loops, laid · LassoEncodeDecode: loops, laid · LassoOrder: loops, laid · LassoConnectives: loops, laid · LassoStates: loops, laid · LassoProblem: loops, laid.
  DERIVED. THE GIVEN ROWS OF THIS SEAT. 7 by the template 'for every input the law returns true; each argument reads behind the call as it read before'; 0 by the template 'total and deterministic' (their statements: YtbjaehfboanglaaGreatDoorTotals.lean).
  GIVEN WITH THE SEED: the statements are not yours to turn. If you find one false, say at which input.
  Laid BY PROGRAM, IN A SANDBOX (cutbox-rows.mjs): the forced cells as the released guide's own fill.sh prints them over the translation 317400f595bae47c… (all of the seat's roots in one cut). By AI agents, Wed Nov 11 2026. No macro, syntax, notation, axiom, sorry.
-/
import Derived.Test.YtbjaehfboanglaaGreatDoorChecked
import GoSem.Claim
import GoSem.ClaimJoined
import GoSem.ClaimMapViews
import Derived.JoinedTies
import Derived.KernelRfl
namespace Go.Proofs.YtbjaehfboanglaaGreatDoor
/- THE CELL 'sum', in the pinned program and in every row, IS THE sha256 OF THE DUMP (.gsa) THAT YtbjaehfboanglaaGreatDoorProg.lean LOADS. Nothing in Lean hashes anything: it is a label: what it is worth is what the hold of that sum in a sandbox is worth. -/
noncomputable def Tryz.pinned : Pinned := { name := "ytbjaehfboanglaagreatdoor", sum := "317400f595bae47c6a247339a63598419c831f93ccdf83679aedc8dfd87381b2", checked := Tryz.checked }
namespace Rows
def none {H : Type} : Left H := { results := [], args := [] }

/- WHAT THE LISTED PACKAGE-LEVEL VARIABLES READ AS WHEN THE CALL BEGINS. Each datum BY PROGRAM (the guide's laid-datum.mjs) off the statement by which the dump's own 'gosem.cut.vars' lays the variable. In a bare row this is a premise. The card (YtbjaehfboanglaaGreatDoorCards.lean) ties it to the program's text. -/
def laid_math_bits_deBruijn32tab {H : Type} : DataW H := .agg [.lit (.int .u8 0), .lit (.int .u8 1), .lit (.int .u8 28), .lit (.int .u8 2), .lit (.int .u8 29), .lit (.int .u8 14), .lit (.int .u8 24), .lit (.int .u8 3), .lit (.int .u8 30), .lit (.int .u8 22), .lit (.int .u8 20), .lit (.int .u8 15), .lit (.int .u8 25), .lit (.int .u8 17), .lit (.int .u8 4), .lit (.int .u8 8), .lit (.int .u8 31), .lit (.int .u8 27), .lit (.int .u8 13), .lit (.int .u8 23), .lit (.int .u8 21), .lit (.int .u8 19), .lit (.int .u8 16), .lit (.int .u8 7), .lit (.int .u8 26), .lit (.int .u8 12), .lit (.int .u8 18), .lit (.int .u8 6), .lit (.int .u8 11), .lit (.int .u8 5), .lit (.int .u8 10), .lit (.int .u8 9)]
def laid_math_bits_deBruijn64tab {H : Type} : DataW H := .agg [.lit (.int .u8 0), .lit (.int .u8 1), .lit (.int .u8 56), .lit (.int .u8 2), .lit (.int .u8 57), .lit (.int .u8 49), .lit (.int .u8 28), .lit (.int .u8 3), .lit (.int .u8 61), .lit (.int .u8 58), .lit (.int .u8 42), .lit (.int .u8 50), .lit (.int .u8 38), .lit (.int .u8 29), .lit (.int .u8 17), .lit (.int .u8 4), .lit (.int .u8 62), .lit (.int .u8 47), .lit (.int .u8 59), .lit (.int .u8 36), .lit (.int .u8 45), .lit (.int .u8 43), .lit (.int .u8 51), .lit (.int .u8 22), .lit (.int .u8 53), .lit (.int .u8 39), .lit (.int .u8 33), .lit (.int .u8 30), .lit (.int .u8 24), .lit (.int .u8 18), .lit (.int .u8 12), .lit (.int .u8 5), .lit (.int .u8 63), .lit (.int .u8 55), .lit (.int .u8 48), .lit (.int .u8 27), .lit (.int .u8 60), .lit (.int .u8 41), .lit (.int .u8 37), .lit (.int .u8 16), .lit (.int .u8 46), .lit (.int .u8 35), .lit (.int .u8 44), .lit (.int .u8 21), .lit (.int .u8 52), .lit (.int .u8 32), .lit (.int .u8 23), .lit (.int .u8 11), .lit (.int .u8 54), .lit (.int .u8 26), .lit (.int .u8 40), .lit (.int .u8 15), .lit (.int .u8 34), .lit (.int .u8 20), .lit (.int .u8 31), .lit (.int .u8 10), .lit (.int .u8 25), .lit (.int .u8 14), .lit (.int .u8 19), .lit (.int .u8 9), .lit (.int .u8 13), .lit (.int .u8 8), .lit (.int .u8 7), .lit (.int .u8 6)]
def laid_internal_strconv_uint64pow10 {H : Type} : DataW H := .agg [.lit (.int .u64 1), .lit (.int .u64 10), .lit (.int .u64 100), .lit (.int .u64 1000), .lit (.int .u64 10000), .lit (.int .u64 100000), .lit (.int .u64 1000000), .lit (.int .u64 10000000), .lit (.int .u64 100000000), .lit (.int .u64 1000000000), .lit (.int .u64 10000000000), .lit (.int .u64 100000000000), .lit (.int .u64 1000000000000), .lit (.int .u64 10000000000000), .lit (.int .u64 100000000000000), .lit (.int .u64 1000000000000000), .lit (.int .u64 10000000000000000), .lit (.int .u64 100000000000000000), .lit (.int .u64 1000000000000000000), .lit (.int .u64 10000000000000000000)]

/-- 'armaturelaw18.LassoMatchesReference': WHATEVER THE INPUT: true; the input reads as it did. -/
def lassoMatchesReferenceSpec : ChangeSpec := { name := "lassoMatchesReference", fn := fun _ => fun
  | [d1, d2, d3, d4, d5, d6] => { results := [.lit (.bool true)], args := [d1, d2, d3, d4, d5, d6] }
  | _ => none }
def lassoMatchesReferenceRow : OpenClaim := { program := "ytbjaehfboanglaagreatdoor", sum := "317400f595bae47c6a247339a63598419c831f93ccdf83679aedc8dfd87381b2", func := "armature/armaturelaw18.LassoMatchesReference", spec := "lassoMatchesReference", inPlace := ["slices.overlaps[int]"], unfollowed := true, recurses := true, named := ["internal/strconv.uint64pow10", "math/bits.deBruijn32tab", "math/bits.deBruijn64tab"], loops := true, plainKeys := false, apart := false, laid := [("math/bits.deBruijn32tab", laid_math_bits_deBruijn32tab), ("math/bits.deBruijn64tab", laid_math_bits_deBruijn64tab), ("internal/strconv.uint64pow10", laid_internal_strconv_uint64pow10)] }
def LassoMatchesReferenceSaid : Prop := lassoMatchesReferenceRow.holds Tryz.pinned (OpenSpec.ofChange lassoMatchesReferenceSpec)

/-- ITS FALSE NEIGHBOUR: 'it returns false'. Refute it at one input. -/
def lassoMatchesReferenceWrong : ChangeSpec := { name := "lassoMatchesReference", fn := fun _ => fun
  | [d1, d2, d3, d4, d5, d6] => { results := [.lit (.bool false)], args := [d1, d2, d3, d4, d5, d6] }
  | _ => none }
def LassoMatchesReferenceWrongFalsely : Prop := lassoMatchesReferenceRow.holds Tryz.pinned (OpenSpec.ofChange lassoMatchesReferenceWrong)

/-- 'armaturelaw18.LassoDecodeEncode': WHATEVER THE INPUT: true; the input reads as it did. -/
def lassoDecodeEncodeSpec : ChangeSpec := { name := "lassoDecodeEncode", fn := fun _ => fun
  | [d1, d2, d3] => { results := [.lit (.bool true)], args := [d1, d2, d3] }
  | _ => none }
def lassoDecodeEncodeRow : OpenClaim := { program := "ytbjaehfboanglaagreatdoor", sum := "317400f595bae47c6a247339a63598419c831f93ccdf83679aedc8dfd87381b2", func := "armature/armaturelaw18.LassoDecodeEncode", spec := "lassoDecodeEncode", inPlace := ["slices.overlaps[int]"], unfollowed := true, recurses := true, named := ["internal/strconv.uint64pow10", "math/bits.deBruijn32tab", "math/bits.deBruijn64tab"], loops := true, plainKeys := false, apart := false, laid := [("math/bits.deBruijn32tab", laid_math_bits_deBruijn32tab), ("math/bits.deBruijn64tab", laid_math_bits_deBruijn64tab), ("internal/strconv.uint64pow10", laid_internal_strconv_uint64pow10)] }
def LassoDecodeEncodeSaid : Prop := lassoDecodeEncodeRow.holds Tryz.pinned (OpenSpec.ofChange lassoDecodeEncodeSpec)

/-- ITS FALSE NEIGHBOUR: 'it returns false'. Refute it at one input. -/
def lassoDecodeEncodeWrong : ChangeSpec := { name := "lassoDecodeEncode", fn := fun _ => fun
  | [d1, d2, d3] => { results := [.lit (.bool false)], args := [d1, d2, d3] }
  | _ => none }
def LassoDecodeEncodeWrongFalsely : Prop := lassoDecodeEncodeRow.holds Tryz.pinned (OpenSpec.ofChange lassoDecodeEncodeWrong)

/-- 'armaturelaw18.LassoEncodeDecode': WHATEVER THE INPUT: true; the input reads as it did. -/
def lassoEncodeDecodeSpec : ChangeSpec := { name := "lassoEncodeDecode", fn := fun _ => fun
  | [d1, d2, d3, d4] => { results := [.lit (.bool true)], args := [d1, d2, d3, d4] }
  | _ => none }
def lassoEncodeDecodeRow : OpenClaim := { program := "ytbjaehfboanglaagreatdoor", sum := "317400f595bae47c6a247339a63598419c831f93ccdf83679aedc8dfd87381b2", func := "armature/armaturelaw18.LassoEncodeDecode", spec := "lassoEncodeDecode", inPlace := ["slices.overlaps[int]"], unfollowed := true, recurses := true, named := ["internal/strconv.uint64pow10", "math/bits.deBruijn32tab", "math/bits.deBruijn64tab"], loops := true, plainKeys := false, apart := false, laid := [("math/bits.deBruijn32tab", laid_math_bits_deBruijn32tab), ("math/bits.deBruijn64tab", laid_math_bits_deBruijn64tab), ("internal/strconv.uint64pow10", laid_internal_strconv_uint64pow10)] }
def LassoEncodeDecodeSaid : Prop := lassoEncodeDecodeRow.holds Tryz.pinned (OpenSpec.ofChange lassoEncodeDecodeSpec)

/-- ITS FALSE NEIGHBOUR: 'it returns false'. Refute it at one input. -/
def lassoEncodeDecodeWrong : ChangeSpec := { name := "lassoEncodeDecode", fn := fun _ => fun
  | [d1, d2, d3, d4] => { results := [.lit (.bool false)], args := [d1, d2, d3, d4] }
  | _ => none }
def LassoEncodeDecodeWrongFalsely : Prop := lassoEncodeDecodeRow.holds Tryz.pinned (OpenSpec.ofChange lassoEncodeDecodeWrong)

/-- 'armaturelaw18.LassoOrder': WHATEVER THE INPUT: true; the input reads as it did. -/
def lassoOrderSpec : ChangeSpec := { name := "lassoOrder", fn := fun _ => fun
  | [d1, d2, d3, d4] => { results := [.lit (.bool true)], args := [d1, d2, d3, d4] }
  | _ => none }
def lassoOrderRow : OpenClaim := { program := "ytbjaehfboanglaagreatdoor", sum := "317400f595bae47c6a247339a63598419c831f93ccdf83679aedc8dfd87381b2", func := "armature/armaturelaw18.LassoOrder", spec := "lassoOrder", inPlace := ["slices.overlaps[int]"], unfollowed := true, recurses := true, named := ["internal/strconv.uint64pow10", "math/bits.deBruijn32tab", "math/bits.deBruijn64tab"], loops := true, plainKeys := false, apart := false, laid := [("math/bits.deBruijn32tab", laid_math_bits_deBruijn32tab), ("math/bits.deBruijn64tab", laid_math_bits_deBruijn64tab), ("internal/strconv.uint64pow10", laid_internal_strconv_uint64pow10)] }
def LassoOrderSaid : Prop := lassoOrderRow.holds Tryz.pinned (OpenSpec.ofChange lassoOrderSpec)

/-- ITS FALSE NEIGHBOUR: 'it returns false'. Refute it at one input. -/
def lassoOrderWrong : ChangeSpec := { name := "lassoOrder", fn := fun _ => fun
  | [d1, d2, d3, d4] => { results := [.lit (.bool false)], args := [d1, d2, d3, d4] }
  | _ => none }
def LassoOrderWrongFalsely : Prop := lassoOrderRow.holds Tryz.pinned (OpenSpec.ofChange lassoOrderWrong)

/-- 'armaturelaw18.LassoConnectives': WHATEVER THE INPUT: true; the input reads as it did. -/
def lassoConnectivesSpec : ChangeSpec := { name := "lassoConnectives", fn := fun _ => fun
  | [d1, d2, d3, d4, d5] => { results := [.lit (.bool true)], args := [d1, d2, d3, d4, d5] }
  | _ => none }
def lassoConnectivesRow : OpenClaim := { program := "ytbjaehfboanglaagreatdoor", sum := "317400f595bae47c6a247339a63598419c831f93ccdf83679aedc8dfd87381b2", func := "armature/armaturelaw18.LassoConnectives", spec := "lassoConnectives", inPlace := ["slices.overlaps[int]"], unfollowed := true, recurses := true, named := ["internal/strconv.uint64pow10", "math/bits.deBruijn32tab", "math/bits.deBruijn64tab"], loops := true, plainKeys := false, apart := false, laid := [("math/bits.deBruijn32tab", laid_math_bits_deBruijn32tab), ("math/bits.deBruijn64tab", laid_math_bits_deBruijn64tab), ("internal/strconv.uint64pow10", laid_internal_strconv_uint64pow10)] }
def LassoConnectivesSaid : Prop := lassoConnectivesRow.holds Tryz.pinned (OpenSpec.ofChange lassoConnectivesSpec)

/-- ITS FALSE NEIGHBOUR: 'it returns false'. Refute it at one input. -/
def lassoConnectivesWrong : ChangeSpec := { name := "lassoConnectives", fn := fun _ => fun
  | [d1, d2, d3, d4, d5] => { results := [.lit (.bool false)], args := [d1, d2, d3, d4, d5] }
  | _ => none }
def LassoConnectivesWrongFalsely : Prop := lassoConnectivesRow.holds Tryz.pinned (OpenSpec.ofChange lassoConnectivesWrong)

/-- 'armaturelaw18.LassoStates': WHATEVER THE INPUT: true; the input reads as it did. -/
def lassoStatesSpec : ChangeSpec := { name := "lassoStates", fn := fun _ => fun
  | [d1, d2, d3, d4, d5] => { results := [.lit (.bool true)], args := [d1, d2, d3, d4, d5] }
  | _ => none }
def lassoStatesRow : OpenClaim := { program := "ytbjaehfboanglaagreatdoor", sum := "317400f595bae47c6a247339a63598419c831f93ccdf83679aedc8dfd87381b2", func := "armature/armaturelaw18.LassoStates", spec := "lassoStates", inPlace := ["slices.overlaps[int]"], unfollowed := true, recurses := true, named := ["internal/strconv.uint64pow10", "math/bits.deBruijn32tab", "math/bits.deBruijn64tab"], loops := true, plainKeys := false, apart := false, laid := [("math/bits.deBruijn32tab", laid_math_bits_deBruijn32tab), ("math/bits.deBruijn64tab", laid_math_bits_deBruijn64tab), ("internal/strconv.uint64pow10", laid_internal_strconv_uint64pow10)] }
def LassoStatesSaid : Prop := lassoStatesRow.holds Tryz.pinned (OpenSpec.ofChange lassoStatesSpec)

/-- ITS FALSE NEIGHBOUR: 'it returns false'. Refute it at one input. -/
def lassoStatesWrong : ChangeSpec := { name := "lassoStates", fn := fun _ => fun
  | [d1, d2, d3, d4, d5] => { results := [.lit (.bool false)], args := [d1, d2, d3, d4, d5] }
  | _ => none }
def LassoStatesWrongFalsely : Prop := lassoStatesRow.holds Tryz.pinned (OpenSpec.ofChange lassoStatesWrong)

/-- 'armaturelaw18.LassoProblem': WHATEVER THE INPUT: true; the input reads as it did. -/
def lassoProblemSpec : ChangeSpec := { name := "lassoProblem", fn := fun _ => fun
  | [d1, d2, d3, d4] => { results := [.lit (.bool true)], args := [d1, d2, d3, d4] }
  | _ => none }
def lassoProblemRow : OpenClaim := { program := "ytbjaehfboanglaagreatdoor", sum := "317400f595bae47c6a247339a63598419c831f93ccdf83679aedc8dfd87381b2", func := "armature/armaturelaw18.LassoProblem", spec := "lassoProblem", inPlace := ["slices.overlaps[int]"], unfollowed := true, recurses := true, named := ["internal/strconv.uint64pow10", "math/bits.deBruijn32tab", "math/bits.deBruijn64tab"], loops := true, plainKeys := false, apart := false, laid := [("math/bits.deBruijn32tab", laid_math_bits_deBruijn32tab), ("math/bits.deBruijn64tab", laid_math_bits_deBruijn64tab), ("internal/strconv.uint64pow10", laid_internal_strconv_uint64pow10)] }
def LassoProblemSaid : Prop := lassoProblemRow.holds Tryz.pinned (OpenSpec.ofChange lassoProblemSpec)

/-- ITS FALSE NEIGHBOUR: 'it returns false'. Refute it at one input. -/
def lassoProblemWrong : ChangeSpec := { name := "lassoProblem", fn := fun _ => fun
  | [d1, d2, d3, d4] => { results := [.lit (.bool false)], args := [d1, d2, d3, d4] }
  | _ => none }
def LassoProblemWrongFalsely : Prop := lassoProblemRow.holds Tryz.pinned (OpenSpec.ofChange lassoProblemWrong)

/- THE SECOND FORM. 'bulk': how many values and letters a reading holds, each counted each time it is reached (what is shared counts as often as it is met; a slice's spare places count too). A statement '..UptoSaid' is the law's where the arguments, and the package variables that the reading takes, are together of bulk at most 1048576: NARROWER than '..Said'. Prove '..Said' where nothing that the law and all that it calls make is longer than what came in: it says more and counts as full. Else prove '..UptoSaid'. A law counts once. -/
mutual
def uptoBulk {H : Type} : DataW H → Nat
  | .lit (.string bytes) => bytes.length + 1
  | .lit _ => 1
  | .nil => 1
  | .ptr d => uptoBulk d + 1
  | .slice elems spare => uptoBulkAll elems + uptoBulkAll spare + 1
  | .agg parts => uptoBulkAll parts + 1
  | .iface _ d => uptoBulk d + 1
  | .map entries => uptoBulkEntries entries + 1
  | .held _ => 1
def uptoBulkAll {H : Type} : List (DataW H) → Nat
  | [] => 0
  | d :: r => uptoBulk d + uptoBulkAll r
def uptoBulkEntries {H : Type} : List (Lit × DataW H) → Nat
  | [] => 0
  | x :: r => uptoBulkEntry x + uptoBulkEntries r
def uptoBulkEntry {H : Type} : Lit × DataW H → Nat
  | (.string bytes, d) => bytes.length + uptoBulk d + 1
  | (_, d) => uptoBulk d + 1
 end
def uptoSmall : (H : Type) → List (DataW H) → Bool := fun _ ds => decide (uptoBulkAll ds ≤ 1048576)
def OpenSpec.upto (s : _root_.Go.ChangeSpec) : _root_.Go.OpenSpec := { _root_.Go.OpenSpec.ofChange s with cond := some uptoSmall }

/-- 'armaturelaw18.LassoMatchesReference', WHERE WHAT IT READS IS OF BULK AT MOST 1048576: true; the input reads as it did. -/
def lassoMatchesReferenceUptoRow : OpenClaim := { program := "ytbjaehfboanglaagreatdoor", sum := "317400f595bae47c6a247339a63598419c831f93ccdf83679aedc8dfd87381b2", func := "armature/armaturelaw18.LassoMatchesReference", spec := "lassoMatchesReference", inPlace := ["slices.overlaps[int]"], unfollowed := true, recurses := true, named := ["internal/strconv.uint64pow10", "math/bits.deBruijn32tab", "math/bits.deBruijn64tab"], loops := true, plainKeys := false, apart := false, laid := [("math/bits.deBruijn32tab", laid_math_bits_deBruijn32tab), ("math/bits.deBruijn64tab", laid_math_bits_deBruijn64tab), ("internal/strconv.uint64pow10", laid_internal_strconv_uint64pow10)], narrowed := true }
def LassoMatchesReferenceUptoSaid : Prop := lassoMatchesReferenceUptoRow.holds Tryz.pinned (OpenSpec.upto lassoMatchesReferenceSpec)

/-- 'armaturelaw18.LassoDecodeEncode', WHERE WHAT IT READS IS OF BULK AT MOST 1048576: true; the input reads as it did. -/
def lassoDecodeEncodeUptoRow : OpenClaim := { program := "ytbjaehfboanglaagreatdoor", sum := "317400f595bae47c6a247339a63598419c831f93ccdf83679aedc8dfd87381b2", func := "armature/armaturelaw18.LassoDecodeEncode", spec := "lassoDecodeEncode", inPlace := ["slices.overlaps[int]"], unfollowed := true, recurses := true, named := ["internal/strconv.uint64pow10", "math/bits.deBruijn32tab", "math/bits.deBruijn64tab"], loops := true, plainKeys := false, apart := false, laid := [("math/bits.deBruijn32tab", laid_math_bits_deBruijn32tab), ("math/bits.deBruijn64tab", laid_math_bits_deBruijn64tab), ("internal/strconv.uint64pow10", laid_internal_strconv_uint64pow10)], narrowed := true }
def LassoDecodeEncodeUptoSaid : Prop := lassoDecodeEncodeUptoRow.holds Tryz.pinned (OpenSpec.upto lassoDecodeEncodeSpec)

/-- 'armaturelaw18.LassoEncodeDecode', WHERE WHAT IT READS IS OF BULK AT MOST 1048576: true; the input reads as it did. -/
def lassoEncodeDecodeUptoRow : OpenClaim := { program := "ytbjaehfboanglaagreatdoor", sum := "317400f595bae47c6a247339a63598419c831f93ccdf83679aedc8dfd87381b2", func := "armature/armaturelaw18.LassoEncodeDecode", spec := "lassoEncodeDecode", inPlace := ["slices.overlaps[int]"], unfollowed := true, recurses := true, named := ["internal/strconv.uint64pow10", "math/bits.deBruijn32tab", "math/bits.deBruijn64tab"], loops := true, plainKeys := false, apart := false, laid := [("math/bits.deBruijn32tab", laid_math_bits_deBruijn32tab), ("math/bits.deBruijn64tab", laid_math_bits_deBruijn64tab), ("internal/strconv.uint64pow10", laid_internal_strconv_uint64pow10)], narrowed := true }
def LassoEncodeDecodeUptoSaid : Prop := lassoEncodeDecodeUptoRow.holds Tryz.pinned (OpenSpec.upto lassoEncodeDecodeSpec)

/-- 'armaturelaw18.LassoOrder', WHERE WHAT IT READS IS OF BULK AT MOST 1048576: true; the input reads as it did. -/
def lassoOrderUptoRow : OpenClaim := { program := "ytbjaehfboanglaagreatdoor", sum := "317400f595bae47c6a247339a63598419c831f93ccdf83679aedc8dfd87381b2", func := "armature/armaturelaw18.LassoOrder", spec := "lassoOrder", inPlace := ["slices.overlaps[int]"], unfollowed := true, recurses := true, named := ["internal/strconv.uint64pow10", "math/bits.deBruijn32tab", "math/bits.deBruijn64tab"], loops := true, plainKeys := false, apart := false, laid := [("math/bits.deBruijn32tab", laid_math_bits_deBruijn32tab), ("math/bits.deBruijn64tab", laid_math_bits_deBruijn64tab), ("internal/strconv.uint64pow10", laid_internal_strconv_uint64pow10)], narrowed := true }
def LassoOrderUptoSaid : Prop := lassoOrderUptoRow.holds Tryz.pinned (OpenSpec.upto lassoOrderSpec)

/-- 'armaturelaw18.LassoConnectives', WHERE WHAT IT READS IS OF BULK AT MOST 1048576: true; the input reads as it did. -/
def lassoConnectivesUptoRow : OpenClaim := { program := "ytbjaehfboanglaagreatdoor", sum := "317400f595bae47c6a247339a63598419c831f93ccdf83679aedc8dfd87381b2", func := "armature/armaturelaw18.LassoConnectives", spec := "lassoConnectives", inPlace := ["slices.overlaps[int]"], unfollowed := true, recurses := true, named := ["internal/strconv.uint64pow10", "math/bits.deBruijn32tab", "math/bits.deBruijn64tab"], loops := true, plainKeys := false, apart := false, laid := [("math/bits.deBruijn32tab", laid_math_bits_deBruijn32tab), ("math/bits.deBruijn64tab", laid_math_bits_deBruijn64tab), ("internal/strconv.uint64pow10", laid_internal_strconv_uint64pow10)], narrowed := true }
def LassoConnectivesUptoSaid : Prop := lassoConnectivesUptoRow.holds Tryz.pinned (OpenSpec.upto lassoConnectivesSpec)

/-- 'armaturelaw18.LassoStates', WHERE WHAT IT READS IS OF BULK AT MOST 1048576: true; the input reads as it did. -/
def lassoStatesUptoRow : OpenClaim := { program := "ytbjaehfboanglaagreatdoor", sum := "317400f595bae47c6a247339a63598419c831f93ccdf83679aedc8dfd87381b2", func := "armature/armaturelaw18.LassoStates", spec := "lassoStates", inPlace := ["slices.overlaps[int]"], unfollowed := true, recurses := true, named := ["internal/strconv.uint64pow10", "math/bits.deBruijn32tab", "math/bits.deBruijn64tab"], loops := true, plainKeys := false, apart := false, laid := [("math/bits.deBruijn32tab", laid_math_bits_deBruijn32tab), ("math/bits.deBruijn64tab", laid_math_bits_deBruijn64tab), ("internal/strconv.uint64pow10", laid_internal_strconv_uint64pow10)], narrowed := true }
def LassoStatesUptoSaid : Prop := lassoStatesUptoRow.holds Tryz.pinned (OpenSpec.upto lassoStatesSpec)

/-- 'armaturelaw18.LassoProblem', WHERE WHAT IT READS IS OF BULK AT MOST 1048576: true; the input reads as it did. -/
def lassoProblemUptoRow : OpenClaim := { program := "ytbjaehfboanglaagreatdoor", sum := "317400f595bae47c6a247339a63598419c831f93ccdf83679aedc8dfd87381b2", func := "armature/armaturelaw18.LassoProblem", spec := "lassoProblem", inPlace := ["slices.overlaps[int]"], unfollowed := true, recurses := true, named := ["internal/strconv.uint64pow10", "math/bits.deBruijn32tab", "math/bits.deBruijn64tab"], loops := true, plainKeys := false, apart := false, laid := [("math/bits.deBruijn32tab", laid_math_bits_deBruijn32tab), ("math/bits.deBruijn64tab", laid_math_bits_deBruijn64tab), ("internal/strconv.uint64pow10", laid_internal_strconv_uint64pow10)], narrowed := true }
def LassoProblemUptoSaid : Prop := lassoProblemUptoRow.holds Tryz.pinned (OpenSpec.upto lassoProblemSpec)

end Rows
end Go.Proofs.YtbjaehfboanglaaGreatDoor
