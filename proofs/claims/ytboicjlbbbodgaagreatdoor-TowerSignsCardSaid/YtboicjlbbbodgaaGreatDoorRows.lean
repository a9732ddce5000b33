/-
  NARROWER THAN 'FOR EVERY INPUT', by the rows' own cells (each row's printed sentence says how): TowerField: laid · TowerDivides: laid · TowerNorms: laid · TowerComputes: laid · TowerSigns: laid · TowerChecks: laid · TowerEncloses: laid · TowerRoots: laid · TowerExtends: laid.
  DERIVED. THE GIVEN ROWS OF THIS SEAT. 9 by the template 'for every input the law returns true; each argument reads behind the call as it read before'; 0 by the template 'total and deterministic' (their statements: YtboicjlbbbodgaaGreatDoorTotals.lean).
  GIVEN WITH THE SEED: the statements are not yours to turn. If you find one false, say at which input.
  Laid BY PROGRAM, IN A SANDBOX (cutbox-rows.mjs): the forced cells as the released guide's own fill.sh prints them over the translation fcf13921ab599842… (all of the seat's roots in one cut). By AI agents, Wed Nov 11 2026. No macro, syntax, notation, axiom, sorry.
-/
import Derived.Test.YtboicjlbbbodgaaGreatDoorChecked
import GoSem.Claim
import GoSem.ClaimJoined
import GoSem.ClaimMapViews
import Derived.JoinedTies
import Derived.KernelRfl
namespace Go.Proofs.YtboicjlbbbodgaaGreatDoor
/- THE CELL 'sum', in the pinned program and in every row, IS THE sha256 OF THE DUMP (.gsa) THAT YtboicjlbbbodgaaGreatDoorProg.lean LOADS. Nothing in Lean hashes anything: it is a label: what it is worth is what the hold of that sum in a sandbox is worth. -/
noncomputable def Tryz.pinned : Pinned := { name := "ytboicjlbbbodgaagreatdoor", sum := "fcf13921ab59984224ce718e064be35876372f77d5e1e2d1b1091621be7e142d", checked := Tryz.checked }
namespace Rows
def none {H : Type} : Left H := { results := [], args := [] }

/- WHAT THE LISTED PACKAGE-LEVEL VARIABLES READ AS WHEN THE CALL BEGINS. Each datum BY PROGRAM (the guide's laid-datum.mjs) off the statement by which the dump's own 'gosem.cut.vars' lays the variable. In a bare row this is a premise. The card (YtboicjlbbbodgaaGreatDoorCards.lean) ties it to the program's text. -/
def laid_math_bits_deBruijn32tab {H : Type} : DataW H := .agg [.lit (.int .u8 0), .lit (.int .u8 1), .lit (.int .u8 28), .lit (.int .u8 2), .lit (.int .u8 29), .lit (.int .u8 14), .lit (.int .u8 24), .lit (.int .u8 3), .lit (.int .u8 30), .lit (.int .u8 22), .lit (.int .u8 20), .lit (.int .u8 15), .lit (.int .u8 25), .lit (.int .u8 17), .lit (.int .u8 4), .lit (.int .u8 8), .lit (.int .u8 31), .lit (.int .u8 27), .lit (.int .u8 13), .lit (.int .u8 23), .lit (.int .u8 21), .lit (.int .u8 19), .lit (.int .u8 16), .lit (.int .u8 7), .lit (.int .u8 26), .lit (.int .u8 12), .lit (.int .u8 18), .lit (.int .u8 6), .lit (.int .u8 11), .lit (.int .u8 5), .lit (.int .u8 10), .lit (.int .u8 9)]
def laid_math_bits_deBruijn64tab {H : Type} : DataW H := .agg [.lit (.int .u8 0), .lit (.int .u8 1), .lit (.int .u8 56), .lit (.int .u8 2), .lit (.int .u8 57), .lit (.int .u8 49), .lit (.int .u8 28), .lit (.int .u8 3), .lit (.int .u8 61), .lit (.int .u8 58), .lit (.int .u8 42), .lit (.int .u8 50), .lit (.int .u8 38), .lit (.int .u8 29), .lit (.int .u8 17), .lit (.int .u8 4), .lit (.int .u8 62), .lit (.int .u8 47), .lit (.int .u8 59), .lit (.int .u8 36), .lit (.int .u8 45), .lit (.int .u8 43), .lit (.int .u8 51), .lit (.int .u8 22), .lit (.int .u8 53), .lit (.int .u8 39), .lit (.int .u8 33), .lit (.int .u8 30), .lit (.int .u8 24), .lit (.int .u8 18), .lit (.int .u8 12), .lit (.int .u8 5), .lit (.int .u8 63), .lit (.int .u8 55), .lit (.int .u8 48), .lit (.int .u8 27), .lit (.int .u8 60), .lit (.int .u8 41), .lit (.int .u8 37), .lit (.int .u8 16), .lit (.int .u8 46), .lit (.int .u8 35), .lit (.int .u8 44), .lit (.int .u8 21), .lit (.int .u8 52), .lit (.int .u8 32), .lit (.int .u8 23), .lit (.int .u8 11), .lit (.int .u8 54), .lit (.int .u8 26), .lit (.int .u8 40), .lit (.int .u8 15), .lit (.int .u8 34), .lit (.int .u8 20), .lit (.int .u8 31), .lit (.int .u8 10), .lit (.int .u8 25), .lit (.int .u8 14), .lit (.int .u8 19), .lit (.int .u8 9), .lit (.int .u8 13), .lit (.int .u8 8), .lit (.int .u8 7), .lit (.int .u8 6)]
def laid_internal_strconv_uint64pow10 {H : Type} : DataW H := .agg [.lit (.int .u64 1), .lit (.int .u64 10), .lit (.int .u64 100), .lit (.int .u64 1000), .lit (.int .u64 10000), .lit (.int .u64 100000), .lit (.int .u64 1000000), .lit (.int .u64 10000000), .lit (.int .u64 100000000), .lit (.int .u64 1000000000), .lit (.int .u64 10000000000), .lit (.int .u64 100000000000), .lit (.int .u64 1000000000000), .lit (.int .u64 10000000000000), .lit (.int .u64 100000000000000), .lit (.int .u64 1000000000000000), .lit (.int .u64 10000000000000000), .lit (.int .u64 100000000000000000), .lit (.int .u64 1000000000000000000), .lit (.int .u64 10000000000000000000)]

/-- 'linkworklaw04.TowerField': WHATEVER THE INPUT: true; the input reads as it did. -/
def towerFieldSpec : ChangeSpec := { name := "towerField", fn := fun _ => fun
  | [d1, d2, d3] => { results := [.lit (.bool true)], args := [d1, d2, d3] }
  | _ => none }
def towerFieldRow : OpenClaim := { program := "ytboicjlbbbodgaagreatdoor", sum := "fcf13921ab59984224ce718e064be35876372f77d5e1e2d1b1091621be7e142d", func := "linkwork/linkworklaw04.TowerField", spec := "towerField", inPlace := ["internal/abi.NoEscape", "internal/bytealg.MakeNoZero"], recurses := true, named := ["internal/strconv.uint64pow10", "math/bits.deBruijn32tab", "math/bits.deBruijn64tab"], apart := false, laid := [("math/bits.deBruijn32tab", laid_math_bits_deBruijn32tab), ("math/bits.deBruijn64tab", laid_math_bits_deBruijn64tab), ("internal/strconv.uint64pow10", laid_internal_strconv_uint64pow10)] }
def TowerFieldSaid : Prop := towerFieldRow.holds Tryz.pinned (OpenSpec.ofChange towerFieldSpec)

/-- ITS FALSE NEIGHBOUR: 'it returns false'. Refute it at one input. -/
def towerFieldWrong : ChangeSpec := { name := "towerField", fn := fun _ => fun
  | [d1, d2, d3] => { results := [.lit (.bool false)], args := [d1, d2, d3] }
  | _ => none }
def TowerFieldWrongFalsely : Prop := towerFieldRow.holds Tryz.pinned (OpenSpec.ofChange towerFieldWrong)

/-- 'linkworklaw04.TowerDivides': WHATEVER THE INPUT: true; the input reads as it did. -/
def towerDividesSpec : ChangeSpec := { name := "towerDivides", fn := fun _ => fun
  | [d1, d2, d3] => { results := [.lit (.bool true)], args := [d1, d2, d3] }
  | _ => none }
def towerDividesRow : OpenClaim := { program := "ytboicjlbbbodgaagreatdoor", sum := "fcf13921ab59984224ce718e064be35876372f77d5e1e2d1b1091621be7e142d", func := "linkwork/linkworklaw04.TowerDivides", spec := "towerDivides", inPlace := ["internal/abi.NoEscape", "internal/bytealg.MakeNoZero"], recurses := true, named := ["internal/strconv.uint64pow10", "math/bits.deBruijn32tab", "math/bits.deBruijn64tab"], apart := false, laid := [("math/bits.deBruijn32tab", laid_math_bits_deBruijn32tab), ("math/bits.deBruijn64tab", laid_math_bits_deBruijn64tab), ("internal/strconv.uint64pow10", laid_internal_strconv_uint64pow10)] }
def TowerDividesSaid : Prop := towerDividesRow.holds Tryz.pinned (OpenSpec.ofChange towerDividesSpec)

/-- ITS FALSE NEIGHBOUR: 'it returns false'. Refute it at one input. -/
def towerDividesWrong : ChangeSpec := { name := "towerDivides", fn := fun _ => fun
  | [d1, d2, d3] => { results := [.lit (.bool false)], args := [d1, d2, d3] }
  | _ => none }
def TowerDividesWrongFalsely : Prop := towerDividesRow.holds Tryz.pinned (OpenSpec.ofChange towerDividesWrong)

/-- 'linkworklaw04.TowerNorms': WHATEVER THE INPUT: true; the input reads as it did. -/
def towerNormsSpec : ChangeSpec := { name := "towerNorms", fn := fun _ => fun
  | [d1, d2, d3] => { results := [.lit (.bool true)], args := [d1, d2, d3] }
  | _ => none }
def towerNormsRow : OpenClaim := { program := "ytboicjlbbbodgaagreatdoor", sum := "fcf13921ab59984224ce718e064be35876372f77d5e1e2d1b1091621be7e142d", func := "linkwork/linkworklaw04.TowerNorms", spec := "towerNorms", inPlace := ["internal/abi.NoEscape", "internal/bytealg.MakeNoZero"], recurses := true, named := ["internal/strconv.uint64pow10", "math/bits.deBruijn32tab", "math/bits.deBruijn64tab"], apart := false, laid := [("math/bits.deBruijn32tab", laid_math_bits_deBruijn32tab), ("math/bits.deBruijn64tab", laid_math_bits_deBruijn64tab), ("internal/strconv.uint64pow10", laid_internal_strconv_uint64pow10)] }
def TowerNormsSaid : Prop := towerNormsRow.holds Tryz.pinned (OpenSpec.ofChange towerNormsSpec)

/-- ITS FALSE NEIGHBOUR: 'it returns false'. Refute it at one input. -/
def towerNormsWrong : ChangeSpec := { name := "towerNorms", fn := fun _ => fun
  | [d1, d2, d3] => { results := [.lit (.bool false)], args := [d1, d2, d3] }
  | _ => none }
def TowerNormsWrongFalsely : Prop := towerNormsRow.holds Tryz.pinned (OpenSpec.ofChange towerNormsWrong)

/-- 'linkworklaw04.TowerComputes': WHATEVER THE INPUT: true; the input reads as it did. -/
def towerComputesSpec : ChangeSpec := { name := "towerComputes", fn := fun _ => fun
  | [d1, d2, d3] => { results := [.lit (.bool true)], args := [d1, d2, d3] }
  | _ => none }
def towerComputesRow : OpenClaim := { program := "ytboicjlbbbodgaagreatdoor", sum := "fcf13921ab59984224ce718e064be35876372f77d5e1e2d1b1091621be7e142d", func := "linkwork/linkworklaw04.TowerComputes", spec := "towerComputes", inPlace := ["internal/abi.NoEscape", "internal/bytealg.MakeNoZero"], recurses := true, named := ["internal/strconv.uint64pow10", "math/bits.deBruijn32tab", "math/bits.deBruijn64tab"], apart := false, laid := [("math/bits.deBruijn32tab", laid_math_bits_deBruijn32tab), ("math/bits.deBruijn64tab", laid_math_bits_deBruijn64tab), ("internal/strconv.uint64pow10", laid_internal_strconv_uint64pow10)] }
def TowerComputesSaid : Prop := towerComputesRow.holds Tryz.pinned (OpenSpec.ofChange towerComputesSpec)

/-- ITS FALSE NEIGHBOUR: 'it returns false'. Refute it at one input. -/
def towerComputesWrong : ChangeSpec := { name := "towerComputes", fn := fun _ => fun
  | [d1, d2, d3] => { results := [.lit (.bool false)], args := [d1, d2, d3] }
  | _ => none }
def TowerComputesWrongFalsely : Prop := towerComputesRow.holds Tryz.pinned (OpenSpec.ofChange towerComputesWrong)

/-- 'linkworklaw04.TowerSigns': WHATEVER THE INPUT: true; the input reads as it did. -/
def towerSignsSpec : ChangeSpec := { name := "towerSigns", fn := fun _ => fun
  | [d1, d2, d3] => { results := [.lit (.bool true)], args := [d1, d2, d3] }
  | _ => none }
def towerSignsRow : OpenClaim := { program := "ytboicjlbbbodgaagreatdoor", sum := "fcf13921ab59984224ce718e064be35876372f77d5e1e2d1b1091621be7e142d", func := "linkwork/linkworklaw04.TowerSigns", spec := "towerSigns", inPlace := ["internal/abi.NoEscape", "internal/bytealg.MakeNoZero"], recurses := true, named := ["internal/strconv.uint64pow10", "math/bits.deBruijn32tab", "math/bits.deBruijn64tab"], apart := false, laid := [("math/bits.deBruijn32tab", laid_math_bits_deBruijn32tab), ("math/bits.deBruijn64tab", laid_math_bits_deBruijn64tab), ("internal/strconv.uint64pow10", laid_internal_strconv_uint64pow10)] }
def TowerSignsSaid : Prop := towerSignsRow.holds Tryz.pinned (OpenSpec.ofChange towerSignsSpec)

/-- ITS FALSE NEIGHBOUR: 'it returns false'. Refute it at one input. -/
def towerSignsWrong : ChangeSpec := { name := "towerSigns", fn := fun _ => fun
  | [d1, d2, d3] => { results := [.lit (.bool false)], args := [d1, d2, d3] }
  | _ => none }
def TowerSignsWrongFalsely : Prop := towerSignsRow.holds Tryz.pinned (OpenSpec.ofChange towerSignsWrong)

/-- 'linkworklaw04.TowerChecks': WHATEVER THE INPUT: true; the input reads as it did. -/
def towerChecksSpec : ChangeSpec := { name := "towerChecks", fn := fun _ => fun
  | [d1, d2] => { results := [.lit (.bool true)], args := [d1, d2] }
  | _ => none }
def towerChecksRow : OpenClaim := { program := "ytboicjlbbbodgaagreatdoor", sum := "fcf13921ab59984224ce718e064be35876372f77d5e1e2d1b1091621be7e142d", func := "linkwork/linkworklaw04.TowerChecks", spec := "towerChecks", inPlace := ["internal/abi.NoEscape", "internal/bytealg.MakeNoZero"], recurses := true, named := ["internal/strconv.uint64pow10", "math/bits.deBruijn32tab", "math/bits.deBruijn64tab"], apart := false, laid := [("math/bits.deBruijn32tab", laid_math_bits_deBruijn32tab), ("math/bits.deBruijn64tab", laid_math_bits_deBruijn64tab), ("internal/strconv.uint64pow10", laid_internal_strconv_uint64pow10)] }
def TowerChecksSaid : Prop := towerChecksRow.holds Tryz.pinned (OpenSpec.ofChange towerChecksSpec)

/-- ITS FALSE NEIGHBOUR: 'it returns false'. Refute it at one input. -/
def towerChecksWrong : ChangeSpec := { name := "towerChecks", fn := fun _ => fun
  | [d1, d2] => { results := [.lit (.bool false)], args := [d1, d2] }
  | _ => none }
def TowerChecksWrongFalsely : Prop := towerChecksRow.holds Tryz.pinned (OpenSpec.ofChange towerChecksWrong)

/-- 'linkworklaw04.TowerEncloses': WHATEVER THE INPUT: true; the input reads as it did. -/
def towerEnclosesSpec : ChangeSpec := { name := "towerEncloses", fn := fun _ => fun
  | [d1, d2, d3] => { results := [.lit (.bool true)], args := [d1, d2, d3] }
  | _ => none }
def towerEnclosesRow : OpenClaim := { program := "ytboicjlbbbodgaagreatdoor", sum := "fcf13921ab59984224ce718e064be35876372f77d5e1e2d1b1091621be7e142d", func := "linkwork/linkworklaw04.TowerEncloses", spec := "towerEncloses", inPlace := ["internal/abi.NoEscape", "internal/bytealg.MakeNoZero"], recurses := true, named := ["internal/strconv.uint64pow10", "math/bits.deBruijn32tab", "math/bits.deBruijn64tab"], apart := false, laid := [("math/bits.deBruijn32tab", laid_math_bits_deBruijn32tab), ("math/bits.deBruijn64tab", laid_math_bits_deBruijn64tab), ("internal/strconv.uint64pow10", laid_internal_strconv_uint64pow10)] }
def TowerEnclosesSaid : Prop := towerEnclosesRow.holds Tryz.pinned (OpenSpec.ofChange towerEnclosesSpec)

/-- ITS FALSE NEIGHBOUR: 'it returns false'. Refute it at one input. -/
def towerEnclosesWrong : ChangeSpec := { name := "towerEncloses", fn := fun _ => fun
  | [d1, d2, d3] => { results := [.lit (.bool false)], args := [d1, d2, d3] }
  | _ => none }
def TowerEnclosesWrongFalsely : Prop := towerEnclosesRow.holds Tryz.pinned (OpenSpec.ofChange towerEnclosesWrong)

/-- 'linkworklaw04.TowerRoots': WHATEVER THE INPUT: true; the input reads as it did. -/
def towerRootsSpec : ChangeSpec := { name := "towerRoots", fn := fun _ => fun
  | [d1, d2, d3] => { results := [.lit (.bool true)], args := [d1, d2, d3] }
  | _ => none }
def towerRootsRow : OpenClaim := { program := "ytboicjlbbbodgaagreatdoor", sum := "fcf13921ab59984224ce718e064be35876372f77d5e1e2d1b1091621be7e142d", func := "linkwork/linkworklaw04.TowerRoots", spec := "towerRoots", inPlace := ["internal/abi.NoEscape", "internal/bytealg.MakeNoZero"], recurses := true, named := ["internal/strconv.uint64pow10", "math/bits.deBruijn32tab", "math/bits.deBruijn64tab"], apart := false, laid := [("math/bits.deBruijn32tab", laid_math_bits_deBruijn32tab), ("math/bits.deBruijn64tab", laid_math_bits_deBruijn64tab), ("internal/strconv.uint64pow10", laid_internal_strconv_uint64pow10)] }
def TowerRootsSaid : Prop := towerRootsRow.holds Tryz.pinned (OpenSpec.ofChange towerRootsSpec)

/-- ITS FALSE NEIGHBOUR: 'it returns false'. Refute it at one input. -/
def towerRootsWrong : ChangeSpec := { name := "towerRoots", fn := fun _ => fun
  | [d1, d2, d3] => { results := [.lit (.bool false)], args := [d1, d2, d3] }
  | _ => none }
def TowerRootsWrongFalsely : Prop := towerRootsRow.holds Tryz.pinned (OpenSpec.ofChange towerRootsWrong)

/-- 'linkworklaw04.TowerExtends': WHATEVER THE INPUT: true; the input reads as it did. -/
def towerExtendsSpec : ChangeSpec := { name := "towerExtends", fn := fun _ => fun
  | [d1, d2, d3] => { results := [.lit (.bool true)], args := [d1, d2, d3] }
  | _ => none }
def towerExtendsRow : OpenClaim := { program := "ytboicjlbbbodgaagreatdoor", sum := "fcf13921ab59984224ce718e064be35876372f77d5e1e2d1b1091621be7e142d", func := "linkwork/linkworklaw04.TowerExtends", spec := "towerExtends", inPlace := ["internal/abi.NoEscape", "internal/bytealg.MakeNoZero"], recurses := true, named := ["internal/strconv.uint64pow10", "math/bits.deBruijn32tab", "math/bits.deBruijn64tab"], apart := false, laid := [("math/bits.deBruijn32tab", laid_math_bits_deBruijn32tab), ("math/bits.deBruijn64tab", laid_math_bits_deBruijn64tab), ("internal/strconv.uint64pow10", laid_internal_strconv_uint64pow10)] }
def TowerExtendsSaid : Prop := towerExtendsRow.holds Tryz.pinned (OpenSpec.ofChange towerExtendsSpec)

/-- ITS FALSE NEIGHBOUR: 'it returns false'. Refute it at one input. -/
def towerExtendsWrong : ChangeSpec := { name := "towerExtends", fn := fun _ => fun
  | [d1, d2, d3] => { results := [.lit (.bool false)], args := [d1, d2, d3] }
  | _ => none }
def TowerExtendsWrongFalsely : Prop := towerExtendsRow.holds Tryz.pinned (OpenSpec.ofChange towerExtendsWrong)

/- THE SECOND FORM. 'bulk': how many values and letters a reading holds, each counted each time it is reached (what is shared counts as often as it is met; a slice's spare places count too). A statement '..UptoSaid' is the law's where the arguments, and the package variables that the reading takes, are together of bulk at most 1048576: NARROWER than '..Said'. Prove '..Said' where nothing that the law and all that it calls make is longer than what came in: it says more and counts as full. Else prove '..UptoSaid'. A law counts once. -/
mutual
def uptoBulk {H : Type} : DataW H → Nat
  | .lit (.string bytes) => bytes.length + 1
  | .lit _ => 1
  | .nil => 1
  | .ptr d => uptoBulk d + 1
  | .slice elems spare => uptoBulkAll elems + uptoBulkAll spare + 1
  | .agg parts => uptoBulkAll parts + 1
  | .iface _ d => uptoBulk d + 1
  | .map entries => uptoBulkEntries entries + 1
  | .held _ => 1
def uptoBulkAll {H : Type} : List (DataW H) → Nat
  | [] => 0
  | d :: r => uptoBulk d + uptoBulkAll r
def uptoBulkEntries {H : Type} : List (Lit × DataW H) → Nat
  | [] => 0
  | x :: r => uptoBulkEntry x + uptoBulkEntries r
def uptoBulkEntry {H : Type} : Lit × DataW H → Nat
  | (.string bytes, d) => bytes.length + uptoBulk d + 1
  | (_, d) => uptoBulk d + 1
 end
def uptoSmall : (H : Type) → List (DataW H) → Bool := fun _ ds => decide (uptoBulkAll ds ≤ 1048576)
def OpenSpec.upto (s : _root_.Go.ChangeSpec) : _root_.Go.OpenSpec := { _root_.Go.OpenSpec.ofChange s with cond := some uptoSmall }

/-- 'linkworklaw04.TowerField', WHERE WHAT IT READS IS OF BULK AT MOST 1048576: true; the input reads as it did. -/
def towerFieldUptoRow : OpenClaim := { program := "ytboicjlbbbodgaagreatdoor", sum := "fcf13921ab59984224ce718e064be35876372f77d5e1e2d1b1091621be7e142d", func := "linkwork/linkworklaw04.TowerField", spec := "towerField", inPlace := ["internal/abi.NoEscape", "internal/bytealg.MakeNoZero"], recurses := true, named := ["internal/strconv.uint64pow10", "math/bits.deBruijn32tab", "math/bits.deBruijn64tab"], apart := false, laid := [("math/bits.deBruijn32tab", laid_math_bits_deBruijn32tab), ("math/bits.deBruijn64tab", laid_math_bits_deBruijn64tab), ("internal/strconv.uint64pow10", laid_internal_strconv_uint64pow10)], narrowed := true }
def TowerFieldUptoSaid : Prop := towerFieldUptoRow.holds Tryz.pinned (OpenSpec.upto towerFieldSpec)

/-- 'linkworklaw04.TowerDivides', WHERE WHAT IT READS IS OF BULK AT MOST 1048576: true; the input reads as it did. -/
def towerDividesUptoRow : OpenClaim := { program := "ytboicjlbbbodgaagreatdoor", sum := "fcf13921ab59984224ce718e064be35876372f77d5e1e2d1b1091621be7e142d", func := "linkwork/linkworklaw04.TowerDivides", spec := "towerDivides", inPlace := ["internal/abi.NoEscape", "internal/bytealg.MakeNoZero"], recurses := true, named := ["internal/strconv.uint64pow10", "math/bits.deBruijn32tab", "math/bits.deBruijn64tab"], apart := false, laid := [("math/bits.deBruijn32tab", laid_math_bits_deBruijn32tab), ("math/bits.deBruijn64tab", laid_math_bits_deBruijn64tab), ("internal/strconv.uint64pow10", laid_internal_strconv_uint64pow10)], narrowed := true }
def TowerDividesUptoSaid : Prop := towerDividesUptoRow.holds Tryz.pinned (OpenSpec.upto towerDividesSpec)

/-- 'linkworklaw04.TowerNorms', WHERE WHAT IT READS IS OF BULK AT MOST 1048576: true; the input reads as it did. -/
def towerNormsUptoRow : OpenClaim := { program := "ytboicjlbbbodgaagreatdoor", sum := "fcf13921ab59984224ce718e064be35876372f77d5e1e2d1b1091621be7e142d", func := "linkwork/linkworklaw04.TowerNorms", spec := "towerNorms", inPlace := ["internal/abi.NoEscape", "internal/bytealg.MakeNoZero"], recurses := true, named := ["internal/strconv.uint64pow10", "math/bits.deBruijn32tab", "math/bits.deBruijn64tab"], apart := false, laid := [("math/bits.deBruijn32tab", laid_math_bits_deBruijn32tab), ("math/bits.deBruijn64tab", laid_math_bits_deBruijn64tab), ("internal/strconv.uint64pow10", laid_internal_strconv_uint64pow10)], narrowed := true }
def TowerNormsUptoSaid : Prop := towerNormsUptoRow.holds Tryz.pinned (OpenSpec.upto towerNormsSpec)

/-- 'linkworklaw04.TowerComputes', WHERE WHAT IT READS IS OF BULK AT MOST 1048576: true; the input reads as it did. -/
def towerComputesUptoRow : OpenClaim := { program := "ytboicjlbbbodgaagreatdoor", sum := "fcf13921ab59984224ce718e064be35876372f77d5e1e2d1b1091621be7e142d", func := "linkwork/linkworklaw04.TowerComputes", spec := "towerComputes", inPlace := ["internal/abi.NoEscape", "internal/bytealg.MakeNoZero"], recurses := true, named := ["internal/strconv.uint64pow10", "math/bits.deBruijn32tab", "math/bits.deBruijn64tab"], apart := false, laid := [("math/bits.deBruijn32tab", laid_math_bits_deBruijn32tab), ("math/bits.deBruijn64tab", laid_math_bits_deBruijn64tab), ("internal/strconv.uint64pow10", laid_internal_strconv_uint64pow10)], narrowed := true }
def TowerComputesUptoSaid : Prop := towerComputesUptoRow.holds Tryz.pinned (OpenSpec.upto towerComputesSpec)

/-- 'linkworklaw04.TowerSigns', WHERE WHAT IT READS IS OF BULK AT MOST 1048576: true; the input reads as it did. -/
def towerSignsUptoRow : OpenClaim := { program := "ytboicjlbbbodgaagreatdoor", sum := "fcf13921ab59984224ce718e064be35876372f77d5e1e2d1b1091621be7e142d", func := "linkwork/linkworklaw04.TowerSigns", spec := "towerSigns", inPlace := ["internal/abi.NoEscape", "internal/bytealg.MakeNoZero"], recurses := true, named := ["internal/strconv.uint64pow10", "math/bits.deBruijn32tab", "math/bits.deBruijn64tab"], apart := false, laid := [("math/bits.deBruijn32tab", laid_math_bits_deBruijn32tab), ("math/bits.deBruijn64tab", laid_math_bits_deBruijn64tab), ("internal/strconv.uint64pow10", laid_internal_strconv_uint64pow10)], narrowed := true }
def TowerSignsUptoSaid : Prop := towerSignsUptoRow.holds Tryz.pinned (OpenSpec.upto towerSignsSpec)

/-- 'linkworklaw04.TowerChecks', WHERE WHAT IT READS IS OF BULK AT MOST 1048576: true; the input reads as it did. -/
def towerChecksUptoRow : OpenClaim := { program := "ytboicjlbbbodgaagreatdoor", sum := "fcf13921ab59984224ce718e064be35876372f77d5e1e2d1b1091621be7e142d", func := "linkwork/linkworklaw04.TowerChecks", spec := "towerChecks", inPlace := ["internal/abi.NoEscape", "internal/bytealg.MakeNoZero"], recurses := true, named := ["internal/strconv.uint64pow10", "math/bits.deBruijn32tab", "math/bits.deBruijn64tab"], apart := false, laid := [("math/bits.deBruijn32tab", laid_math_bits_deBruijn32tab), ("math/bits.deBruijn64tab", laid_math_bits_deBruijn64tab), ("internal/strconv.uint64pow10", laid_internal_strconv_uint64pow10)], narrowed := true }
def TowerChecksUptoSaid : Prop := towerChecksUptoRow.holds Tryz.pinned (OpenSpec.upto towerChecksSpec)

/-- 'linkworklaw04.TowerEncloses', WHERE WHAT IT READS IS OF BULK AT MOST 1048576: true; the input reads as it did. -/
def towerEnclosesUptoRow : OpenClaim := { program := "ytboicjlbbbodgaagreatdoor", sum := "fcf13921ab59984224ce718e064be35876372f77d5e1e2d1b1091621be7e142d", func := "linkwork/linkworklaw04.TowerEncloses", spec := "towerEncloses", inPlace := ["internal/abi.NoEscape", "internal/bytealg.MakeNoZero"], recurses := true, named := ["internal/strconv.uint64pow10", "math/bits.deBruijn32tab", "math/bits.deBruijn64tab"], apart := false, laid := [("math/bits.deBruijn32tab", laid_math_bits_deBruijn32tab), ("math/bits.deBruijn64tab", laid_math_bits_deBruijn64tab), ("internal/strconv.uint64pow10", laid_internal_strconv_uint64pow10)], narrowed := true }
def TowerEnclosesUptoSaid : Prop := towerEnclosesUptoRow.holds Tryz.pinned (OpenSpec.upto towerEnclosesSpec)

/-- 'linkworklaw04.TowerRoots', WHERE WHAT IT READS IS OF BULK AT MOST 1048576: true; the input reads as it did. -/
def towerRootsUptoRow : OpenClaim := { program := "ytboicjlbbbodgaagreatdoor", sum := "fcf13921ab59984224ce718e064be35876372f77d5e1e2d1b1091621be7e142d", func := "linkwork/linkworklaw04.TowerRoots", spec := "towerRoots", inPlace := ["internal/abi.NoEscape", "internal/bytealg.MakeNoZero"], recurses := true, named := ["internal/strconv.uint64pow10", "math/bits.deBruijn32tab", "math/bits.deBruijn64tab"], apart := false, laid := [("math/bits.deBruijn32tab", laid_math_bits_deBruijn32tab), ("math/bits.deBruijn64tab", laid_math_bits_deBruijn64tab), ("internal/strconv.uint64pow10", laid_internal_strconv_uint64pow10)], narrowed := true }
def TowerRootsUptoSaid : Prop := towerRootsUptoRow.holds Tryz.pinned (OpenSpec.upto towerRootsSpec)

/-- 'linkworklaw04.TowerExtends', WHERE WHAT IT READS IS OF BULK AT MOST 1048576: true; the input reads as it did. -/
def towerExtendsUptoRow : OpenClaim := { program := "ytboicjlbbbodgaagreatdoor", sum := "fcf13921ab59984224ce718e064be35876372f77d5e1e2d1b1091621be7e142d", func := "linkwork/linkworklaw04.TowerExtends", spec := "towerExtends", inPlace := ["internal/abi.NoEscape", "internal/bytealg.MakeNoZero"], recurses := true, named := ["internal/strconv.uint64pow10", "math/bits.deBruijn32tab", "math/bits.deBruijn64tab"], apart := false, laid := [("math/bits.deBruijn32tab", laid_math_bits_deBruijn32tab), ("math/bits.deBruijn64tab", laid_math_bits_deBruijn64tab), ("internal/strconv.uint64pow10", laid_internal_strconv_uint64pow10)], narrowed := true }
def TowerExtendsUptoSaid : Prop := towerExtendsUptoRow.holds Tryz.pinned (OpenSpec.upto towerExtendsSpec)

end Rows
end Go.Proofs.YtboicjlbbbodgaaGreatDoor
