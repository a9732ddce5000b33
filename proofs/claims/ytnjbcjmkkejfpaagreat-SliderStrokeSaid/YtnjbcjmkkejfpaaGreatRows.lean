/-
  No cell of these rows narrows 'for every input' (looked for: loops, veiled, ifaces, maps, wideKeys, modest, calm, conditions, laid).
  DERIVED. THE GIVEN ROWS OF THIS SEAT. 6 by the template 'for every input the law returns true; each argument reads behind the call as it read before'; 0 by the template 'total and deterministic' (their statements: YtnjbcjmkkejfpaaGreatTotals.lean).
  GIVEN WITH THE SEED: the statements are not yours to turn. If you find one false, say at which input.
  Laid BY PROGRAM, IN A SANDBOX (cutbox-rows.mjs): the forced cells as the released guide's own fill.sh prints them over the translation e4566ae6cf1cd603… (all of the seat's roots in one cut). By AI agents, Wed Nov 11 2026. No macro, syntax, notation, axiom, sorry.
-/
import Derived.Test.YtnjbcjmkkejfpaaGreatChecked
import GoSem.Claim
import GoSem.ClaimJoined
import GoSem.ClaimMapViews
import Derived.JoinedTies
import Derived.KernelRfl
namespace Go.Proofs.YtnjbcjmkkejfpaaGreat
/- THE CELL 'sum', in the pinned program and in every row, IS THE sha256 OF THE DUMP (.gsa) THAT YtnjbcjmkkejfpaaGreatProg.lean LOADS. Nothing in Lean hashes anything: it is a label: what it is worth is what the hold of that sum in a sandbox is worth. -/
noncomputable def Tryz.pinned : Pinned := { name := "ytnjbcjmkkejfpaagreat", sum := "e4566ae6cf1cd603e16c4107e058354dba8df928f8a8a08b9690f49480c60796", checked := Tryz.checked }
namespace Rows
def none {H : Type} : Left H := { results := [], args := [] }

/-- 'linkworklaw40.SliderPositions': WHATEVER THE INPUT: true; the input reads as it did. -/
def sliderPositionsSpec : ChangeSpec := { name := "sliderPositions", fn := fun _ => fun
  | [d1, d2] => { results := [.lit (.bool true)], args := [d1, d2] }
  | _ => none }
def sliderPositionsRow : OpenClaim := { program := "ytnjbcjmkkejfpaagreat", sum := "e4566ae6cf1cd603e16c4107e058354dba8df928f8a8a08b9690f49480c60796", func := "linkwork/linkworklaw40.SliderPositions", spec := "sliderPositions", recurses := true, apart := false }
def SliderPositionsSaid : Prop := sliderPositionsRow.holds Tryz.pinned (OpenSpec.ofChange sliderPositionsSpec)

/-- ITS FALSE NEIGHBOUR: 'it returns false'. Refute it at one input. -/
def sliderPositionsWrong : ChangeSpec := { name := "sliderPositions", fn := fun _ => fun
  | [d1, d2] => { results := [.lit (.bool false)], args := [d1, d2] }
  | _ => none }
def SliderPositionsWrongFalsely : Prop := sliderPositionsRow.holds Tryz.pinned (OpenSpec.ofChange sliderPositionsWrong)

/-- 'linkworklaw40.SliderTurns': WHATEVER THE INPUT: true; the input reads as it did. -/
def sliderTurnsSpec : ChangeSpec := { name := "sliderTurns", fn := fun _ => fun
  | [d1, d2] => { results := [.lit (.bool true)], args := [d1, d2] }
  | _ => none }
def sliderTurnsRow : OpenClaim := { program := "ytnjbcjmkkejfpaagreat", sum := "e4566ae6cf1cd603e16c4107e058354dba8df928f8a8a08b9690f49480c60796", func := "linkwork/linkworklaw40.SliderTurns", spec := "sliderTurns", recurses := true, apart := false }
def SliderTurnsSaid : Prop := sliderTurnsRow.holds Tryz.pinned (OpenSpec.ofChange sliderTurnsSpec)

/-- ITS FALSE NEIGHBOUR: 'it returns false'. Refute it at one input. -/
def sliderTurnsWrong : ChangeSpec := { name := "sliderTurns", fn := fun _ => fun
  | [d1, d2] => { results := [.lit (.bool false)], args := [d1, d2] }
  | _ => none }
def SliderTurnsWrongFalsely : Prop := sliderTurnsRow.holds Tryz.pinned (OpenSpec.ofChange sliderTurnsWrong)

/-- 'linkworklaw40.SliderEnds': WHATEVER THE INPUT: true; the input reads as it did. -/
def sliderEndsSpec : ChangeSpec := { name := "sliderEnds", fn := fun _ => fun
  | [d1, d2, d3] => { results := [.lit (.bool true)], args := [d1, d2, d3] }
  | _ => none }
def sliderEndsRow : OpenClaim := { program := "ytnjbcjmkkejfpaagreat", sum := "e4566ae6cf1cd603e16c4107e058354dba8df928f8a8a08b9690f49480c60796", func := "linkwork/linkworklaw40.SliderEnds", spec := "sliderEnds", recurses := true, apart := false }
def SliderEndsSaid : Prop := sliderEndsRow.holds Tryz.pinned (OpenSpec.ofChange sliderEndsSpec)

/-- ITS FALSE NEIGHBOUR: 'it returns false'. Refute it at one input. -/
def sliderEndsWrong : ChangeSpec := { name := "sliderEnds", fn := fun _ => fun
  | [d1, d2, d3] => { results := [.lit (.bool false)], args := [d1, d2, d3] }
  | _ => none }
def SliderEndsWrongFalsely : Prop := sliderEndsRow.holds Tryz.pinned (OpenSpec.ofChange sliderEndsWrong)

/-- 'linkworklaw40.SliderRational': WHATEVER THE INPUT: true; the input reads as it did. -/
def sliderRationalSpec : ChangeSpec := { name := "sliderRational", fn := fun _ => fun
  | [d1, d2, d3] => { results := [.lit (.bool true)], args := [d1, d2, d3] }
  | _ => none }
def sliderRationalRow : OpenClaim := { program := "ytnjbcjmkkejfpaagreat", sum := "e4566ae6cf1cd603e16c4107e058354dba8df928f8a8a08b9690f49480c60796", func := "linkwork/linkworklaw40.SliderRational", spec := "sliderRational", recurses := true, apart := false }
def SliderRationalSaid : Prop := sliderRationalRow.holds Tryz.pinned (OpenSpec.ofChange sliderRationalSpec)

/-- ITS FALSE NEIGHBOUR: 'it returns false'. Refute it at one input. -/
def sliderRationalWrong : ChangeSpec := { name := "sliderRational", fn := fun _ => fun
  | [d1, d2, d3] => { results := [.lit (.bool false)], args := [d1, d2, d3] }
  | _ => none }
def SliderRationalWrongFalsely : Prop := sliderRationalRow.holds Tryz.pinned (OpenSpec.ofChange sliderRationalWrong)

/-- 'linkworklaw40.SliderDistances': WHATEVER THE INPUT: true; the input reads as it did. -/
def sliderDistancesSpec : ChangeSpec := { name := "sliderDistances", fn := fun _ => fun
  | [d1, d2] => { results := [.lit (.bool true)], args := [d1, d2] }
  | _ => none }
def sliderDistancesRow : OpenClaim := { program := "ytnjbcjmkkejfpaagreat", sum := "e4566ae6cf1cd603e16c4107e058354dba8df928f8a8a08b9690f49480c60796", func := "linkwork/linkworklaw40.SliderDistances", spec := "sliderDistances", recurses := true, apart := false }
def SliderDistancesSaid : Prop := sliderDistancesRow.holds Tryz.pinned (OpenSpec.ofChange sliderDistancesSpec)

/-- ITS FALSE NEIGHBOUR: 'it returns false'. Refute it at one input. -/
def sliderDistancesWrong : ChangeSpec := { name := "sliderDistances", fn := fun _ => fun
  | [d1, d2] => { results := [.lit (.bool false)], args := [d1, d2] }
  | _ => none }
def SliderDistancesWrongFalsely : Prop := sliderDistancesRow.holds Tryz.pinned (OpenSpec.ofChange sliderDistancesWrong)

/-- 'linkworklaw40.SliderStroke': WHATEVER THE INPUT: true; the input reads as it did. -/
def sliderStrokeSpec : ChangeSpec := { name := "sliderStroke", fn := fun _ => fun
  | [d1, d2] => { results := [.lit (.bool true)], args := [d1, d2] }
  | _ => none }
def sliderStrokeRow : OpenClaim := { program := "ytnjbcjmkkejfpaagreat", sum := "e4566ae6cf1cd603e16c4107e058354dba8df928f8a8a08b9690f49480c60796", func := "linkwork/linkworklaw40.SliderStroke", spec := "sliderStroke", recurses := true, apart := false }
def SliderStrokeSaid : Prop := sliderStrokeRow.holds Tryz.pinned (OpenSpec.ofChange sliderStrokeSpec)

/-- ITS FALSE NEIGHBOUR: 'it returns false'. Refute it at one input. -/
def sliderStrokeWrong : ChangeSpec := { name := "sliderStroke", fn := fun _ => fun
  | [d1, d2] => { results := [.lit (.bool false)], args := [d1, d2] }
  | _ => none }
def SliderStrokeWrongFalsely : Prop := sliderStrokeRow.holds Tryz.pinned (OpenSpec.ofChange sliderStrokeWrong)

/- THE SECOND FORM. 'bulk': how many values and letters a reading holds, each counted each time it is reached (what is shared counts as often as it is met; a slice's spare places count too). A statement '..UptoSaid' is the law's where the arguments, and the package variables that the reading takes, are together of bulk at most 1048576: NARROWER than '..Said'. Prove '..Said' where nothing that the law and all that it calls make is longer than what came in: it says more and counts as full. Else prove '..UptoSaid'. A law counts once. -/
mutual
def uptoBulk {H : Type} : DataW H → Nat
  | .lit (.string bytes) => bytes.length + 1
  | .lit _ => 1
  | .nil => 1
  | .ptr d => uptoBulk d + 1
  | .slice elems spare => uptoBulkAll elems + uptoBulkAll spare + 1
  | .agg parts => uptoBulkAll parts + 1
  | .iface _ d => uptoBulk d + 1
  | .map entries => uptoBulkEntries entries + 1
  | .held _ => 1
def uptoBulkAll {H : Type} : List (DataW H) → Nat
  | [] => 0
  | d :: r => uptoBulk d + uptoBulkAll r
def uptoBulkEntries {H : Type} : List (Lit × DataW H) → Nat
  | [] => 0
  | x :: r => uptoBulkEntry x + uptoBulkEntries r
def uptoBulkEntry {H : Type} : Lit × DataW H → Nat
  | (.string bytes, d) => bytes.length + uptoBulk d + 1
  | (_, d) => uptoBulk d + 1
 end
def uptoSmall : (H : Type) → List (DataW H) → Bool := fun _ ds => decide (uptoBulkAll ds ≤ 1048576)
def OpenSpec.upto (s : _root_.Go.ChangeSpec) : _root_.Go.OpenSpec := { _root_.Go.OpenSpec.ofChange s with cond := some uptoSmall }

/-- 'linkworklaw40.SliderPositions', WHERE WHAT IT READS IS OF BULK AT MOST 1048576: true; the input reads as it did. -/
def sliderPositionsUptoRow : OpenClaim := { program := "ytnjbcjmkkejfpaagreat", sum := "e4566ae6cf1cd603e16c4107e058354dba8df928f8a8a08b9690f49480c60796", func := "linkwork/linkworklaw40.SliderPositions", spec := "sliderPositions", recurses := true, apart := false, narrowed := true }
def SliderPositionsUptoSaid : Prop := sliderPositionsUptoRow.holds Tryz.pinned (OpenSpec.upto sliderPositionsSpec)

/-- 'linkworklaw40.SliderTurns', WHERE WHAT IT READS IS OF BULK AT MOST 1048576: true; the input reads as it did. -/
def sliderTurnsUptoRow : OpenClaim := { program := "ytnjbcjmkkejfpaagreat", sum := "e4566ae6cf1cd603e16c4107e058354dba8df928f8a8a08b9690f49480c60796", func := "linkwork/linkworklaw40.SliderTurns", spec := "sliderTurns", recurses := true, apart := false, narrowed := true }
def SliderTurnsUptoSaid : Prop := sliderTurnsUptoRow.holds Tryz.pinned (OpenSpec.upto sliderTurnsSpec)

/-- 'linkworklaw40.SliderEnds', WHERE WHAT IT READS IS OF BULK AT MOST 1048576: true; the input reads as it did. -/
def sliderEndsUptoRow : OpenClaim := { program := "ytnjbcjmkkejfpaagreat", sum := "e4566ae6cf1cd603e16c4107e058354dba8df928f8a8a08b9690f49480c60796", func := "linkwork/linkworklaw40.SliderEnds", spec := "sliderEnds", recurses := true, apart := false, narrowed := true }
def SliderEndsUptoSaid : Prop := sliderEndsUptoRow.holds Tryz.pinned (OpenSpec.upto sliderEndsSpec)

/-- 'linkworklaw40.SliderRational', WHERE WHAT IT READS IS OF BULK AT MOST 1048576: true; the input reads as it did. -/
def sliderRationalUptoRow : OpenClaim := { program := "ytnjbcjmkkejfpaagreat", sum := "e4566ae6cf1cd603e16c4107e058354dba8df928f8a8a08b9690f49480c60796", func := "linkwork/linkworklaw40.SliderRational", spec := "sliderRational", recurses := true, apart := false, narrowed := true }
def SliderRationalUptoSaid : Prop := sliderRationalUptoRow.holds Tryz.pinned (OpenSpec.upto sliderRationalSpec)

/-- 'linkworklaw40.SliderDistances', WHERE WHAT IT READS IS OF BULK AT MOST 1048576: true; the input reads as it did. -/
def sliderDistancesUptoRow : OpenClaim := { program := "ytnjbcjmkkejfpaagreat", sum := "e4566ae6cf1cd603e16c4107e058354dba8df928f8a8a08b9690f49480c60796", func := "linkwork/linkworklaw40.SliderDistances", spec := "sliderDistances", recurses := true, apart := false, narrowed := true }
def SliderDistancesUptoSaid : Prop := sliderDistancesUptoRow.holds Tryz.pinned (OpenSpec.upto sliderDistancesSpec)

/-- 'linkworklaw40.SliderStroke', WHERE WHAT IT READS IS OF BULK AT MOST 1048576: true; the input reads as it did. -/
def sliderStrokeUptoRow : OpenClaim := { program := "ytnjbcjmkkejfpaagreat", sum := "e4566ae6cf1cd603e16c4107e058354dba8df928f8a8a08b9690f49480c60796", func := "linkwork/linkworklaw40.SliderStroke", spec := "sliderStroke", recurses := true, apart := false, narrowed := true }
def SliderStrokeUptoSaid : Prop := sliderStrokeUptoRow.holds Tryz.pinned (OpenSpec.upto sliderStrokeSpec)

end Rows
end Go.Proofs.YtnjbcjmkkejfpaaGreat
