/-
  No cell of these rows narrows 'for every input' (looked for: loops, veiled, ifaces, maps, wideKeys, modest, calm, conditions, laid).
  DERIVED. THE GIVEN ROWS OF THIS SEAT. 6 by the template 'for every input the law returns true; each argument reads behind the call as it read before'; 0 by the template 'total and deterministic' (their statements: YtlbdoeliaeennaaGreatTotals.lean).
  GIVEN WITH THE SEED: the statements are not yours to turn. If you find one false, say at which input.
  Laid BY PROGRAM, IN A SANDBOX (cutbox-rows.mjs): the forced cells as the released guide's own fill.sh prints them over the translation 0b1d88ef5c41ac2a… (all of the seat's roots in one cut). By AI agents, Wed Nov 11 2026. No macro, syntax, notation, axiom, sorry.
-/
import Derived.Test.YtlbdoeliaeennaaGreatChecked
import GoSem.Claim
import GoSem.ClaimJoined
import GoSem.ClaimMapViews
import Derived.JoinedTies
import Derived.KernelRfl
namespace Go.Proofs.YtlbdoeliaeennaaGreat
/- THE CELL 'sum', in the pinned program and in every row, IS THE sha256 OF THE DUMP (.gsa) THAT YtlbdoeliaeennaaGreatProg.lean LOADS. Nothing in Lean hashes anything: it is a label: what it is worth is what the hold of that sum in a sandbox is worth. -/
noncomputable def Tryz.pinned : Pinned := { name := "ytlbdoeliaeennaagreat", sum := "0b1d88ef5c41ac2aad081351d0a67124149f98a7f93dd49b9be59097870af918", checked := Tryz.checked }
namespace Rows
def none {H : Type} : Left H := { results := [], args := [] }

/-- 'linkworklaw35.RotationGaps': WHATEVER THE INPUT: true; the input reads as it did. -/
def rotationGapsSpec : ChangeSpec := { name := "rotationGaps", fn := fun _ => fun
  | [d1, d2] => { results := [.lit (.bool true)], args := [d1, d2] }
  | _ => none }
def rotationGapsRow : OpenClaim := { program := "ytlbdoeliaeennaagreat", sum := "0b1d88ef5c41ac2aad081351d0a67124149f98a7f93dd49b9be59097870af918", func := "linkwork/linkworklaw35.RotationGaps", spec := "rotationGaps", recurses := true, apart := false }
def RotationGapsSaid : Prop := rotationGapsRow.holds Tryz.pinned (OpenSpec.ofChange rotationGapsSpec)

/-- ITS FALSE NEIGHBOUR: 'it returns false'. Refute it at one input. -/
def rotationGapsWrong : ChangeSpec := { name := "rotationGaps", fn := fun _ => fun
  | [d1, d2] => { results := [.lit (.bool false)], args := [d1, d2] }
  | _ => none }
def RotationGapsWrongFalsely : Prop := rotationGapsRow.holds Tryz.pinned (OpenSpec.ofChange rotationGapsWrong)

/-- 'linkworklaw35.RotationLimits': WHATEVER THE INPUT: true; the input reads as it did. -/
def rotationLimitsSpec : ChangeSpec := { name := "rotationLimits", fn := fun _ => fun
  | [d] => { results := [.lit (.bool true)], args := [d] }
  | _ => none }
def rotationLimitsRow : OpenClaim := { program := "ytlbdoeliaeennaagreat", sum := "0b1d88ef5c41ac2aad081351d0a67124149f98a7f93dd49b9be59097870af918", func := "linkwork/linkworklaw35.RotationLimits", spec := "rotationLimits", recurses := true, apart := false }
def RotationLimitsSaid : Prop := rotationLimitsRow.holds Tryz.pinned (OpenSpec.ofChange rotationLimitsSpec)

/-- ITS FALSE NEIGHBOUR: 'it returns false'. Refute it at one input. -/
def rotationLimitsWrong : ChangeSpec := { name := "rotationLimits", fn := fun _ => fun
  | [d] => { results := [.lit (.bool false)], args := [d] }
  | _ => none }
def RotationLimitsWrongFalsely : Prop := rotationLimitsRow.holds Tryz.pinned (OpenSpec.ofChange rotationLimitsWrong)

/-- 'linkworklaw35.RotationLengths': WHATEVER THE INPUT: true; the input reads as it did. -/
def rotationLengthsSpec : ChangeSpec := { name := "rotationLengths", fn := fun _ => fun
  | [d1, d2] => { results := [.lit (.bool true)], args := [d1, d2] }
  | _ => none }
def rotationLengthsRow : OpenClaim := { program := "ytlbdoeliaeennaagreat", sum := "0b1d88ef5c41ac2aad081351d0a67124149f98a7f93dd49b9be59097870af918", func := "linkwork/linkworklaw35.RotationLengths", spec := "rotationLengths", recurses := true, apart := false }
def RotationLengthsSaid : Prop := rotationLengthsRow.holds Tryz.pinned (OpenSpec.ofChange rotationLengthsSpec)

/-- ITS FALSE NEIGHBOUR: 'it returns false'. Refute it at one input. -/
def rotationLengthsWrong : ChangeSpec := { name := "rotationLengths", fn := fun _ => fun
  | [d1, d2] => { results := [.lit (.bool false)], args := [d1, d2] }
  | _ => none }
def RotationLengthsWrongFalsely : Prop := rotationLengthsRow.holds Tryz.pinned (OpenSpec.ofChange rotationLengthsWrong)

/-- 'linkworklaw35.RotationProofs': WHATEVER THE INPUT: true; the input reads as it did. -/
def rotationProofsSpec : ChangeSpec := { name := "rotationProofs", fn := fun _ => fun
  | [d1, d2] => { results := [.lit (.bool true)], args := [d1, d2] }
  | _ => none }
def rotationProofsRow : OpenClaim := { program := "ytlbdoeliaeennaagreat", sum := "0b1d88ef5c41ac2aad081351d0a67124149f98a7f93dd49b9be59097870af918", func := "linkwork/linkworklaw35.RotationProofs", spec := "rotationProofs", unfollowed := true, recurses := true, apart := false }
def RotationProofsSaid : Prop := rotationProofsRow.holds Tryz.pinned (OpenSpec.ofChange rotationProofsSpec)

/-- ITS FALSE NEIGHBOUR: 'it returns false'. Refute it at one input. -/
def rotationProofsWrong : ChangeSpec := { name := "rotationProofs", fn := fun _ => fun
  | [d1, d2] => { results := [.lit (.bool false)], args := [d1, d2] }
  | _ => none }
def RotationProofsWrongFalsely : Prop := rotationProofsRow.holds Tryz.pinned (OpenSpec.ofChange rotationProofsWrong)

/-- 'linkworklaw35.RotationGrashof': WHATEVER THE INPUT: true; the input reads as it did. -/
def rotationGrashofSpec : ChangeSpec := { name := "rotationGrashof", fn := fun _ => fun
  | [d] => { results := [.lit (.bool true)], args := [d] }
  | _ => none }
def rotationGrashofRow : OpenClaim := { program := "ytlbdoeliaeennaagreat", sum := "0b1d88ef5c41ac2aad081351d0a67124149f98a7f93dd49b9be59097870af918", func := "linkwork/linkworklaw35.RotationGrashof", spec := "rotationGrashof", recurses := true, apart := false }
def RotationGrashofSaid : Prop := rotationGrashofRow.holds Tryz.pinned (OpenSpec.ofChange rotationGrashofSpec)

/-- ITS FALSE NEIGHBOUR: 'it returns false'. Refute it at one input. -/
def rotationGrashofWrong : ChangeSpec := { name := "rotationGrashof", fn := fun _ => fun
  | [d] => { results := [.lit (.bool false)], args := [d] }
  | _ => none }
def RotationGrashofWrongFalsely : Prop := rotationGrashofRow.holds Tryz.pinned (OpenSpec.ofChange rotationGrashofWrong)

/-- 'linkworklaw35.RotationAccepts': WHATEVER THE INPUT: true; the input reads as it did. -/
def rotationAcceptsSpec : ChangeSpec := { name := "rotationAccepts", fn := fun _ => fun
  | [d1, d2, d3] => { results := [.lit (.bool true)], args := [d1, d2, d3] }
  | _ => none }
def rotationAcceptsRow : OpenClaim := { program := "ytlbdoeliaeennaagreat", sum := "0b1d88ef5c41ac2aad081351d0a67124149f98a7f93dd49b9be59097870af918", func := "linkwork/linkworklaw35.RotationAccepts", spec := "rotationAccepts", unfollowed := true, recurses := true, apart := false }
def RotationAcceptsSaid : Prop := rotationAcceptsRow.holds Tryz.pinned (OpenSpec.ofChange rotationAcceptsSpec)

/-- ITS FALSE NEIGHBOUR: 'it returns false'. Refute it at one input. -/
def rotationAcceptsWrong : ChangeSpec := { name := "rotationAccepts", fn := fun _ => fun
  | [d1, d2, d3] => { results := [.lit (.bool false)], args := [d1, d2, d3] }
  | _ => none }
def RotationAcceptsWrongFalsely : Prop := rotationAcceptsRow.holds Tryz.pinned (OpenSpec.ofChange rotationAcceptsWrong)

/- THE SECOND FORM. 'bulk': how many values and letters a reading holds, each counted each time it is reached (what is shared counts as often as it is met; a slice's spare places count too). A statement '..UptoSaid' is the law's where the arguments, and the package variables that the reading takes, are together of bulk at most 1048576: NARROWER than '..Said'. Prove '..Said' where nothing that the law and all that it calls make is longer than what came in: it says more and counts as full. Else prove '..UptoSaid'. A law counts once. -/
mutual
def uptoBulk {H : Type} : DataW H → Nat
  | .lit (.string bytes) => bytes.length + 1
  | .lit _ => 1
  | .nil => 1
  | .ptr d => uptoBulk d + 1
  | .slice elems spare => uptoBulkAll elems + uptoBulkAll spare + 1
  | .agg parts => uptoBulkAll parts + 1
  | .iface _ d => uptoBulk d + 1
  | .map entries => uptoBulkEntries entries + 1
  | .held _ => 1
def uptoBulkAll {H : Type} : List (DataW H) → Nat
  | [] => 0
  | d :: r => uptoBulk d + uptoBulkAll r
def uptoBulkEntries {H : Type} : List (Lit × DataW H) → Nat
  | [] => 0
  | x :: r => uptoBulkEntry x + uptoBulkEntries r
def uptoBulkEntry {H : Type} : Lit × DataW H → Nat
  | (.string bytes, d) => bytes.length + uptoBulk d + 1
  | (_, d) => uptoBulk d + 1
 end
def uptoSmall : (H : Type) → List (DataW H) → Bool := fun _ ds => decide (uptoBulkAll ds ≤ 1048576)
def OpenSpec.upto (s : _root_.Go.ChangeSpec) : _root_.Go.OpenSpec := { _root_.Go.OpenSpec.ofChange s with cond := some uptoSmall }

/-- 'linkworklaw35.RotationGaps', WHERE WHAT IT READS IS OF BULK AT MOST 1048576: true; the input reads as it did. -/
def rotationGapsUptoRow : OpenClaim := { program := "ytlbdoeliaeennaagreat", sum := "0b1d88ef5c41ac2aad081351d0a67124149f98a7f93dd49b9be59097870af918", func := "linkwork/linkworklaw35.RotationGaps", spec := "rotationGaps", recurses := true, apart := false, narrowed := true }
def RotationGapsUptoSaid : Prop := rotationGapsUptoRow.holds Tryz.pinned (OpenSpec.upto rotationGapsSpec)

/-- 'linkworklaw35.RotationLimits', WHERE WHAT IT READS IS OF BULK AT MOST 1048576: true; the input reads as it did. -/
def rotationLimitsUptoRow : OpenClaim := { program := "ytlbdoeliaeennaagreat", sum := "0b1d88ef5c41ac2aad081351d0a67124149f98a7f93dd49b9be59097870af918", func := "linkwork/linkworklaw35.RotationLimits", spec := "rotationLimits", recurses := true, apart := false, narrowed := true }
def RotationLimitsUptoSaid : Prop := rotationLimitsUptoRow.holds Tryz.pinned (OpenSpec.upto rotationLimitsSpec)

/-- 'linkworklaw35.RotationLengths', WHERE WHAT IT READS IS OF BULK AT MOST 1048576: true; the input reads as it did. -/
def rotationLengthsUptoRow : OpenClaim := { program := "ytlbdoeliaeennaagreat", sum := "0b1d88ef5c41ac2aad081351d0a67124149f98a7f93dd49b9be59097870af918", func := "linkwork/linkworklaw35.RotationLengths", spec := "rotationLengths", recurses := true, apart := false, narrowed := true }
def RotationLengthsUptoSaid : Prop := rotationLengthsUptoRow.holds Tryz.pinned (OpenSpec.upto rotationLengthsSpec)

/-- 'linkworklaw35.RotationProofs', WHERE WHAT IT READS IS OF BULK AT MOST 1048576: true; the input reads as it did. -/
def rotationProofsUptoRow : OpenClaim := { program := "ytlbdoeliaeennaagreat", sum := "0b1d88ef5c41ac2aad081351d0a67124149f98a7f93dd49b9be59097870af918", func := "linkwork/linkworklaw35.RotationProofs", spec := "rotationProofs", unfollowed := true, recurses := true, apart := false, narrowed := true }
def RotationProofsUptoSaid : Prop := rotationProofsUptoRow.holds Tryz.pinned (OpenSpec.upto rotationProofsSpec)

/-- 'linkworklaw35.RotationGrashof', WHERE WHAT IT READS IS OF BULK AT MOST 1048576: true; the input reads as it did. -/
def rotationGrashofUptoRow : OpenClaim := { program := "ytlbdoeliaeennaagreat", sum := "0b1d88ef5c41ac2aad081351d0a67124149f98a7f93dd49b9be59097870af918", func := "linkwork/linkworklaw35.RotationGrashof", spec := "rotationGrashof", recurses := true, apart := false, narrowed := true }
def RotationGrashofUptoSaid : Prop := rotationGrashofUptoRow.holds Tryz.pinned (OpenSpec.upto rotationGrashofSpec)

/-- 'linkworklaw35.RotationAccepts', WHERE WHAT IT READS IS OF BULK AT MOST 1048576: true; the input reads as it did. -/
def rotationAcceptsUptoRow : OpenClaim := { program := "ytlbdoeliaeennaagreat", sum := "0b1d88ef5c41ac2aad081351d0a67124149f98a7f93dd49b9be59097870af918", func := "linkwork/linkworklaw35.RotationAccepts", spec := "rotationAccepts", unfollowed := true, recurses := true, apart := false, narrowed := true }
def RotationAcceptsUptoSaid : Prop := rotationAcceptsUptoRow.holds Tryz.pinned (OpenSpec.upto rotationAcceptsSpec)

end Rows
end Go.Proofs.YtlbdoeliaeennaaGreat
