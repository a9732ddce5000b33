/-
  No cell of these rows narrows 'for every input' (looked for: loops, veiled, ifaces, maps, wideKeys, modest, calm, conditions, laid).
  DERIVED. THE GIVEN ROWS OF THIS SEAT. 10 by the template 'for every input the law returns true; each argument reads behind the call as it read before'; 0 by the template 'total and deterministic' (their statements: YtdbdnabpaadigaaGreatTotals.lean).
  GIVEN WITH THE SEED: the statements are not yours to turn. If you find one false, say at which input.
  Laid BY PROGRAM, IN A SANDBOX (cutbox-rows.mjs): the forced cells as the released guide's own fill.sh prints them over the translation 596a1e1bceb18104… (all of the seat's roots in one cut). By AI agents, Wed Nov 11 2026. No macro, syntax, notation, axiom, sorry.
-/
import Derived.Test.YtdbdnabpaadigaaGreatChecked
import GoSem.Claim
import GoSem.ClaimJoined
import GoSem.ClaimMapViews
import Derived.JoinedTies
import Derived.KernelRfl
namespace Go.Proofs.YtdbdnabpaadigaaGreat
/- THE CELL 'sum', in the pinned program and in every row, IS THE sha256 OF THE DUMP (.gsa) THAT YtdbdnabpaadigaaGreatProg.lean LOADS. Nothing in Lean hashes anything: it is a label: what it is worth is what the hold of that sum in a sandbox is worth. -/
noncomputable def Tryz.pinned : Pinned := { name := "ytdbdnabpaadigaagreat", sum := "596a1e1bceb18104bef0b99e7a9e8aa7161dc9846b32d6500d3091974feb9f01", checked := Tryz.checked }
namespace Rows
def none {H : Type} : Left H := { results := [], args := [] }

/-- 'linkworklaw41.TransmissionExtremes': WHATEVER THE INPUT: true; the input reads as it did. -/
def transmissionExtremesSpec : ChangeSpec := { name := "transmissionExtremes", fn := fun _ => fun
  | [d1, d2] => { results := [.lit (.bool true)], args := [d1, d2] }
  | _ => none }
def transmissionExtremesRow : OpenClaim := { program := "ytdbdnabpaadigaagreat", sum := "596a1e1bceb18104bef0b99e7a9e8aa7161dc9846b32d6500d3091974feb9f01", func := "linkwork/linkworklaw41.TransmissionExtremes", spec := "transmissionExtremes", recurses := true, apart := false }
def TransmissionExtremesSaid : Prop := transmissionExtremesRow.holds Tryz.pinned (OpenSpec.ofChange transmissionExtremesSpec)

/-- ITS FALSE NEIGHBOUR: 'it returns false'. Refute it at one input. -/
def transmissionExtremesWrong : ChangeSpec := { name := "transmissionExtremes", fn := fun _ => fun
  | [d1, d2] => { results := [.lit (.bool false)], args := [d1, d2] }
  | _ => none }
def TransmissionExtremesWrongFalsely : Prop := transmissionExtremesRow.holds Tryz.pinned (OpenSpec.ofChange transmissionExtremesWrong)

/-- 'linkworklaw41.TransmissionRight': WHATEVER THE INPUT: true; the input reads as it did. -/
def transmissionRightSpec : ChangeSpec := { name := "transmissionRight", fn := fun _ => fun
  | [d1, d2] => { results := [.lit (.bool true)], args := [d1, d2] }
  | _ => none }
def transmissionRightRow : OpenClaim := { program := "ytdbdnabpaadigaagreat", sum := "596a1e1bceb18104bef0b99e7a9e8aa7161dc9846b32d6500d3091974feb9f01", func := "linkwork/linkworklaw41.TransmissionRight", spec := "transmissionRight", recurses := true, apart := false }
def TransmissionRightSaid : Prop := transmissionRightRow.holds Tryz.pinned (OpenSpec.ofChange transmissionRightSpec)

/-- ITS FALSE NEIGHBOUR: 'it returns false'. Refute it at one input. -/
def transmissionRightWrong : ChangeSpec := { name := "transmissionRight", fn := fun _ => fun
  | [d1, d2] => { results := [.lit (.bool false)], args := [d1, d2] }
  | _ => none }
def TransmissionRightWrongFalsely : Prop := transmissionRightRow.holds Tryz.pinned (OpenSpec.ofChange transmissionRightWrong)

/-- 'linkworklaw35.RotationProofs': WHATEVER THE INPUT: true; the input reads as it did. -/
def rotationProofsSpec : ChangeSpec := { name := "rotationProofs", fn := fun _ => fun
  | [d1, d2] => { results := [.lit (.bool true)], args := [d1, d2] }
  | _ => none }
def rotationProofsRow : OpenClaim := { program := "ytdbdnabpaadigaagreat", sum := "596a1e1bceb18104bef0b99e7a9e8aa7161dc9846b32d6500d3091974feb9f01", func := "linkwork/linkworklaw35.RotationProofs", spec := "rotationProofs", unfollowed := true, recurses := true, apart := false }
def RotationProofsSaid : Prop := rotationProofsRow.holds Tryz.pinned (OpenSpec.ofChange rotationProofsSpec)

/-- ITS FALSE NEIGHBOUR: 'it returns false'. Refute it at one input. -/
def rotationProofsWrong : ChangeSpec := { name := "rotationProofs", fn := fun _ => fun
  | [d1, d2] => { results := [.lit (.bool false)], args := [d1, d2] }
  | _ => none }
def RotationProofsWrongFalsely : Prop := rotationProofsRow.holds Tryz.pinned (OpenSpec.ofChange rotationProofsWrong)

/-- 'linkworklaw41.TransmissionSines': WHATEVER THE INPUT: true; the input reads as it did. -/
def transmissionSinesSpec : ChangeSpec := { name := "transmissionSines", fn := fun _ => fun
  | [d1, d2] => { results := [.lit (.bool true)], args := [d1, d2] }
  | _ => none }
def transmissionSinesRow : OpenClaim := { program := "ytdbdnabpaadigaagreat", sum := "596a1e1bceb18104bef0b99e7a9e8aa7161dc9846b32d6500d3091974feb9f01", func := "linkwork/linkworklaw41.TransmissionSines", spec := "transmissionSines", recurses := true, apart := false }
def TransmissionSinesSaid : Prop := transmissionSinesRow.holds Tryz.pinned (OpenSpec.ofChange transmissionSinesSpec)

/-- ITS FALSE NEIGHBOUR: 'it returns false'. Refute it at one input. -/
def transmissionSinesWrong : ChangeSpec := { name := "transmissionSines", fn := fun _ => fun
  | [d1, d2] => { results := [.lit (.bool false)], args := [d1, d2] }
  | _ => none }
def TransmissionSinesWrongFalsely : Prop := transmissionSinesRow.holds Tryz.pinned (OpenSpec.ofChange transmissionSinesWrong)

/-- 'linkworklaw41.TransmissionUnit': WHATEVER THE INPUT: true; the input reads as it did. -/
def transmissionUnitSpec : ChangeSpec := { name := "transmissionUnit", fn := fun _ => fun
  | [d1, d2] => { results := [.lit (.bool true)], args := [d1, d2] }
  | _ => none }
def transmissionUnitRow : OpenClaim := { program := "ytdbdnabpaadigaagreat", sum := "596a1e1bceb18104bef0b99e7a9e8aa7161dc9846b32d6500d3091974feb9f01", func := "linkwork/linkworklaw41.TransmissionUnit", spec := "transmissionUnit", recurses := true, apart := false }
def TransmissionUnitSaid : Prop := transmissionUnitRow.holds Tryz.pinned (OpenSpec.ofChange transmissionUnitSpec)

/-- ITS FALSE NEIGHBOUR: 'it returns false'. Refute it at one input. -/
def transmissionUnitWrong : ChangeSpec := { name := "transmissionUnit", fn := fun _ => fun
  | [d1, d2] => { results := [.lit (.bool false)], args := [d1, d2] }
  | _ => none }
def TransmissionUnitWrongFalsely : Prop := transmissionUnitRow.holds Tryz.pinned (OpenSpec.ofChange transmissionUnitWrong)

/-- 'linkworklaw41.TransmissionBetween': WHATEVER THE INPUT: true; the input reads as it did. -/
def transmissionBetweenSpec : ChangeSpec := { name := "transmissionBetween", fn := fun _ => fun
  | [d1, d2] => { results := [.lit (.bool true)], args := [d1, d2] }
  | _ => none }
def transmissionBetweenRow : OpenClaim := { program := "ytdbdnabpaadigaagreat", sum := "596a1e1bceb18104bef0b99e7a9e8aa7161dc9846b32d6500d3091974feb9f01", func := "linkwork/linkworklaw41.TransmissionBetween", spec := "transmissionBetween", recurses := true, apart := false }
def TransmissionBetweenSaid : Prop := transmissionBetweenRow.holds Tryz.pinned (OpenSpec.ofChange transmissionBetweenSpec)

/-- ITS FALSE NEIGHBOUR: 'it returns false'. Refute it at one input. -/
def transmissionBetweenWrong : ChangeSpec := { name := "transmissionBetween", fn := fun _ => fun
  | [d1, d2] => { results := [.lit (.bool false)], args := [d1, d2] }
  | _ => none }
def TransmissionBetweenWrongFalsely : Prop := transmissionBetweenRow.holds Tryz.pinned (OpenSpec.ofChange transmissionBetweenWrong)

/-- 'linkworklaw41.TransmissionLeast': WHATEVER THE INPUT: true; the input reads as it did. -/
def transmissionLeastSpec : ChangeSpec := { name := "transmissionLeast", fn := fun _ => fun
  | [d1, d2, d3] => { results := [.lit (.bool true)], args := [d1, d2, d3] }
  | _ => none }
def transmissionLeastRow : OpenClaim := { program := "ytdbdnabpaadigaagreat", sum := "596a1e1bceb18104bef0b99e7a9e8aa7161dc9846b32d6500d3091974feb9f01", func := "linkwork/linkworklaw41.TransmissionLeast", spec := "transmissionLeast", recurses := true, apart := false }
def TransmissionLeastSaid : Prop := transmissionLeastRow.holds Tryz.pinned (OpenSpec.ofChange transmissionLeastSpec)

/-- ITS FALSE NEIGHBOUR: 'it returns false'. Refute it at one input. -/
def transmissionLeastWrong : ChangeSpec := { name := "transmissionLeast", fn := fun _ => fun
  | [d1, d2, d3] => { results := [.lit (.bool false)], args := [d1, d2, d3] }
  | _ => none }
def TransmissionLeastWrongFalsely : Prop := transmissionLeastRow.holds Tryz.pinned (OpenSpec.ofChange transmissionLeastWrong)

/-- 'linkworklaw35.RotationAccepts': WHATEVER THE INPUT: true; the input reads as it did. -/
def rotationAcceptsSpec : ChangeSpec := { name := "rotationAccepts", fn := fun _ => fun
  | [d1, d2, d3] => { results := [.lit (.bool true)], args := [d1, d2, d3] }
  | _ => none }
def rotationAcceptsRow : OpenClaim := { program := "ytdbdnabpaadigaagreat", sum := "596a1e1bceb18104bef0b99e7a9e8aa7161dc9846b32d6500d3091974feb9f01", func := "linkwork/linkworklaw35.RotationAccepts", spec := "rotationAccepts", unfollowed := true, recurses := true, apart := false }
def RotationAcceptsSaid : Prop := rotationAcceptsRow.holds Tryz.pinned (OpenSpec.ofChange rotationAcceptsSpec)

/-- ITS FALSE NEIGHBOUR: 'it returns false'. Refute it at one input. -/
def rotationAcceptsWrong : ChangeSpec := { name := "rotationAccepts", fn := fun _ => fun
  | [d1, d2, d3] => { results := [.lit (.bool false)], args := [d1, d2, d3] }
  | _ => none }
def RotationAcceptsWrongFalsely : Prop := rotationAcceptsRow.holds Tryz.pinned (OpenSpec.ofChange rotationAcceptsWrong)

/-- 'linkworklaw37.CircuitsFull': WHATEVER THE INPUT: true; the input reads as it did. -/
def circuitsFullSpec : ChangeSpec := { name := "circuitsFull", fn := fun _ => fun
  | [d1, d2] => { results := [.lit (.bool true)], args := [d1, d2] }
  | _ => none }
def circuitsFullRow : OpenClaim := { program := "ytdbdnabpaadigaagreat", sum := "596a1e1bceb18104bef0b99e7a9e8aa7161dc9846b32d6500d3091974feb9f01", func := "linkwork/linkworklaw37.CircuitsFull", spec := "circuitsFull", recurses := true, apart := false }
def CircuitsFullSaid : Prop := circuitsFullRow.holds Tryz.pinned (OpenSpec.ofChange circuitsFullSpec)

/-- ITS FALSE NEIGHBOUR: 'it returns false'. Refute it at one input. -/
def circuitsFullWrong : ChangeSpec := { name := "circuitsFull", fn := fun _ => fun
  | [d1, d2] => { results := [.lit (.bool false)], args := [d1, d2] }
  | _ => none }
def CircuitsFullWrongFalsely : Prop := circuitsFullRow.holds Tryz.pinned (OpenSpec.ofChange circuitsFullWrong)

/-- 'linkworklaw41.TransmissionBar': WHATEVER THE INPUT: true; the input reads as it did. -/
def transmissionBarSpec : ChangeSpec := { name := "transmissionBar", fn := fun _ => fun
  | [d1, d2] => { results := [.lit (.bool true)], args := [d1, d2] }
  | _ => none }
def transmissionBarRow : OpenClaim := { program := "ytdbdnabpaadigaagreat", sum := "596a1e1bceb18104bef0b99e7a9e8aa7161dc9846b32d6500d3091974feb9f01", func := "linkwork/linkworklaw41.TransmissionBar", spec := "transmissionBar", recurses := true, apart := false }
def TransmissionBarSaid : Prop := transmissionBarRow.holds Tryz.pinned (OpenSpec.ofChange transmissionBarSpec)

/-- ITS FALSE NEIGHBOUR: 'it returns false'. Refute it at one input. -/
def transmissionBarWrong : ChangeSpec := { name := "transmissionBar", fn := fun _ => fun
  | [d1, d2] => { results := [.lit (.bool false)], args := [d1, d2] }
  | _ => none }
def TransmissionBarWrongFalsely : Prop := transmissionBarRow.holds Tryz.pinned (OpenSpec.ofChange transmissionBarWrong)

/- THE SECOND FORM. 'bulk': how many values and letters a reading holds, each counted each time it is reached (what is shared counts as often as it is met; a slice's spare places count too). A statement '..UptoSaid' is the law's where the arguments, and the package variables that the reading takes, are together of bulk at most 1048576: NARROWER than '..Said'. Prove '..Said' where nothing that the law and all that it calls make is longer than what came in: it says more and counts as full. Else prove '..UptoSaid'. A law counts once. -/
mutual
def uptoBulk {H : Type} : DataW H → Nat
  | .lit (.string bytes) => bytes.length + 1
  | .lit _ => 1
  | .nil => 1
  | .ptr d => uptoBulk d + 1
  | .slice elems spare => uptoBulkAll elems + uptoBulkAll spare + 1
  | .agg parts => uptoBulkAll parts + 1
  | .iface _ d => uptoBulk d + 1
  | .map entries => uptoBulkEntries entries + 1
  | .held _ => 1
def uptoBulkAll {H : Type} : List (DataW H) → Nat
  | [] => 0
  | d :: r => uptoBulk d + uptoBulkAll r
def uptoBulkEntries {H : Type} : List (Lit × DataW H) → Nat
  | [] => 0
  | x :: r => uptoBulkEntry x + uptoBulkEntries r
def uptoBulkEntry {H : Type} : Lit × DataW H → Nat
  | (.string bytes, d) => bytes.length + uptoBulk d + 1
  | (_, d) => uptoBulk d + 1
 end
def uptoSmall : (H : Type) → List (DataW H) → Bool := fun _ ds => decide (uptoBulkAll ds ≤ 1048576)
def OpenSpec.upto (s : _root_.Go.ChangeSpec) : _root_.Go.OpenSpec := { _root_.Go.OpenSpec.ofChange s with cond := some uptoSmall }

/-- 'linkworklaw41.TransmissionExtremes', WHERE WHAT IT READS IS OF BULK AT MOST 1048576: true; the input reads as it did. -/
def transmissionExtremesUptoRow : OpenClaim := { program := "ytdbdnabpaadigaagreat", sum := "596a1e1bceb18104bef0b99e7a9e8aa7161dc9846b32d6500d3091974feb9f01", func := "linkwork/linkworklaw41.TransmissionExtremes", spec := "transmissionExtremes", recurses := true, apart := false, narrowed := true }
def TransmissionExtremesUptoSaid : Prop := transmissionExtremesUptoRow.holds Tryz.pinned (OpenSpec.upto transmissionExtremesSpec)

/-- 'linkworklaw41.TransmissionRight', WHERE WHAT IT READS IS OF BULK AT MOST 1048576: true; the input reads as it did. -/
def transmissionRightUptoRow : OpenClaim := { program := "ytdbdnabpaadigaagreat", sum := "596a1e1bceb18104bef0b99e7a9e8aa7161dc9846b32d6500d3091974feb9f01", func := "linkwork/linkworklaw41.TransmissionRight", spec := "transmissionRight", recurses := true, apart := false, narrowed := true }
def TransmissionRightUptoSaid : Prop := transmissionRightUptoRow.holds Tryz.pinned (OpenSpec.upto transmissionRightSpec)

/-- 'linkworklaw35.RotationProofs', WHERE WHAT IT READS IS OF BULK AT MOST 1048576: true; the input reads as it did. -/
def rotationProofsUptoRow : OpenClaim := { program := "ytdbdnabpaadigaagreat", sum := "596a1e1bceb18104bef0b99e7a9e8aa7161dc9846b32d6500d3091974feb9f01", func := "linkwork/linkworklaw35.RotationProofs", spec := "rotationProofs", unfollowed := true, recurses := true, apart := false, narrowed := true }
def RotationProofsUptoSaid : Prop := rotationProofsUptoRow.holds Tryz.pinned (OpenSpec.upto rotationProofsSpec)

/-- 'linkworklaw41.TransmissionSines', WHERE WHAT IT READS IS OF BULK AT MOST 1048576: true; the input reads as it did. -/
def transmissionSinesUptoRow : OpenClaim := { program := "ytdbdnabpaadigaagreat", sum := "596a1e1bceb18104bef0b99e7a9e8aa7161dc9846b32d6500d3091974feb9f01", func := "linkwork/linkworklaw41.TransmissionSines", spec := "transmissionSines", recurses := true, apart := false, narrowed := true }
def TransmissionSinesUptoSaid : Prop := transmissionSinesUptoRow.holds Tryz.pinned (OpenSpec.upto transmissionSinesSpec)

/-- 'linkworklaw41.TransmissionUnit', WHERE WHAT IT READS IS OF BULK AT MOST 1048576: true; the input reads as it did. -/
def transmissionUnitUptoRow : OpenClaim := { program := "ytdbdnabpaadigaagreat", sum := "596a1e1bceb18104bef0b99e7a9e8aa7161dc9846b32d6500d3091974feb9f01", func := "linkwork/linkworklaw41.TransmissionUnit", spec := "transmissionUnit", recurses := true, apart := false, narrowed := true }
def TransmissionUnitUptoSaid : Prop := transmissionUnitUptoRow.holds Tryz.pinned (OpenSpec.upto transmissionUnitSpec)

/-- 'linkworklaw41.TransmissionBetween', WHERE WHAT IT READS IS OF BULK AT MOST 1048576: true; the input reads as it did. -/
def transmissionBetweenUptoRow : OpenClaim := { program := "ytdbdnabpaadigaagreat", sum := "596a1e1bceb18104bef0b99e7a9e8aa7161dc9846b32d6500d3091974feb9f01", func := "linkwork/linkworklaw41.TransmissionBetween", spec := "transmissionBetween", recurses := true, apart := false, narrowed := true }
def TransmissionBetweenUptoSaid : Prop := transmissionBetweenUptoRow.holds Tryz.pinned (OpenSpec.upto transmissionBetweenSpec)

/-- 'linkworklaw41.TransmissionLeast', WHERE WHAT IT READS IS OF BULK AT MOST 1048576: true; the input reads as it did. -/
def transmissionLeastUptoRow : OpenClaim := { program := "ytdbdnabpaadigaagreat", sum := "596a1e1bceb18104bef0b99e7a9e8aa7161dc9846b32d6500d3091974feb9f01", func := "linkwork/linkworklaw41.TransmissionLeast", spec := "transmissionLeast", recurses := true, apart := false, narrowed := true }
def TransmissionLeastUptoSaid : Prop := transmissionLeastUptoRow.holds Tryz.pinned (OpenSpec.upto transmissionLeastSpec)

/-- 'linkworklaw35.RotationAccepts', WHERE WHAT IT READS IS OF BULK AT MOST 1048576: true; the input reads as it did. -/
def rotationAcceptsUptoRow : OpenClaim := { program := "ytdbdnabpaadigaagreat", sum := "596a1e1bceb18104bef0b99e7a9e8aa7161dc9846b32d6500d3091974feb9f01", func := "linkwork/linkworklaw35.RotationAccepts", spec := "rotationAccepts", unfollowed := true, recurses := true, apart := false, narrowed := true }
def RotationAcceptsUptoSaid : Prop := rotationAcceptsUptoRow.holds Tryz.pinned (OpenSpec.upto rotationAcceptsSpec)

/-- 'linkworklaw37.CircuitsFull', WHERE WHAT IT READS IS OF BULK AT MOST 1048576: true; the input reads as it did. -/
def circuitsFullUptoRow : OpenClaim := { program := "ytdbdnabpaadigaagreat", sum := "596a1e1bceb18104bef0b99e7a9e8aa7161dc9846b32d6500d3091974feb9f01", func := "linkwork/linkworklaw37.CircuitsFull", spec := "circuitsFull", recurses := true, apart := false, narrowed := true }
def CircuitsFullUptoSaid : Prop := circuitsFullUptoRow.holds Tryz.pinned (OpenSpec.upto circuitsFullSpec)

/-- 'linkworklaw41.TransmissionBar', WHERE WHAT IT READS IS OF BULK AT MOST 1048576: true; the input reads as it did. -/
def transmissionBarUptoRow : OpenClaim := { program := "ytdbdnabpaadigaagreat", sum := "596a1e1bceb18104bef0b99e7a9e8aa7161dc9846b32d6500d3091974feb9f01", func := "linkwork/linkworklaw41.TransmissionBar", spec := "transmissionBar", recurses := true, apart := false, narrowed := true }
def TransmissionBarUptoSaid : Prop := transmissionBarUptoRow.holds Tryz.pinned (OpenSpec.upto transmissionBarSpec)

end Rows
end Go.Proofs.YtdbdnabpaadigaaGreat
