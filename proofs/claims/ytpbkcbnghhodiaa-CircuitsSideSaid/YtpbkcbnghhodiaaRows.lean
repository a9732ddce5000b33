/-
  No cell of these rows narrows 'for every input' (looked for: loops, veiled, ifaces, maps, wideKeys, modest, calm, conditions, laid).
  DERIVED. THE GIVEN ROWS OF THIS SEAT. 3 by the template 'for every input the law returns true; each argument reads behind the call as it read before'; 0 by the template 'total and deterministic' (their statements: YtpbkcbnghhodiaaTotals.lean).
  GIVEN WITH THE SEED: the statements are not yours to turn. If you find one false, say at which input.
  Laid BY PROGRAM, IN A SANDBOX (cutbox-rows.mjs): the forced cells as the released guide's own fill.sh prints them over the translation 9afbf5af24e2c272… (all of the seat's roots in one cut). By AI agents, Wed Nov 11 2026. No macro, syntax, notation, axiom, sorry.
-/
import Derived.Test.YtpbkcbnghhodiaaChecked
import GoSem.Claim
import GoSem.ClaimJoined
import GoSem.ClaimMapViews
import Derived.JoinedTies
import Derived.KernelRfl
namespace Go.Proofs.Ytpbkcbnghhodiaa
/- THE CELL 'sum', in the pinned program and in every row, IS THE sha256 OF THE DUMP (.gsa) THAT YtpbkcbnghhodiaaProg.lean LOADS. Nothing in Lean hashes anything: it is a label: what it is worth is what the hold of that sum in a sandbox is worth. -/
noncomputable def Try.pinned : Pinned := { name := "ytpbkcbnghhodiaa", sum := "9afbf5af24e2c2722aa7b7dd068552b81ce320249bec30353180a824c4a6169a", checked := Try.checked }
namespace Rows
def none {H : Type} : Left H := { results := [], args := [] }

/-- 'linkworklaw37.CircuitsMirror': WHATEVER THE INPUT: true; the input reads as it did. -/
def circuitsMirrorSpec : ChangeSpec := { name := "circuitsMirror", fn := fun _ => fun
  | [d1, d2] => { results := [.lit (.bool true)], args := [d1, d2] }
  | _ => none }
def circuitsMirrorRow : OpenClaim := { program := "ytpbkcbnghhodiaa", sum := "9afbf5af24e2c2722aa7b7dd068552b81ce320249bec30353180a824c4a6169a", func := "linkwork/linkworklaw37.CircuitsMirror", spec := "circuitsMirror", apart := false }
def CircuitsMirrorSaid : Prop := circuitsMirrorRow.holds Try.pinned (OpenSpec.ofChange circuitsMirrorSpec)

/-- ITS FALSE NEIGHBOUR: 'it returns false'. Refute it at one input. -/
def circuitsMirrorWrong : ChangeSpec := { name := "circuitsMirror", fn := fun _ => fun
  | [d1, d2] => { results := [.lit (.bool false)], args := [d1, d2] }
  | _ => none }
def CircuitsMirrorWrongFalsely : Prop := circuitsMirrorRow.holds Try.pinned (OpenSpec.ofChange circuitsMirrorWrong)

/-- 'linkworklaw37.CircuitsSide': WHATEVER THE INPUT: true; the input reads as it did. -/
def circuitsSideSpec : ChangeSpec := { name := "circuitsSide", fn := fun _ => fun
  | [d] => { results := [.lit (.bool true)], args := [d] }
  | _ => none }
def circuitsSideRow : OpenClaim := { program := "ytpbkcbnghhodiaa", sum := "9afbf5af24e2c2722aa7b7dd068552b81ce320249bec30353180a824c4a6169a", func := "linkwork/linkworklaw37.CircuitsSide", spec := "circuitsSide", apart := false }
def CircuitsSideSaid : Prop := circuitsSideRow.holds Try.pinned (OpenSpec.ofChange circuitsSideSpec)

/-- ITS FALSE NEIGHBOUR: 'it returns false'. Refute it at one input. -/
def circuitsSideWrong : ChangeSpec := { name := "circuitsSide", fn := fun _ => fun
  | [d] => { results := [.lit (.bool false)], args := [d] }
  | _ => none }
def CircuitsSideWrongFalsely : Prop := circuitsSideRow.holds Try.pinned (OpenSpec.ofChange circuitsSideWrong)

/-- 'linkworklaw37.CircuitsEquivalence': WHATEVER THE INPUT: true; the input reads as it did. -/
def circuitsEquivalenceSpec : ChangeSpec := { name := "circuitsEquivalence", fn := fun _ => fun
  | [d1, d2] => { results := [.lit (.bool true)], args := [d1, d2] }
  | _ => none }
def circuitsEquivalenceRow : OpenClaim := { program := "ytpbkcbnghhodiaa", sum := "9afbf5af24e2c2722aa7b7dd068552b81ce320249bec30353180a824c4a6169a", func := "linkwork/linkworklaw37.CircuitsEquivalence", spec := "circuitsEquivalence", apart := false }
def CircuitsEquivalenceSaid : Prop := circuitsEquivalenceRow.holds Try.pinned (OpenSpec.ofChange circuitsEquivalenceSpec)

/-- ITS FALSE NEIGHBOUR: 'it returns false'. Refute it at one input. -/
def circuitsEquivalenceWrong : ChangeSpec := { name := "circuitsEquivalence", fn := fun _ => fun
  | [d1, d2] => { results := [.lit (.bool false)], args := [d1, d2] }
  | _ => none }
def CircuitsEquivalenceWrongFalsely : Prop := circuitsEquivalenceRow.holds Try.pinned (OpenSpec.ofChange circuitsEquivalenceWrong)

/- THE SECOND FORM. 'bulk': how many values and letters a reading holds, each counted each time it is reached (what is shared counts as often as it is met; a slice's spare places count too). A statement '..UptoSaid' is the law's where the arguments, and the package variables that the reading takes, are together of bulk at most 1048576: NARROWER than '..Said'. Prove '..Said' where nothing that the law and all that it calls make is longer than what came in: it says more and counts as full. Else prove '..UptoSaid'. A law counts once. -/
mutual
def uptoBulk {H : Type} : DataW H → Nat
  | .lit (.string bytes) => bytes.length + 1
  | .lit _ => 1
  | .nil => 1
  | .ptr d => uptoBulk d + 1
  | .slice elems spare => uptoBulkAll elems + uptoBulkAll spare + 1
  | .agg parts => uptoBulkAll parts + 1
  | .iface _ d => uptoBulk d + 1
  | .map entries => uptoBulkEntries entries + 1
  | .held _ => 1
def uptoBulkAll {H : Type} : List (DataW H) → Nat
  | [] => 0
  | d :: r => uptoBulk d + uptoBulkAll r
def uptoBulkEntries {H : Type} : List (Lit × DataW H) → Nat
  | [] => 0
  | x :: r => uptoBulkEntry x + uptoBulkEntries r
def uptoBulkEntry {H : Type} : Lit × DataW H → Nat
  | (.string bytes, d) => bytes.length + uptoBulk d + 1
  | (_, d) => uptoBulk d + 1
 end
def uptoSmall : (H : Type) → List (DataW H) → Bool := fun _ ds => decide (uptoBulkAll ds ≤ 1048576)
def OpenSpec.upto (s : _root_.Go.ChangeSpec) : _root_.Go.OpenSpec := { _root_.Go.OpenSpec.ofChange s with cond := some uptoSmall }

/-- 'linkworklaw37.CircuitsMirror', WHERE WHAT IT READS IS OF BULK AT MOST 1048576: true; the input reads as it did. -/
def circuitsMirrorUptoRow : OpenClaim := { program := "ytpbkcbnghhodiaa", sum := "9afbf5af24e2c2722aa7b7dd068552b81ce320249bec30353180a824c4a6169a", func := "linkwork/linkworklaw37.CircuitsMirror", spec := "circuitsMirror", apart := false, narrowed := true }
def CircuitsMirrorUptoSaid : Prop := circuitsMirrorUptoRow.holds Try.pinned (OpenSpec.upto circuitsMirrorSpec)

/-- 'linkworklaw37.CircuitsSide', WHERE WHAT IT READS IS OF BULK AT MOST 1048576: true; the input reads as it did. -/
def circuitsSideUptoRow : OpenClaim := { program := "ytpbkcbnghhodiaa", sum := "9afbf5af24e2c2722aa7b7dd068552b81ce320249bec30353180a824c4a6169a", func := "linkwork/linkworklaw37.CircuitsSide", spec := "circuitsSide", apart := false, narrowed := true }
def CircuitsSideUptoSaid : Prop := circuitsSideUptoRow.holds Try.pinned (OpenSpec.upto circuitsSideSpec)

/-- 'linkworklaw37.CircuitsEquivalence', WHERE WHAT IT READS IS OF BULK AT MOST 1048576: true; the input reads as it did. -/
def circuitsEquivalenceUptoRow : OpenClaim := { program := "ytpbkcbnghhodiaa", sum := "9afbf5af24e2c2722aa7b7dd068552b81ce320249bec30353180a824c4a6169a", func := "linkwork/linkworklaw37.CircuitsEquivalence", spec := "circuitsEquivalence", apart := false, narrowed := true }
def CircuitsEquivalenceUptoSaid : Prop := circuitsEquivalenceUptoRow.holds Try.pinned (OpenSpec.upto circuitsEquivalenceSpec)

end Rows
end Go.Proofs.Ytpbkcbnghhodiaa
