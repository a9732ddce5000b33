/-
  No cell of these rows narrows 'for every input' (looked for: loops, veiled, ifaces, maps, wideKeys, modest, calm, conditions, laid).
  DERIVED. THE GIVEN ROWS OF THIS SEAT. 6 by the template 'for every input the law returns true; each argument reads behind the call as it read before'; 0 by the template 'total and deterministic' (their statements: YtdeihehaheelmaaTotals.lean).
  GIVEN WITH THE SEED: the statements are not yours to turn. If you find one false, say at which input.
  Laid BY PROGRAM, IN A SANDBOX (cutbox-rows.mjs): the forced cells as the released guide's own fill.sh prints them over the translation a8aebd256a8f3ca8… (all of the seat's roots in one cut). By AI agents, Wed Nov 11 2026. No macro, syntax, notation, axiom, sorry.
-/
import Derived.Test.YtdeihehaheelmaaChecked
import GoSem.Claim
import GoSem.ClaimJoined
import GoSem.ClaimMapViews
import Derived.JoinedTies
import Derived.KernelRfl
namespace Go.Proofs.Ytdeihehaheelmaa
/- THE CELL 'sum', in the pinned program and in every row, IS THE sha256 OF THE DUMP (.gsa) THAT YtdeihehaheelmaaProg.lean LOADS. Nothing in Lean hashes anything: it is a label: what it is worth is what the hold of that sum in a sandbox is worth. -/
noncomputable def Try.pinned : Pinned := { name := "ytdeihehaheelmaa", sum := "a8aebd256a8f3ca81ca0245d9c3d0923c80f14cfb72683ddebedf91760e6b505", checked := Try.checked }
namespace Rows
def none {H : Type} : Left H := { results := [], args := [] }

/-- 'linkworklaw34.GrashofCompares': WHATEVER THE INPUT: true; the input reads as it did. -/
def grashofComparesSpec : ChangeSpec := { name := "grashofCompares", fn := fun _ => fun
  | [d1, d2] => { results := [.lit (.bool true)], args := [d1, d2] }
  | _ => none }
def grashofComparesRow : OpenClaim := { program := "ytdeihehaheelmaa", sum := "a8aebd256a8f3ca81ca0245d9c3d0923c80f14cfb72683ddebedf91760e6b505", func := "linkwork/linkworklaw34.GrashofCompares", spec := "grashofCompares", apart := false }
def GrashofComparesSaid : Prop := grashofComparesRow.holds Try.pinned (OpenSpec.ofChange grashofComparesSpec)

/-- ITS FALSE NEIGHBOUR: 'it returns false'. Refute it at one input. -/
def grashofComparesWrong : ChangeSpec := { name := "grashofCompares", fn := fun _ => fun
  | [d1, d2] => { results := [.lit (.bool false)], args := [d1, d2] }
  | _ => none }
def GrashofComparesWrongFalsely : Prop := grashofComparesRow.holds Try.pinned (OpenSpec.ofChange grashofComparesWrong)

/-- 'linkworklaw34.GrashofScales': WHATEVER THE INPUT: true; the input reads as it did. -/
def grashofScalesSpec : ChangeSpec := { name := "grashofScales", fn := fun _ => fun
  | [d1, d2] => { results := [.lit (.bool true)], args := [d1, d2] }
  | _ => none }
def grashofScalesRow : OpenClaim := { program := "ytdeihehaheelmaa", sum := "a8aebd256a8f3ca81ca0245d9c3d0923c80f14cfb72683ddebedf91760e6b505", func := "linkwork/linkworklaw34.GrashofScales", spec := "grashofScales", apart := false }
def GrashofScalesSaid : Prop := grashofScalesRow.holds Try.pinned (OpenSpec.ofChange grashofScalesSpec)

/-- ITS FALSE NEIGHBOUR: 'it returns false'. Refute it at one input. -/
def grashofScalesWrong : ChangeSpec := { name := "grashofScales", fn := fun _ => fun
  | [d1, d2] => { results := [.lit (.bool false)], args := [d1, d2] }
  | _ => none }
def GrashofScalesWrongFalsely : Prop := grashofScalesRow.holds Try.pinned (OpenSpec.ofChange grashofScalesWrong)

/-- 'linkworklaw34.GrashofOrder': WHATEVER THE INPUT: true; the input reads as it did. -/
def grashofOrderSpec : ChangeSpec := { name := "grashofOrder", fn := fun _ => fun
  | [d1, d2, d3] => { results := [.lit (.bool true)], args := [d1, d2, d3] }
  | _ => none }
def grashofOrderRow : OpenClaim := { program := "ytdeihehaheelmaa", sum := "a8aebd256a8f3ca81ca0245d9c3d0923c80f14cfb72683ddebedf91760e6b505", func := "linkwork/linkworklaw34.GrashofOrder", spec := "grashofOrder", apart := false }
def GrashofOrderSaid : Prop := grashofOrderRow.holds Try.pinned (OpenSpec.ofChange grashofOrderSpec)

/-- ITS FALSE NEIGHBOUR: 'it returns false'. Refute it at one input. -/
def grashofOrderWrong : ChangeSpec := { name := "grashofOrder", fn := fun _ => fun
  | [d1, d2, d3] => { results := [.lit (.bool false)], args := [d1, d2, d3] }
  | _ => none }
def GrashofOrderWrongFalsely : Prop := grashofOrderRow.holds Try.pinned (OpenSpec.ofChange grashofOrderWrong)

/-- 'linkworklaw34.GrashofShortest': WHATEVER THE INPUT: true; the input reads as it did. -/
def grashofShortestSpec : ChangeSpec := { name := "grashofShortest", fn := fun _ => fun
  | [d] => { results := [.lit (.bool true)], args := [d] }
  | _ => none }
def grashofShortestRow : OpenClaim := { program := "ytdeihehaheelmaa", sum := "a8aebd256a8f3ca81ca0245d9c3d0923c80f14cfb72683ddebedf91760e6b505", func := "linkwork/linkworklaw34.GrashofShortest", spec := "grashofShortest", apart := false }
def GrashofShortestSaid : Prop := grashofShortestRow.holds Try.pinned (OpenSpec.ofChange grashofShortestSpec)

/-- ITS FALSE NEIGHBOUR: 'it returns false'. Refute it at one input. -/
def grashofShortestWrong : ChangeSpec := { name := "grashofShortest", fn := fun _ => fun
  | [d] => { results := [.lit (.bool false)], args := [d] }
  | _ => none }
def GrashofShortestWrongFalsely : Prop := grashofShortestRow.holds Try.pinned (OpenSpec.ofChange grashofShortestWrong)

/-- 'linkworklaw34.GrashofLengths': WHATEVER THE INPUT: true; the input reads as it did. -/
def grashofLengthsSpec : ChangeSpec := { name := "grashofLengths", fn := fun _ => fun
  | [d] => { results := [.lit (.bool true)], args := [d] }
  | _ => none }
def grashofLengthsRow : OpenClaim := { program := "ytdeihehaheelmaa", sum := "a8aebd256a8f3ca81ca0245d9c3d0923c80f14cfb72683ddebedf91760e6b505", func := "linkwork/linkworklaw34.GrashofLengths", spec := "grashofLengths", apart := false }
def GrashofLengthsSaid : Prop := grashofLengthsRow.holds Try.pinned (OpenSpec.ofChange grashofLengthsSpec)

/-- ITS FALSE NEIGHBOUR: 'it returns false'. Refute it at one input. -/
def grashofLengthsWrong : ChangeSpec := { name := "grashofLengths", fn := fun _ => fun
  | [d] => { results := [.lit (.bool false)], args := [d] }
  | _ => none }
def GrashofLengthsWrongFalsely : Prop := grashofLengthsRow.holds Try.pinned (OpenSpec.ofChange grashofLengthsWrong)

/-- 'linkworklaw34.GrashofInverts': WHATEVER THE INPUT: true; the input reads as it did. -/
def grashofInvertsSpec : ChangeSpec := { name := "grashofInverts", fn := fun _ => fun
  | [d1, d2] => { results := [.lit (.bool true)], args := [d1, d2] }
  | _ => none }
def grashofInvertsRow : OpenClaim := { program := "ytdeihehaheelmaa", sum := "a8aebd256a8f3ca81ca0245d9c3d0923c80f14cfb72683ddebedf91760e6b505", func := "linkwork/linkworklaw34.GrashofInverts", spec := "grashofInverts", apart := false }
def GrashofInvertsSaid : Prop := grashofInvertsRow.holds Try.pinned (OpenSpec.ofChange grashofInvertsSpec)

/-- ITS FALSE NEIGHBOUR: 'it returns false'. Refute it at one input. -/
def grashofInvertsWrong : ChangeSpec := { name := "grashofInverts", fn := fun _ => fun
  | [d1, d2] => { results := [.lit (.bool false)], args := [d1, d2] }
  | _ => none }
def GrashofInvertsWrongFalsely : Prop := grashofInvertsRow.holds Try.pinned (OpenSpec.ofChange grashofInvertsWrong)

/- THE SECOND FORM. 'bulk': how many values and letters a reading holds, each counted each time it is reached (what is shared counts as often as it is met; a slice's spare places count too). A statement '..UptoSaid' is the law's where the arguments, and the package variables that the reading takes, are together of bulk at most 1048576: NARROWER than '..Said'. Prove '..Said' where nothing that the law and all that it calls make is longer than what came in: it says more and counts as full. Else prove '..UptoSaid'. A law counts once. -/
mutual
def uptoBulk {H : Type} : DataW H → Nat
  | .lit (.string bytes) => bytes.length + 1
  | .lit _ => 1
  | .nil => 1
  | .ptr d => uptoBulk d + 1
  | .slice elems spare => uptoBulkAll elems + uptoBulkAll spare + 1
  | .agg parts => uptoBulkAll parts + 1
  | .iface _ d => uptoBulk d + 1
  | .map entries => uptoBulkEntries entries + 1
  | .held _ => 1
def uptoBulkAll {H : Type} : List (DataW H) → Nat
  | [] => 0
  | d :: r => uptoBulk d + uptoBulkAll r
def uptoBulkEntries {H : Type} : List (Lit × DataW H) → Nat
  | [] => 0
  | x :: r => uptoBulkEntry x + uptoBulkEntries r
def uptoBulkEntry {H : Type} : Lit × DataW H → Nat
  | (.string bytes, d) => bytes.length + uptoBulk d + 1
  | (_, d) => uptoBulk d + 1
 end
def uptoSmall : (H : Type) → List (DataW H) → Bool := fun _ ds => decide (uptoBulkAll ds ≤ 1048576)
def OpenSpec.upto (s : _root_.Go.ChangeSpec) : _root_.Go.OpenSpec := { _root_.Go.OpenSpec.ofChange s with cond := some uptoSmall }

/-- 'linkworklaw34.GrashofCompares', WHERE WHAT IT READS IS OF BULK AT MOST 1048576: true; the input reads as it did. -/
def grashofComparesUptoRow : OpenClaim := { program := "ytdeihehaheelmaa", sum := "a8aebd256a8f3ca81ca0245d9c3d0923c80f14cfb72683ddebedf91760e6b505", func := "linkwork/linkworklaw34.GrashofCompares", spec := "grashofCompares", apart := false, narrowed := true }
def GrashofComparesUptoSaid : Prop := grashofComparesUptoRow.holds Try.pinned (OpenSpec.upto grashofComparesSpec)

/-- 'linkworklaw34.GrashofScales', WHERE WHAT IT READS IS OF BULK AT MOST 1048576: true; the input reads as it did. -/
def grashofScalesUptoRow : OpenClaim := { program := "ytdeihehaheelmaa", sum := "a8aebd256a8f3ca81ca0245d9c3d0923c80f14cfb72683ddebedf91760e6b505", func := "linkwork/linkworklaw34.GrashofScales", spec := "grashofScales", apart := false, narrowed := true }
def GrashofScalesUptoSaid : Prop := grashofScalesUptoRow.holds Try.pinned (OpenSpec.upto grashofScalesSpec)

/-- 'linkworklaw34.GrashofOrder', WHERE WHAT IT READS IS OF BULK AT MOST 1048576: true; the input reads as it did. -/
def grashofOrderUptoRow : OpenClaim := { program := "ytdeihehaheelmaa", sum := "a8aebd256a8f3ca81ca0245d9c3d0923c80f14cfb72683ddebedf91760e6b505", func := "linkwork/linkworklaw34.GrashofOrder", spec := "grashofOrder", apart := false, narrowed := true }
def GrashofOrderUptoSaid : Prop := grashofOrderUptoRow.holds Try.pinned (OpenSpec.upto grashofOrderSpec)

/-- 'linkworklaw34.GrashofShortest', WHERE WHAT IT READS IS OF BULK AT MOST 1048576: true; the input reads as it did. -/
def grashofShortestUptoRow : OpenClaim := { program := "ytdeihehaheelmaa", sum := "a8aebd256a8f3ca81ca0245d9c3d0923c80f14cfb72683ddebedf91760e6b505", func := "linkwork/linkworklaw34.GrashofShortest", spec := "grashofShortest", apart := false, narrowed := true }
def GrashofShortestUptoSaid : Prop := grashofShortestUptoRow.holds Try.pinned (OpenSpec.upto grashofShortestSpec)

/-- 'linkworklaw34.GrashofLengths', WHERE WHAT IT READS IS OF BULK AT MOST 1048576: true; the input reads as it did. -/
def grashofLengthsUptoRow : OpenClaim := { program := "ytdeihehaheelmaa", sum := "a8aebd256a8f3ca81ca0245d9c3d0923c80f14cfb72683ddebedf91760e6b505", func := "linkwork/linkworklaw34.GrashofLengths", spec := "grashofLengths", apart := false, narrowed := true }
def GrashofLengthsUptoSaid : Prop := grashofLengthsUptoRow.holds Try.pinned (OpenSpec.upto grashofLengthsSpec)

/-- 'linkworklaw34.GrashofInverts', WHERE WHAT IT READS IS OF BULK AT MOST 1048576: true; the input reads as it did. -/
def grashofInvertsUptoRow : OpenClaim := { program := "ytdeihehaheelmaa", sum := "a8aebd256a8f3ca81ca0245d9c3d0923c80f14cfb72683ddebedf91760e6b505", func := "linkwork/linkworklaw34.GrashofInverts", spec := "grashofInverts", apart := false, narrowed := true }
def GrashofInvertsUptoSaid : Prop := grashofInvertsUptoRow.holds Try.pinned (OpenSpec.upto grashofInvertsSpec)

end Rows
end Go.Proofs.Ytdeihehaheelmaa
