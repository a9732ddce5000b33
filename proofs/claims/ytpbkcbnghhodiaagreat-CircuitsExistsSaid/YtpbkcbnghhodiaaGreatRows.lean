/-
  No cell of these rows narrows 'for every input' (looked for: loops, veiled, ifaces, maps, wideKeys, modest, calm, conditions, laid).
  DERIVED. THE GIVEN ROWS OF THIS SEAT. 3 by the template 'for every input the law returns true; each argument reads behind the call as it read before'; 0 by the template 'total and deterministic' (their statements: YtpbkcbnghhodiaaGreatTotals.lean).
  GIVEN WITH THE SEED: the statements are not yours to turn. If you find one false, say at which input.
  Laid BY PROGRAM, IN A SANDBOX (cutbox-rows.mjs): the forced cells as the released guide's own fill.sh prints them over the translation 8c3093ee2aeaaae7… (all of the seat's roots in one cut). By AI agents, Wed Nov 11 2026. No macro, syntax, notation, axiom, sorry.
-/
import Derived.Test.YtpbkcbnghhodiaaGreatChecked
import GoSem.Claim
import GoSem.ClaimJoined
import GoSem.ClaimMapViews
import Derived.JoinedTies
import Derived.KernelRfl
namespace Go.Proofs.YtpbkcbnghhodiaaGreat
/- THE CELL 'sum', in the pinned program and in every row, IS THE sha256 OF THE DUMP (.gsa) THAT YtpbkcbnghhodiaaGreatProg.lean LOADS. Nothing in Lean hashes anything: it is a label: what it is worth is what the hold of that sum in a sandbox is worth. -/
noncomputable def Tryz.pinned : Pinned := { name := "ytpbkcbnghhodiaagreat", sum := "8c3093ee2aeaaae71bd2bf4124b897c3b2e2b2dda4d2b1c543db5b2e7f1c78e6", checked := Tryz.checked }
namespace Rows
def none {H : Type} : Left H := { results := [], args := [] }

/-- 'linkworklaw37.CircuitsLists': WHATEVER THE INPUT: true; the input reads as it did. -/
def circuitsListsSpec : ChangeSpec := { name := "circuitsLists", fn := fun _ => fun
  | [d] => { results := [.lit (.bool true)], args := [d] }
  | _ => none }
def circuitsListsRow : OpenClaim := { program := "ytpbkcbnghhodiaagreat", sum := "8c3093ee2aeaaae71bd2bf4124b897c3b2e2b2dda4d2b1c543db5b2e7f1c78e6", func := "linkwork/linkworklaw37.CircuitsLists", spec := "circuitsLists", apart := false }
def CircuitsListsSaid : Prop := circuitsListsRow.holds Tryz.pinned (OpenSpec.ofChange circuitsListsSpec)

/-- ITS FALSE NEIGHBOUR: 'it returns false'. Refute it at one input. -/
def circuitsListsWrong : ChangeSpec := { name := "circuitsLists", fn := fun _ => fun
  | [d] => { results := [.lit (.bool false)], args := [d] }
  | _ => none }
def CircuitsListsWrongFalsely : Prop := circuitsListsRow.holds Tryz.pinned (OpenSpec.ofChange circuitsListsWrong)

/-- 'linkworklaw37.CircuitsPositions': WHATEVER THE INPUT: true; the input reads as it did. -/
def circuitsPositionsSpec : ChangeSpec := { name := "circuitsPositions", fn := fun _ => fun
  | [d1, d2, d3] => { results := [.lit (.bool true)], args := [d1, d2, d3] }
  | _ => none }
def circuitsPositionsRow : OpenClaim := { program := "ytpbkcbnghhodiaagreat", sum := "8c3093ee2aeaaae71bd2bf4124b897c3b2e2b2dda4d2b1c543db5b2e7f1c78e6", func := "linkwork/linkworklaw37.CircuitsPositions", spec := "circuitsPositions", apart := false }
def CircuitsPositionsSaid : Prop := circuitsPositionsRow.holds Tryz.pinned (OpenSpec.ofChange circuitsPositionsSpec)

/-- ITS FALSE NEIGHBOUR: 'it returns false'. Refute it at one input. -/
def circuitsPositionsWrong : ChangeSpec := { name := "circuitsPositions", fn := fun _ => fun
  | [d1, d2, d3] => { results := [.lit (.bool false)], args := [d1, d2, d3] }
  | _ => none }
def CircuitsPositionsWrongFalsely : Prop := circuitsPositionsRow.holds Tryz.pinned (OpenSpec.ofChange circuitsPositionsWrong)

/-- 'linkworklaw37.CircuitsExists': WHATEVER THE INPUT: true; the input reads as it did. -/
def circuitsExistsSpec : ChangeSpec := { name := "circuitsExists", fn := fun _ => fun
  | [d1, d2] => { results := [.lit (.bool true)], args := [d1, d2] }
  | _ => none }
def circuitsExistsRow : OpenClaim := { program := "ytpbkcbnghhodiaagreat", sum := "8c3093ee2aeaaae71bd2bf4124b897c3b2e2b2dda4d2b1c543db5b2e7f1c78e6", func := "linkwork/linkworklaw37.CircuitsExists", spec := "circuitsExists", apart := false }
def CircuitsExistsSaid : Prop := circuitsExistsRow.holds Tryz.pinned (OpenSpec.ofChange circuitsExistsSpec)

/-- ITS FALSE NEIGHBOUR: 'it returns false'. Refute it at one input. -/
def circuitsExistsWrong : ChangeSpec := { name := "circuitsExists", fn := fun _ => fun
  | [d1, d2] => { results := [.lit (.bool false)], args := [d1, d2] }
  | _ => none }
def CircuitsExistsWrongFalsely : Prop := circuitsExistsRow.holds Tryz.pinned (OpenSpec.ofChange circuitsExistsWrong)

/- THE SECOND FORM. 'bulk': how many values and letters a reading holds, each counted each time it is reached (what is shared counts as often as it is met; a slice's spare places count too). A statement '..UptoSaid' is the law's where the arguments, and the package variables that the reading takes, are together of bulk at most 1048576: NARROWER than '..Said'. Prove '..Said' where nothing that the law and all that it calls make is longer than what came in: it says more and counts as full. Else prove '..UptoSaid'. A law counts once. -/
mutual
def uptoBulk {H : Type} : DataW H → Nat
  | .lit (.string bytes) => bytes.length + 1
  | .lit _ => 1
  | .nil => 1
  | .ptr d => uptoBulk d + 1
  | .slice elems spare => uptoBulkAll elems + uptoBulkAll spare + 1
  | .agg parts => uptoBulkAll parts + 1
  | .iface _ d => uptoBulk d + 1
  | .map entries => uptoBulkEntries entries + 1
  | .held _ => 1
def uptoBulkAll {H : Type} : List (DataW H) → Nat
  | [] => 0
  | d :: r => uptoBulk d + uptoBulkAll r
def uptoBulkEntries {H : Type} : List (Lit × DataW H) → Nat
  | [] => 0
  | x :: r => uptoBulkEntry x + uptoBulkEntries r
def uptoBulkEntry {H : Type} : Lit × DataW H → Nat
  | (.string bytes, d) => bytes.length + uptoBulk d + 1
  | (_, d) => uptoBulk d + 1
 end
def uptoSmall : (H : Type) → List (DataW H) → Bool := fun _ ds => decide (uptoBulkAll ds ≤ 1048576)
def OpenSpec.upto (s : _root_.Go.ChangeSpec) : _root_.Go.OpenSpec := { _root_.Go.OpenSpec.ofChange s with cond := some uptoSmall }

/-- 'linkworklaw37.CircuitsLists', WHERE WHAT IT READS IS OF BULK AT MOST 1048576: true; the input reads as it did. -/
def circuitsListsUptoRow : OpenClaim := { program := "ytpbkcbnghhodiaagreat", sum := "8c3093ee2aeaaae71bd2bf4124b897c3b2e2b2dda4d2b1c543db5b2e7f1c78e6", func := "linkwork/linkworklaw37.CircuitsLists", spec := "circuitsLists", apart := false, narrowed := true }
def CircuitsListsUptoSaid : Prop := circuitsListsUptoRow.holds Tryz.pinned (OpenSpec.upto circuitsListsSpec)

/-- 'linkworklaw37.CircuitsPositions', WHERE WHAT IT READS IS OF BULK AT MOST 1048576: true; the input reads as it did. -/
def circuitsPositionsUptoRow : OpenClaim := { program := "ytpbkcbnghhodiaagreat", sum := "8c3093ee2aeaaae71bd2bf4124b897c3b2e2b2dda4d2b1c543db5b2e7f1c78e6", func := "linkwork/linkworklaw37.CircuitsPositions", spec := "circuitsPositions", apart := false, narrowed := true }
def CircuitsPositionsUptoSaid : Prop := circuitsPositionsUptoRow.holds Tryz.pinned (OpenSpec.upto circuitsPositionsSpec)

/-- 'linkworklaw37.CircuitsExists', WHERE WHAT IT READS IS OF BULK AT MOST 1048576: true; the input reads as it did. -/
def circuitsExistsUptoRow : OpenClaim := { program := "ytpbkcbnghhodiaagreat", sum := "8c3093ee2aeaaae71bd2bf4124b897c3b2e2b2dda4d2b1c543db5b2e7f1c78e6", func := "linkwork/linkworklaw37.CircuitsExists", spec := "circuitsExists", apart := false, narrowed := true }
def CircuitsExistsUptoSaid : Prop := circuitsExistsUptoRow.holds Tryz.pinned (OpenSpec.upto circuitsExistsSpec)

end Rows
end Go.Proofs.YtpbkcbnghhodiaaGreat
