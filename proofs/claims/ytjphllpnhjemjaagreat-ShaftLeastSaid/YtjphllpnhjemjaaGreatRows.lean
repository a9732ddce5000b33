/-
  No cell of these rows narrows 'for every input' (looked for: loops, veiled, ifaces, maps, wideKeys, modest, calm, conditions, laid).
  DERIVED. THE GIVEN ROWS OF THIS SEAT. 3 by the template 'for every input the law returns true; each argument reads behind the call as it read before'; 0 by the template 'total and deterministic' (their statements: YtjphllpnhjemjaaGreatTotals.lean).
  GIVEN WITH THE SEED: the statements are not yours to turn. If you find one false, say at which input.
  Laid BY PROGRAM, IN A SANDBOX (cutbox-rows.mjs): the forced cells as the released guide's own fill.sh prints them over the translation 3392249396568cc5… (all of the seat's roots in one cut). By AI agents, Wed Nov 11 2026. No macro, syntax, notation, axiom, sorry.
-/
import Derived.Test.YtjphllpnhjemjaaGreatChecked
import GoSem.Claim
import GoSem.ClaimJoined
import GoSem.ClaimMapViews
import Derived.JoinedTies
import Derived.KernelRfl
namespace Go.Proofs.YtjphllpnhjemjaaGreat
/- THE CELL 'sum', in the pinned program and in every row, IS THE sha256 OF THE DUMP (.gsa) THAT YtjphllpnhjemjaaGreatProg.lean LOADS. Nothing in Lean hashes anything: it is a label: what it is worth is what the hold of that sum in a sandbox is worth. -/
noncomputable def Tryz.pinned : Pinned := { name := "ytjphllpnhjemjaagreat", sum := "3392249396568cc5cc690cf28b493f406f084e94f2cb374c280e48eea89e64e9", checked := Tryz.checked }
namespace Rows
def none {H : Type} : Left H := { results := [], args := [] }

/-- 'linkworklaw55.ShaftStarts': WHATEVER THE INPUT: true; the input reads as it did. -/
def shaftStartsSpec : ChangeSpec := { name := "shaftStarts", fn := fun _ => fun
  | [d1, d2, d3] => { results := [.lit (.bool true)], args := [d1, d2, d3] }
  | _ => none }
def shaftStartsRow : OpenClaim := { program := "ytjphllpnhjemjaagreat", sum := "3392249396568cc5cc690cf28b493f406f084e94f2cb374c280e48eea89e64e9", func := "linkwork/linkworklaw55.ShaftStarts", spec := "shaftStarts", apart := false }
def ShaftStartsSaid : Prop := shaftStartsRow.holds Tryz.pinned (OpenSpec.ofChange shaftStartsSpec)

/-- ITS FALSE NEIGHBOUR: 'it returns false'. Refute it at one input. -/
def shaftStartsWrong : ChangeSpec := { name := "shaftStarts", fn := fun _ => fun
  | [d1, d2, d3] => { results := [.lit (.bool false)], args := [d1, d2, d3] }
  | _ => none }
def ShaftStartsWrongFalsely : Prop := shaftStartsRow.holds Tryz.pinned (OpenSpec.ofChange shaftStartsWrong)

/-- 'linkworklaw55.ShaftLeast': WHATEVER THE INPUT: true; the input reads as it did. -/
def shaftLeastSpec : ChangeSpec := { name := "shaftLeast", fn := fun _ => fun
  | [d1, d2] => { results := [.lit (.bool true)], args := [d1, d2] }
  | _ => none }
def shaftLeastRow : OpenClaim := { program := "ytjphllpnhjemjaagreat", sum := "3392249396568cc5cc690cf28b493f406f084e94f2cb374c280e48eea89e64e9", func := "linkwork/linkworklaw55.ShaftLeast", spec := "shaftLeast", apart := false }
def ShaftLeastSaid : Prop := shaftLeastRow.holds Tryz.pinned (OpenSpec.ofChange shaftLeastSpec)

/-- ITS FALSE NEIGHBOUR: 'it returns false'. Refute it at one input. -/
def shaftLeastWrong : ChangeSpec := { name := "shaftLeast", fn := fun _ => fun
  | [d1, d2] => { results := [.lit (.bool false)], args := [d1, d2] }
  | _ => none }
def ShaftLeastWrongFalsely : Prop := shaftLeastRow.holds Tryz.pinned (OpenSpec.ofChange shaftLeastWrong)

/-- 'linkworklaw55.ShaftVerifies': WHATEVER THE INPUT: true; the input reads as it did. -/
def shaftVerifiesSpec : ChangeSpec := { name := "shaftVerifies", fn := fun _ => fun
  | [d1, d2, d3] => { results := [.lit (.bool true)], args := [d1, d2, d3] }
  | _ => none }
def shaftVerifiesRow : OpenClaim := { program := "ytjphllpnhjemjaagreat", sum := "3392249396568cc5cc690cf28b493f406f084e94f2cb374c280e48eea89e64e9", func := "linkwork/linkworklaw55.ShaftVerifies", spec := "shaftVerifies", apart := false }
def ShaftVerifiesSaid : Prop := shaftVerifiesRow.holds Tryz.pinned (OpenSpec.ofChange shaftVerifiesSpec)

/-- ITS FALSE NEIGHBOUR: 'it returns false'. Refute it at one input. -/
def shaftVerifiesWrong : ChangeSpec := { name := "shaftVerifies", fn := fun _ => fun
  | [d1, d2, d3] => { results := [.lit (.bool false)], args := [d1, d2, d3] }
  | _ => none }
def ShaftVerifiesWrongFalsely : Prop := shaftVerifiesRow.holds Tryz.pinned (OpenSpec.ofChange shaftVerifiesWrong)

/- THE SECOND FORM. 'bulk': how many values and letters a reading holds, each counted each time it is reached (what is shared counts as often as it is met; a slice's spare places count too). A statement '..UptoSaid' is the law's where the arguments, and the package variables that the reading takes, are together of bulk at most 1048576: NARROWER than '..Said'. Prove '..Said' where nothing that the law and all that it calls make is longer than what came in: it says more and counts as full. Else prove '..UptoSaid'. A law counts once. -/
mutual
def uptoBulk {H : Type} : DataW H → Nat
  | .lit (.string bytes) => bytes.length + 1
  | .lit _ => 1
  | .nil => 1
  | .ptr d => uptoBulk d + 1
  | .slice elems spare => uptoBulkAll elems + uptoBulkAll spare + 1
  | .agg parts => uptoBulkAll parts + 1
  | .iface _ d => uptoBulk d + 1
  | .map entries => uptoBulkEntries entries + 1
  | .held _ => 1
def uptoBulkAll {H : Type} : List (DataW H) → Nat
  | [] => 0
  | d :: r => uptoBulk d + uptoBulkAll r
def uptoBulkEntries {H : Type} : List (Lit × DataW H) → Nat
  | [] => 0
  | x :: r => uptoBulkEntry x + uptoBulkEntries r
def uptoBulkEntry {H : Type} : Lit × DataW H → Nat
  | (.string bytes, d) => bytes.length + uptoBulk d + 1
  | (_, d) => uptoBulk d + 1
 end
def uptoSmall : (H : Type) → List (DataW H) → Bool := fun _ ds => decide (uptoBulkAll ds ≤ 1048576)
def OpenSpec.upto (s : _root_.Go.ChangeSpec) : _root_.Go.OpenSpec := { _root_.Go.OpenSpec.ofChange s with cond := some uptoSmall }

/-- 'linkworklaw55.ShaftStarts', WHERE WHAT IT READS IS OF BULK AT MOST 1048576: true; the input reads as it did. -/
def shaftStartsUptoRow : OpenClaim := { program := "ytjphllpnhjemjaagreat", sum := "3392249396568cc5cc690cf28b493f406f084e94f2cb374c280e48eea89e64e9", func := "linkwork/linkworklaw55.ShaftStarts", spec := "shaftStarts", apart := false, narrowed := true }
def ShaftStartsUptoSaid : Prop := shaftStartsUptoRow.holds Tryz.pinned (OpenSpec.upto shaftStartsSpec)

/-- 'linkworklaw55.ShaftLeast', WHERE WHAT IT READS IS OF BULK AT MOST 1048576: true; the input reads as it did. -/
def shaftLeastUptoRow : OpenClaim := { program := "ytjphllpnhjemjaagreat", sum := "3392249396568cc5cc690cf28b493f406f084e94f2cb374c280e48eea89e64e9", func := "linkwork/linkworklaw55.ShaftLeast", spec := "shaftLeast", apart := false, narrowed := true }
def ShaftLeastUptoSaid : Prop := shaftLeastUptoRow.holds Tryz.pinned (OpenSpec.upto shaftLeastSpec)

/-- 'linkworklaw55.ShaftVerifies', WHERE WHAT IT READS IS OF BULK AT MOST 1048576: true; the input reads as it did. -/
def shaftVerifiesUptoRow : OpenClaim := { program := "ytjphllpnhjemjaagreat", sum := "3392249396568cc5cc690cf28b493f406f084e94f2cb374c280e48eea89e64e9", func := "linkwork/linkworklaw55.ShaftVerifies", spec := "shaftVerifies", apart := false, narrowed := true }
def ShaftVerifiesUptoSaid : Prop := shaftVerifiesUptoRow.holds Tryz.pinned (OpenSpec.upto shaftVerifiesSpec)

end Rows
end Go.Proofs.YtjphllpnhjemjaaGreat
