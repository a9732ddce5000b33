/-
  No cell of these rows narrows 'for every input' (looked for: loops, veiled, ifaces, maps, wideKeys, modest, calm, conditions, laid).
  DERIVED. THE GIVEN ROWS OF THIS SEAT. 3 by the template 'for every input the law returns true; each argument reads behind the call as it read before'; 0 by the template 'total and deterministic' (their statements: YtjphllpnhjemjaaTotals.lean).
  GIVEN WITH THE SEED: the statements are not yours to turn. If you find one false, say at which input.
  Laid BY PROGRAM, IN A SANDBOX (cutbox-rows.mjs): the forced cells as the released guide's own fill.sh prints them over the translation 6c059c7ff6eaafd4… (all of the seat's roots in one cut). By AI agents, Wed Nov 11 2026. No macro, syntax, notation, axiom, sorry.
-/
import Derived.Test.YtjphllpnhjemjaaChecked
import GoSem.Claim
import GoSem.ClaimJoined
import GoSem.ClaimMapViews
import Derived.JoinedTies
import Derived.KernelRfl
namespace Go.Proofs.Ytjphllpnhjemjaa
/- THE CELL 'sum', in the pinned program and in every row, IS THE sha256 OF THE DUMP (.gsa) THAT YtjphllpnhjemjaaProg.lean LOADS. Nothing in Lean hashes anything: it is a label: what it is worth is what the hold of that sum in a sandbox is worth. -/
noncomputable def Try.pinned : Pinned := { name := "ytjphllpnhjemjaa", sum := "6c059c7ff6eaafd40b2b0cb39d4081464c2b0b0b78d48707919b986c62b7fe1b", checked := Try.checked }
namespace Rows
def none {H : Type} : Left H := { results := [], args := [] }

/-- 'linkworklaw55.ShaftScales': WHATEVER THE INPUT: true; the input reads as it did. -/
def shaftScalesSpec : ChangeSpec := { name := "shaftScales", fn := fun _ => fun
  | [d1, d2, d3] => { results := [.lit (.bool true)], args := [d1, d2, d3] }
  | _ => none }
def shaftScalesRow : OpenClaim := { program := "ytjphllpnhjemjaa", sum := "6c059c7ff6eaafd40b2b0cb39d4081464c2b0b0b78d48707919b986c62b7fe1b", func := "linkwork/linkworklaw55.ShaftScales", spec := "shaftScales", apart := false }
def ShaftScalesSaid : Prop := shaftScalesRow.holds Try.pinned (OpenSpec.ofChange shaftScalesSpec)

/-- ITS FALSE NEIGHBOUR: 'it returns false'. Refute it at one input. -/
def shaftScalesWrong : ChangeSpec := { name := "shaftScales", fn := fun _ => fun
  | [d1, d2, d3] => { results := [.lit (.bool false)], args := [d1, d2, d3] }
  | _ => none }
def ShaftScalesWrongFalsely : Prop := shaftScalesRow.holds Try.pinned (OpenSpec.ofChange shaftScalesWrong)

/-- 'linkworklaw55.ShaftTight': WHATEVER THE INPUT: true; the input reads as it did. -/
def shaftTightSpec : ChangeSpec := { name := "shaftTight", fn := fun _ => fun
  | [d1, d2, d3] => { results := [.lit (.bool true)], args := [d1, d2, d3] }
  | _ => none }
def shaftTightRow : OpenClaim := { program := "ytjphllpnhjemjaa", sum := "6c059c7ff6eaafd40b2b0cb39d4081464c2b0b0b78d48707919b986c62b7fe1b", func := "linkwork/linkworklaw55.ShaftTight", spec := "shaftTight", apart := false }
def ShaftTightSaid : Prop := shaftTightRow.holds Try.pinned (OpenSpec.ofChange shaftTightSpec)

/-- ITS FALSE NEIGHBOUR: 'it returns false'. Refute it at one input. -/
def shaftTightWrong : ChangeSpec := { name := "shaftTight", fn := fun _ => fun
  | [d1, d2, d3] => { results := [.lit (.bool false)], args := [d1, d2, d3] }
  | _ => none }
def ShaftTightWrongFalsely : Prop := shaftTightRow.holds Try.pinned (OpenSpec.ofChange shaftTightWrong)

/-- 'linkworklaw55.ShaftProves': WHATEVER THE INPUT: true; the input reads as it did. -/
def shaftProvesSpec : ChangeSpec := { name := "shaftProves", fn := fun _ => fun
  | [d1, d2, d3] => { results := [.lit (.bool true)], args := [d1, d2, d3] }
  | _ => none }
def shaftProvesRow : OpenClaim := { program := "ytjphllpnhjemjaa", sum := "6c059c7ff6eaafd40b2b0cb39d4081464c2b0b0b78d48707919b986c62b7fe1b", func := "linkwork/linkworklaw55.ShaftProves", spec := "shaftProves", apart := false }
def ShaftProvesSaid : Prop := shaftProvesRow.holds Try.pinned (OpenSpec.ofChange shaftProvesSpec)

/-- ITS FALSE NEIGHBOUR: 'it returns false'. Refute it at one input. -/
def shaftProvesWrong : ChangeSpec := { name := "shaftProves", fn := fun _ => fun
  | [d1, d2, d3] => { results := [.lit (.bool false)], args := [d1, d2, d3] }
  | _ => none }
def ShaftProvesWrongFalsely : Prop := shaftProvesRow.holds Try.pinned (OpenSpec.ofChange shaftProvesWrong)

/- THE SECOND FORM. 'bulk': how many values and letters a reading holds, each counted each time it is reached (what is shared counts as often as it is met; a slice's spare places count too). A statement '..UptoSaid' is the law's where the arguments, and the package variables that the reading takes, are together of bulk at most 1048576: NARROWER than '..Said'. Prove '..Said' where nothing that the law and all that it calls make is longer than what came in: it says more and counts as full. Else prove '..UptoSaid'. A law counts once. -/
mutual
def uptoBulk {H : Type} : DataW H → Nat
  | .lit (.string bytes) => bytes.length + 1
  | .lit _ => 1
  | .nil => 1
  | .ptr d => uptoBulk d + 1
  | .slice elems spare => uptoBulkAll elems + uptoBulkAll spare + 1
  | .agg parts => uptoBulkAll parts + 1
  | .iface _ d => uptoBulk d + 1
  | .map entries => uptoBulkEntries entries + 1
  | .held _ => 1
def uptoBulkAll {H : Type} : List (DataW H) → Nat
  | [] => 0
  | d :: r => uptoBulk d + uptoBulkAll r
def uptoBulkEntries {H : Type} : List (Lit × DataW H) → Nat
  | [] => 0
  | x :: r => uptoBulkEntry x + uptoBulkEntries r
def uptoBulkEntry {H : Type} : Lit × DataW H → Nat
  | (.string bytes, d) => bytes.length + uptoBulk d + 1
  | (_, d) => uptoBulk d + 1
 end
def uptoSmall : (H : Type) → List (DataW H) → Bool := fun _ ds => decide (uptoBulkAll ds ≤ 1048576)
def OpenSpec.upto (s : _root_.Go.ChangeSpec) : _root_.Go.OpenSpec := { _root_.Go.OpenSpec.ofChange s with cond := some uptoSmall }

/-- 'linkworklaw55.ShaftScales', WHERE WHAT IT READS IS OF BULK AT MOST 1048576: true; the input reads as it did. -/
def shaftScalesUptoRow : OpenClaim := { program := "ytjphllpnhjemjaa", sum := "6c059c7ff6eaafd40b2b0cb39d4081464c2b0b0b78d48707919b986c62b7fe1b", func := "linkwork/linkworklaw55.ShaftScales", spec := "shaftScales", apart := false, narrowed := true }
def ShaftScalesUptoSaid : Prop := shaftScalesUptoRow.holds Try.pinned (OpenSpec.upto shaftScalesSpec)

/-- 'linkworklaw55.ShaftTight', WHERE WHAT IT READS IS OF BULK AT MOST 1048576: true; the input reads as it did. -/
def shaftTightUptoRow : OpenClaim := { program := "ytjphllpnhjemjaa", sum := "6c059c7ff6eaafd40b2b0cb39d4081464c2b0b0b78d48707919b986c62b7fe1b", func := "linkwork/linkworklaw55.ShaftTight", spec := "shaftTight", apart := false, narrowed := true }
def ShaftTightUptoSaid : Prop := shaftTightUptoRow.holds Try.pinned (OpenSpec.upto shaftTightSpec)

/-- 'linkworklaw55.ShaftProves', WHERE WHAT IT READS IS OF BULK AT MOST 1048576: true; the input reads as it did. -/
def shaftProvesUptoRow : OpenClaim := { program := "ytjphllpnhjemjaa", sum := "6c059c7ff6eaafd40b2b0cb39d4081464c2b0b0b78d48707919b986c62b7fe1b", func := "linkwork/linkworklaw55.ShaftProves", spec := "shaftProves", apart := false, narrowed := true }
def ShaftProvesUptoSaid : Prop := shaftProvesUptoRow.holds Try.pinned (OpenSpec.upto shaftProvesSpec)

end Rows
end Go.Proofs.Ytjphllpnhjemjaa
