/-
  No cell of these rows narrows 'for every input' (looked for: loops, veiled, ifaces, maps, wideKeys, modest, calm, conditions, laid).
  DERIVED. THE GIVEN ROWS OF THIS SEAT. 2 by the template 'for every input the law returns true; each argument reads behind the call as it read before'; 0 by the template 'total and deterministic' (their statements: YtdeihehaheelmaaGreatTotals.lean).
  GIVEN WITH THE SEED: the statements are not yours to turn. If you find one false, say at which input.
  Laid BY PROGRAM, IN A SANDBOX (cutbox-rows.mjs): the forced cells as the released guide's own fill.sh prints them over the translation 432acc940b27a284… (all of the seat's roots in one cut). By AI agents, Wed Nov 11 2026. No macro, syntax, notation, axiom, sorry.
-/
import Derived.Test.YtdeihehaheelmaaGreatChecked
import GoSem.Claim
import GoSem.ClaimJoined
import GoSem.ClaimMapViews
import Derived.JoinedTies
import Derived.KernelRfl
namespace Go.Proofs.YtdeihehaheelmaaGreat
/- THE CELL 'sum', in the pinned program and in every row, IS THE sha256 OF THE DUMP (.gsa) THAT YtdeihehaheelmaaGreatProg.lean LOADS. Nothing in Lean hashes anything: it is a label: what it is worth is what the hold of that sum in a sandbox is worth. -/
noncomputable def Tryz.pinned : Pinned := { name := "ytdeihehaheelmaagreat", sum := "432acc940b27a2849157405107d8984826e79cd6f497c6ebf826a160dcc59f74", checked := Tryz.checked }
namespace Rows
def none {H : Type} : Left H := { results := [], args := [] }

/-- 'linkworklaw34.GrashofClasses': WHATEVER THE INPUT: true; the input reads as it did. -/
def grashofClassesSpec : ChangeSpec := { name := "grashofClasses", fn := fun _ => fun
  | [d] => { results := [.lit (.bool true)], args := [d] }
  | _ => none }
def grashofClassesRow : OpenClaim := { program := "ytdeihehaheelmaagreat", sum := "432acc940b27a2849157405107d8984826e79cd6f497c6ebf826a160dcc59f74", func := "linkwork/linkworklaw34.GrashofClasses", spec := "grashofClasses", apart := false }
def GrashofClassesSaid : Prop := grashofClassesRow.holds Tryz.pinned (OpenSpec.ofChange grashofClassesSpec)

/-- ITS FALSE NEIGHBOUR: 'it returns false'. Refute it at one input. -/
def grashofClassesWrong : ChangeSpec := { name := "grashofClasses", fn := fun _ => fun
  | [d] => { results := [.lit (.bool false)], args := [d] }
  | _ => none }
def GrashofClassesWrongFalsely : Prop := grashofClassesRow.holds Tryz.pinned (OpenSpec.ofChange grashofClassesWrong)

/-- 'linkworklaw34.GrashofTurns': WHATEVER THE INPUT: true; the input reads as it did. -/
def grashofTurnsSpec : ChangeSpec := { name := "grashofTurns", fn := fun _ => fun
  | [d1, d2] => { results := [.lit (.bool true)], args := [d1, d2] }
  | _ => none }
def grashofTurnsRow : OpenClaim := { program := "ytdeihehaheelmaagreat", sum := "432acc940b27a2849157405107d8984826e79cd6f497c6ebf826a160dcc59f74", func := "linkwork/linkworklaw34.GrashofTurns", spec := "grashofTurns", apart := false }
def GrashofTurnsSaid : Prop := grashofTurnsRow.holds Tryz.pinned (OpenSpec.ofChange grashofTurnsSpec)

/-- ITS FALSE NEIGHBOUR: 'it returns false'. Refute it at one input. -/
def grashofTurnsWrong : ChangeSpec := { name := "grashofTurns", fn := fun _ => fun
  | [d1, d2] => { results := [.lit (.bool false)], args := [d1, d2] }
  | _ => none }
def GrashofTurnsWrongFalsely : Prop := grashofTurnsRow.holds Tryz.pinned (OpenSpec.ofChange grashofTurnsWrong)

/- THE SECOND FORM. 'bulk': how many values and letters a reading holds, each counted each time it is reached (what is shared counts as often as it is met; a slice's spare places count too). A statement '..UptoSaid' is the law's where the arguments, and the package variables that the reading takes, are together of bulk at most 1048576: NARROWER than '..Said'. Prove '..Said' where nothing that the law and all that it calls make is longer than what came in: it says more and counts as full. Else prove '..UptoSaid'. A law counts once. -/
mutual
def uptoBulk {H : Type} : DataW H → Nat
  | .lit (.string bytes) => bytes.length + 1
  | .lit _ => 1
  | .nil => 1
  | .ptr d => uptoBulk d + 1
  | .slice elems spare => uptoBulkAll elems + uptoBulkAll spare + 1
  | .agg parts => uptoBulkAll parts + 1
  | .iface _ d => uptoBulk d + 1
  | .map entries => uptoBulkEntries entries + 1
  | .held _ => 1
def uptoBulkAll {H : Type} : List (DataW H) → Nat
  | [] => 0
  | d :: r => uptoBulk d + uptoBulkAll r
def uptoBulkEntries {H : Type} : List (Lit × DataW H) → Nat
  | [] => 0
  | x :: r => uptoBulkEntry x + uptoBulkEntries r
def uptoBulkEntry {H : Type} : Lit × DataW H → Nat
  | (.string bytes, d) => bytes.length + uptoBulk d + 1
  | (_, d) => uptoBulk d + 1
 end
def uptoSmall : (H : Type) → List (DataW H) → Bool := fun _ ds => decide (uptoBulkAll ds ≤ 1048576)
def OpenSpec.upto (s : _root_.Go.ChangeSpec) : _root_.Go.OpenSpec := { _root_.Go.OpenSpec.ofChange s with cond := some uptoSmall }

/-- 'linkworklaw34.GrashofClasses', WHERE WHAT IT READS IS OF BULK AT MOST 1048576: true; the input reads as it did. -/
def grashofClassesUptoRow : OpenClaim := { program := "ytdeihehaheelmaagreat", sum := "432acc940b27a2849157405107d8984826e79cd6f497c6ebf826a160dcc59f74", func := "linkwork/linkworklaw34.GrashofClasses", spec := "grashofClasses", apart := false, narrowed := true }
def GrashofClassesUptoSaid : Prop := grashofClassesUptoRow.holds Tryz.pinned (OpenSpec.upto grashofClassesSpec)

/-- 'linkworklaw34.GrashofTurns', WHERE WHAT IT READS IS OF BULK AT MOST 1048576: true; the input reads as it did. -/
def grashofTurnsUptoRow : OpenClaim := { program := "ytdeihehaheelmaagreat", sum := "432acc940b27a2849157405107d8984826e79cd6f497c6ebf826a160dcc59f74", func := "linkwork/linkworklaw34.GrashofTurns", spec := "grashofTurns", apart := false, narrowed := true }
def GrashofTurnsUptoSaid : Prop := grashofTurnsUptoRow.holds Tryz.pinned (OpenSpec.upto grashofTurnsSpec)

end Rows
end Go.Proofs.YtdeihehaheelmaaGreat
