/-
  No cell of these rows narrows 'for every input' (looked for: loops, veiled, ifaces, maps, wideKeys, modest, calm, conditions, laid).
  DERIVED. THE GIVEN ROWS OF THIS SEAT. 3 by the template 'for every input the law returns true; each argument reads behind the call as it read before'; 0 by the template 'total and deterministic' (their statements: YtjhlegefgllihaaTotals.lean).
  GIVEN WITH THE SEED: the statements are not yours to turn. If you find one false, say at which input.
  Laid BY PROGRAM, IN A SANDBOX (cutbox-rows.mjs): the forced cells as the released guide's own fill.sh prints them over the translation 0ed3ce34806dafaa… (all of the seat's roots in one cut). By AI agents, Wed Nov 11 2026. No macro, syntax, notation, axiom, sorry.
-/
import Derived.Test.YtjhlegefgllihaaChecked
import GoSem.Claim
import GoSem.ClaimJoined
import GoSem.ClaimMapViews
import Derived.JoinedTies
import Derived.KernelRfl
namespace Go.Proofs.Ytjhlegefgllihaa
/- THE CELL 'sum', in the pinned program and in every row, IS THE sha256 OF THE DUMP (.gsa) THAT YtjhlegefgllihaaProg.lean LOADS. Nothing in Lean hashes anything: it is a label: what it is worth is what the hold of that sum in a sandbox is worth. -/
noncomputable def Try.pinned : Pinned := { name := "ytjhlegefgllihaa", sum := "0ed3ce34806dafaa52e82905d6da7ae6f0d5019cd5afc37c9091a2529d5ebee0", checked := Try.checked }
namespace Rows
def none {H : Type} : Left H := { results := [], args := [] }

/-- 'muntinlaw19.SepHolds': WHATEVER THE INPUT: true; the input reads as it did. -/
def sepHoldsSpec : ChangeSpec := { name := "sepHolds", fn := fun _ => fun
  | [d1, d2, d3] => { results := [.lit (.bool true)], args := [d1, d2, d3] }
  | _ => none }
def sepHoldsRow : OpenClaim := { program := "ytjhlegefgllihaa", sum := "0ed3ce34806dafaa52e82905d6da7ae6f0d5019cd5afc37c9091a2529d5ebee0", func := "muntin/muntinlaw19.SepHolds", spec := "sepHolds", unfollowed := true, recurses := true, plainKeys := false, apart := false }
def SepHoldsSaid : Prop := sepHoldsRow.holds Try.pinned (OpenSpec.ofChange sepHoldsSpec)

/-- ITS FALSE NEIGHBOUR: 'it returns false'. Refute it at one input. -/
def sepHoldsWrong : ChangeSpec := { name := "sepHolds", fn := fun _ => fun
  | [d1, d2, d3] => { results := [.lit (.bool false)], args := [d1, d2, d3] }
  | _ => none }
def SepHoldsWrongFalsely : Prop := sepHoldsRow.holds Try.pinned (OpenSpec.ofChange sepHoldsWrong)

/-- 'muntinlaw19.SepMakes': WHATEVER THE INPUT: true; the input reads as it did. -/
def sepMakesSpec : ChangeSpec := { name := "sepMakes", fn := fun _ => fun
  | [d1, d2, d3] => { results := [.lit (.bool true)], args := [d1, d2, d3] }
  | _ => none }
def sepMakesRow : OpenClaim := { program := "ytjhlegefgllihaa", sum := "0ed3ce34806dafaa52e82905d6da7ae6f0d5019cd5afc37c9091a2529d5ebee0", func := "muntin/muntinlaw19.SepMakes", spec := "sepMakes", unfollowed := true, recurses := true, plainKeys := false, apart := false }
def SepMakesSaid : Prop := sepMakesRow.holds Try.pinned (OpenSpec.ofChange sepMakesSpec)

/-- ITS FALSE NEIGHBOUR: 'it returns false'. Refute it at one input. -/
def sepMakesWrong : ChangeSpec := { name := "sepMakes", fn := fun _ => fun
  | [d1, d2, d3] => { results := [.lit (.bool false)], args := [d1, d2, d3] }
  | _ => none }
def SepMakesWrongFalsely : Prop := sepMakesRow.holds Try.pinned (OpenSpec.ofChange sepMakesWrong)

/-- 'muntinlaw19.SepTurns': WHATEVER THE INPUT: true; the input reads as it did. -/
def sepTurnsSpec : ChangeSpec := { name := "sepTurns", fn := fun _ => fun
  | [d] => { results := [.lit (.bool true)], args := [d] }
  | _ => none }
def sepTurnsRow : OpenClaim := { program := "ytjhlegefgllihaa", sum := "0ed3ce34806dafaa52e82905d6da7ae6f0d5019cd5afc37c9091a2529d5ebee0", func := "muntin/muntinlaw19.SepTurns", spec := "sepTurns", unfollowed := true, recurses := true, plainKeys := false, apart := false }
def SepTurnsSaid : Prop := sepTurnsRow.holds Try.pinned (OpenSpec.ofChange sepTurnsSpec)

/-- ITS FALSE NEIGHBOUR: 'it returns false'. Refute it at one input. -/
def sepTurnsWrong : ChangeSpec := { name := "sepTurns", fn := fun _ => fun
  | [d] => { results := [.lit (.bool false)], args := [d] }
  | _ => none }
def SepTurnsWrongFalsely : Prop := sepTurnsRow.holds Try.pinned (OpenSpec.ofChange sepTurnsWrong)

/- THE SECOND FORM. 'bulk': how many values and letters a reading holds, each counted each time it is reached (what is shared counts as often as it is met; a slice's spare places count too). A statement '..UptoSaid' is the law's where the arguments, and the package variables that the reading takes, are together of bulk at most 1048576: NARROWER than '..Said'. Prove '..Said' where nothing that the law and all that it calls make is longer than what came in: it says more and counts as full. Else prove '..UptoSaid'. A law counts once. -/
mutual
def uptoBulk {H : Type} : DataW H → Nat
  | .lit (.string bytes) => bytes.length + 1
  | .lit _ => 1
  | .nil => 1
  | .ptr d => uptoBulk d + 1
  | .slice elems spare => uptoBulkAll elems + uptoBulkAll spare + 1
  | .agg parts => uptoBulkAll parts + 1
  | .iface _ d => uptoBulk d + 1
  | .map entries => uptoBulkEntries entries + 1
  | .held _ => 1
def uptoBulkAll {H : Type} : List (DataW H) → Nat
  | [] => 0
  | d :: r => uptoBulk d + uptoBulkAll r
def uptoBulkEntries {H : Type} : List (Lit × DataW H) → Nat
  | [] => 0
  | x :: r => uptoBulkEntry x + uptoBulkEntries r
def uptoBulkEntry {H : Type} : Lit × DataW H → Nat
  | (.string bytes, d) => bytes.length + uptoBulk d + 1
  | (_, d) => uptoBulk d + 1
 end
def uptoSmall : (H : Type) → List (DataW H) → Bool := fun _ ds => decide (uptoBulkAll ds ≤ 1048576)
def OpenSpec.upto (s : _root_.Go.ChangeSpec) : _root_.Go.OpenSpec := { _root_.Go.OpenSpec.ofChange s with cond := some uptoSmall }

/-- 'muntinlaw19.SepHolds', WHERE WHAT IT READS IS OF BULK AT MOST 1048576: true; the input reads as it did. -/
def sepHoldsUptoRow : OpenClaim := { program := "ytjhlegefgllihaa", sum := "0ed3ce34806dafaa52e82905d6da7ae6f0d5019cd5afc37c9091a2529d5ebee0", func := "muntin/muntinlaw19.SepHolds", spec := "sepHolds", unfollowed := true, recurses := true, plainKeys := false, apart := false, narrowed := true }
def SepHoldsUptoSaid : Prop := sepHoldsUptoRow.holds Try.pinned (OpenSpec.upto sepHoldsSpec)

/-- 'muntinlaw19.SepMakes', WHERE WHAT IT READS IS OF BULK AT MOST 1048576: true; the input reads as it did. -/
def sepMakesUptoRow : OpenClaim := { program := "ytjhlegefgllihaa", sum := "0ed3ce34806dafaa52e82905d6da7ae6f0d5019cd5afc37c9091a2529d5ebee0", func := "muntin/muntinlaw19.SepMakes", spec := "sepMakes", unfollowed := true, recurses := true, plainKeys := false, apart := false, narrowed := true }
def SepMakesUptoSaid : Prop := sepMakesUptoRow.holds Try.pinned (OpenSpec.upto sepMakesSpec)

/-- 'muntinlaw19.SepTurns', WHERE WHAT IT READS IS OF BULK AT MOST 1048576: true; the input reads as it did. -/
def sepTurnsUptoRow : OpenClaim := { program := "ytjhlegefgllihaa", sum := "0ed3ce34806dafaa52e82905d6da7ae6f0d5019cd5afc37c9091a2529d5ebee0", func := "muntin/muntinlaw19.SepTurns", spec := "sepTurns", unfollowed := true, recurses := true, plainKeys := false, apart := false, narrowed := true }
def SepTurnsUptoSaid : Prop := sepTurnsUptoRow.holds Try.pinned (OpenSpec.upto sepTurnsSpec)

end Rows
end Go.Proofs.Ytjhlegefgllihaa
