/-
  No cell of these rows narrows 'for every input' (looked for: loops, veiled, ifaces, maps, wideKeys, modest, calm, conditions, laid).
  DERIVED. THE GIVEN ROWS OF THIS SEAT. 12 by the template 'for every input the law returns true; each argument reads behind the call as it read before'; 0 by the template 'total and deterministic' (their statements: YtfdidkebomeiaaaTotals.lean).
  GIVEN WITH THE SEED: the statements are not yours to turn. If you find one false, say at which input.
  Laid BY PROGRAM, IN A SANDBOX (cutbox-rows.mjs): the forced cells as the released guide's own fill.sh prints them over the translation 91e04b72805a8a92… (all of the seat's roots in one cut). By AI agents, Wed Nov 11 2026. No macro, syntax, notation, axiom, sorry.
-/
import Derived.Test.YtfdidkebomeiaaaChecked
import GoSem.Claim
import GoSem.ClaimJoined
import GoSem.ClaimMapViews
import Derived.JoinedTies
import Derived.KernelRfl
namespace Go.Proofs.Ytfdidkebomeiaaa
/- THE CELL 'sum', in the pinned program and in every row, IS THE sha256 OF THE DUMP (.gsa) THAT YtfdidkebomeiaaaProg.lean LOADS. Nothing in Lean hashes anything: it is a label: what it is worth is what the hold of that sum in a sandbox is worth. -/
noncomputable def Try.pinned : Pinned := { name := "ytfdidkebomeiaaa", sum := "91e04b72805a8a923ab1d533088f288434d684d9b7dda52dce64ed3fa002c4ef", checked := Try.checked }
namespace Rows
def none {H : Type} : Left H := { results := [], args := [] }

/-- 'muntinlaw22.RegularMade': WHATEVER THE INPUT: true; the input reads as it did. -/
def regularMadeSpec : ChangeSpec := { name := "regularMade", fn := fun _ => fun
  | [d1, d2, d3] => { results := [.lit (.bool true)], args := [d1, d2, d3] }
  | _ => none }
def regularMadeRow : OpenClaim := { program := "ytfdidkebomeiaaa", sum := "91e04b72805a8a923ab1d533088f288434d684d9b7dda52dce64ed3fa002c4ef", func := "muntin/muntinlaw22.RegularMade", spec := "regularMade", unfollowed := true, recurses := true, plainKeys := false, apart := false }
def RegularMadeSaid : Prop := regularMadeRow.holds Try.pinned (OpenSpec.ofChange regularMadeSpec)

/-- ITS FALSE NEIGHBOUR: 'it returns false'. Refute it at one input. -/
def regularMadeWrong : ChangeSpec := { name := "regularMade", fn := fun _ => fun
  | [d1, d2, d3] => { results := [.lit (.bool false)], args := [d1, d2, d3] }
  | _ => none }
def RegularMadeWrongFalsely : Prop := regularMadeRow.holds Try.pinned (OpenSpec.ofChange regularMadeWrong)

/-- 'muntinlaw22.RegularDraws': WHATEVER THE INPUT: true; the input reads as it did. -/
def regularDrawsSpec : ChangeSpec := { name := "regularDraws", fn := fun _ => fun
  | [d1, d2] => { results := [.lit (.bool true)], args := [d1, d2] }
  | _ => none }
def regularDrawsRow : OpenClaim := { program := "ytfdidkebomeiaaa", sum := "91e04b72805a8a923ab1d533088f288434d684d9b7dda52dce64ed3fa002c4ef", func := "muntin/muntinlaw22.RegularDraws", spec := "regularDraws", unfollowed := true, recurses := true, plainKeys := false, apart := false }
def RegularDrawsSaid : Prop := regularDrawsRow.holds Try.pinned (OpenSpec.ofChange regularDrawsSpec)

/-- ITS FALSE NEIGHBOUR: 'it returns false'. Refute it at one input. -/
def regularDrawsWrong : ChangeSpec := { name := "regularDraws", fn := fun _ => fun
  | [d1, d2] => { results := [.lit (.bool false)], args := [d1, d2] }
  | _ => none }
def RegularDrawsWrongFalsely : Prop := regularDrawsRow.holds Try.pinned (OpenSpec.ofChange regularDrawsWrong)

/-- 'muntinlaw22.RegularAgain': WHATEVER THE INPUT: true; the input reads as it did. -/
def regularAgainSpec : ChangeSpec := { name := "regularAgain", fn := fun _ => fun
  | [d1, d2, d3] => { results := [.lit (.bool true)], args := [d1, d2, d3] }
  | _ => none }
def regularAgainRow : OpenClaim := { program := "ytfdidkebomeiaaa", sum := "91e04b72805a8a923ab1d533088f288434d684d9b7dda52dce64ed3fa002c4ef", func := "muntin/muntinlaw22.RegularAgain", spec := "regularAgain", unfollowed := true, recurses := true, plainKeys := false, apart := false }
def RegularAgainSaid : Prop := regularAgainRow.holds Try.pinned (OpenSpec.ofChange regularAgainSpec)

/-- ITS FALSE NEIGHBOUR: 'it returns false'. Refute it at one input. -/
def regularAgainWrong : ChangeSpec := { name := "regularAgain", fn := fun _ => fun
  | [d1, d2, d3] => { results := [.lit (.bool false)], args := [d1, d2, d3] }
  | _ => none }
def RegularAgainWrongFalsely : Prop := regularAgainRow.holds Try.pinned (OpenSpec.ofChange regularAgainWrong)

/-- 'muntinlaw26.CheckTells': WHATEVER THE INPUT: true; the input reads as it did. -/
def checkTellsSpec : ChangeSpec := { name := "checkTells", fn := fun _ => fun
  | [d1, d2, d3] => { results := [.lit (.bool true)], args := [d1, d2, d3] }
  | _ => none }
def checkTellsRow : OpenClaim := { program := "ytfdidkebomeiaaa", sum := "91e04b72805a8a923ab1d533088f288434d684d9b7dda52dce64ed3fa002c4ef", func := "muntin/muntinlaw26.CheckTells", spec := "checkTells", unfollowed := true, recurses := true, plainKeys := false, apart := false }
def CheckTellsSaid : Prop := checkTellsRow.holds Try.pinned (OpenSpec.ofChange checkTellsSpec)

/-- ITS FALSE NEIGHBOUR: 'it returns false'. Refute it at one input. -/
def checkTellsWrong : ChangeSpec := { name := "checkTells", fn := fun _ => fun
  | [d1, d2, d3] => { results := [.lit (.bool false)], args := [d1, d2, d3] }
  | _ => none }
def CheckTellsWrongFalsely : Prop := checkTellsRow.holds Try.pinned (OpenSpec.ofChange checkTellsWrong)

/-- 'muntinlaw26.CheckTurns': WHATEVER THE INPUT: true; the input reads as it did. -/
def checkTurnsSpec : ChangeSpec := { name := "checkTurns", fn := fun _ => fun
  | [d1, d2, d3] => { results := [.lit (.bool true)], args := [d1, d2, d3] }
  | _ => none }
def checkTurnsRow : OpenClaim := { program := "ytfdidkebomeiaaa", sum := "91e04b72805a8a923ab1d533088f288434d684d9b7dda52dce64ed3fa002c4ef", func := "muntin/muntinlaw26.CheckTurns", spec := "checkTurns", unfollowed := true, recurses := true, plainKeys := false, apart := false }
def CheckTurnsSaid : Prop := checkTurnsRow.holds Try.pinned (OpenSpec.ofChange checkTurnsSpec)

/-- ITS FALSE NEIGHBOUR: 'it returns false'. Refute it at one input. -/
def checkTurnsWrong : ChangeSpec := { name := "checkTurns", fn := fun _ => fun
  | [d1, d2, d3] => { results := [.lit (.bool false)], args := [d1, d2, d3] }
  | _ => none }
def CheckTurnsWrongFalsely : Prop := checkTurnsRow.holds Try.pinned (OpenSpec.ofChange checkTurnsWrong)

/-- 'muntinlaw21.RectTells': WHATEVER THE INPUT: true; the input reads as it did. -/
def rectTellsSpec : ChangeSpec := { name := "rectTells", fn := fun _ => fun
  | [d1, d2, d3] => { results := [.lit (.bool true)], args := [d1, d2, d3] }
  | _ => none }
def rectTellsRow : OpenClaim := { program := "ytfdidkebomeiaaa", sum := "91e04b72805a8a923ab1d533088f288434d684d9b7dda52dce64ed3fa002c4ef", func := "muntin/muntinlaw21.RectTells", spec := "rectTells", unfollowed := true, recurses := true, plainKeys := false, apart := false }
def RectTellsSaid : Prop := rectTellsRow.holds Try.pinned (OpenSpec.ofChange rectTellsSpec)

/-- ITS FALSE NEIGHBOUR: 'it returns false'. Refute it at one input. -/
def rectTellsWrong : ChangeSpec := { name := "rectTells", fn := fun _ => fun
  | [d1, d2, d3] => { results := [.lit (.bool false)], args := [d1, d2, d3] }
  | _ => none }
def RectTellsWrongFalsely : Prop := rectTellsRow.holds Try.pinned (OpenSpec.ofChange rectTellsWrong)

/-- 'muntinlaw21.RectMakes': WHATEVER THE INPUT: true; the input reads as it did. -/
def rectMakesSpec : ChangeSpec := { name := "rectMakes", fn := fun _ => fun
  | [d1, d2, d3] => { results := [.lit (.bool true)], args := [d1, d2, d3] }
  | _ => none }
def rectMakesRow : OpenClaim := { program := "ytfdidkebomeiaaa", sum := "91e04b72805a8a923ab1d533088f288434d684d9b7dda52dce64ed3fa002c4ef", func := "muntin/muntinlaw21.RectMakes", spec := "rectMakes", unfollowed := true, recurses := true, plainKeys := false, apart := false }
def RectMakesSaid : Prop := rectMakesRow.holds Try.pinned (OpenSpec.ofChange rectMakesSpec)

/-- ITS FALSE NEIGHBOUR: 'it returns false'. Refute it at one input. -/
def rectMakesWrong : ChangeSpec := { name := "rectMakes", fn := fun _ => fun
  | [d1, d2, d3] => { results := [.lit (.bool false)], args := [d1, d2, d3] }
  | _ => none }
def RectMakesWrongFalsely : Prop := rectMakesRow.holds Try.pinned (OpenSpec.ofChange rectMakesWrong)

/-- 'muntinlaw21.RectKeeps': WHATEVER THE INPUT: true; the input reads as it did. -/
def rectKeepsSpec : ChangeSpec := { name := "rectKeeps", fn := fun _ => fun
  | [d] => { results := [.lit (.bool true)], args := [d] }
  | _ => none }
def rectKeepsRow : OpenClaim := { program := "ytfdidkebomeiaaa", sum := "91e04b72805a8a923ab1d533088f288434d684d9b7dda52dce64ed3fa002c4ef", func := "muntin/muntinlaw21.RectKeeps", spec := "rectKeeps", unfollowed := true, recurses := true, plainKeys := false, apart := false }
def RectKeepsSaid : Prop := rectKeepsRow.holds Try.pinned (OpenSpec.ofChange rectKeepsSpec)

/-- ITS FALSE NEIGHBOUR: 'it returns false'. Refute it at one input. -/
def rectKeepsWrong : ChangeSpec := { name := "rectKeeps", fn := fun _ => fun
  | [d] => { results := [.lit (.bool false)], args := [d] }
  | _ => none }
def RectKeepsWrongFalsely : Prop := rectKeepsRow.holds Try.pinned (OpenSpec.ofChange rectKeepsWrong)

/-- 'muntinlaw21.RectCounts': WHATEVER THE INPUT: true; the input reads as it did. -/
def rectCountsSpec : ChangeSpec := { name := "rectCounts", fn := fun _ => fun
  | [d] => { results := [.lit (.bool true)], args := [d] }
  | _ => none }
def rectCountsRow : OpenClaim := { program := "ytfdidkebomeiaaa", sum := "91e04b72805a8a923ab1d533088f288434d684d9b7dda52dce64ed3fa002c4ef", func := "muntin/muntinlaw21.RectCounts", spec := "rectCounts", unfollowed := true, recurses := true, plainKeys := false, apart := false }
def RectCountsSaid : Prop := rectCountsRow.holds Try.pinned (OpenSpec.ofChange rectCountsSpec)

/-- ITS FALSE NEIGHBOUR: 'it returns false'. Refute it at one input. -/
def rectCountsWrong : ChangeSpec := { name := "rectCounts", fn := fun _ => fun
  | [d] => { results := [.lit (.bool false)], args := [d] }
  | _ => none }
def RectCountsWrongFalsely : Prop := rectCountsRow.holds Try.pinned (OpenSpec.ofChange rectCountsWrong)

/-- 'muntinlaw19.SepHolds': WHATEVER THE INPUT: true; the input reads as it did. -/
def sepHoldsSpec : ChangeSpec := { name := "sepHolds", fn := fun _ => fun
  | [d1, d2, d3] => { results := [.lit (.bool true)], args := [d1, d2, d3] }
  | _ => none }
def sepHoldsRow : OpenClaim := { program := "ytfdidkebomeiaaa", sum := "91e04b72805a8a923ab1d533088f288434d684d9b7dda52dce64ed3fa002c4ef", func := "muntin/muntinlaw19.SepHolds", spec := "sepHolds", unfollowed := true, recurses := true, plainKeys := false, apart := false }
def SepHoldsSaid : Prop := sepHoldsRow.holds Try.pinned (OpenSpec.ofChange sepHoldsSpec)

/-- ITS FALSE NEIGHBOUR: 'it returns false'. Refute it at one input. -/
def sepHoldsWrong : ChangeSpec := { name := "sepHolds", fn := fun _ => fun
  | [d1, d2, d3] => { results := [.lit (.bool false)], args := [d1, d2, d3] }
  | _ => none }
def SepHoldsWrongFalsely : Prop := sepHoldsRow.holds Try.pinned (OpenSpec.ofChange sepHoldsWrong)

/-- 'muntinlaw19.SepMakes': WHATEVER THE INPUT: true; the input reads as it did. -/
def sepMakesSpec : ChangeSpec := { name := "sepMakes", fn := fun _ => fun
  | [d1, d2, d3] => { results := [.lit (.bool true)], args := [d1, d2, d3] }
  | _ => none }
def sepMakesRow : OpenClaim := { program := "ytfdidkebomeiaaa", sum := "91e04b72805a8a923ab1d533088f288434d684d9b7dda52dce64ed3fa002c4ef", func := "muntin/muntinlaw19.SepMakes", spec := "sepMakes", unfollowed := true, recurses := true, plainKeys := false, apart := false }
def SepMakesSaid : Prop := sepMakesRow.holds Try.pinned (OpenSpec.ofChange sepMakesSpec)

/-- ITS FALSE NEIGHBOUR: 'it returns false'. Refute it at one input. -/
def sepMakesWrong : ChangeSpec := { name := "sepMakes", fn := fun _ => fun
  | [d1, d2, d3] => { results := [.lit (.bool false)], args := [d1, d2, d3] }
  | _ => none }
def SepMakesWrongFalsely : Prop := sepMakesRow.holds Try.pinned (OpenSpec.ofChange sepMakesWrong)

/-- 'muntinlaw19.SepTurns': WHATEVER THE INPUT: true; the input reads as it did. -/
def sepTurnsSpec : ChangeSpec := { name := "sepTurns", fn := fun _ => fun
  | [d] => { results := [.lit (.bool true)], args := [d] }
  | _ => none }
def sepTurnsRow : OpenClaim := { program := "ytfdidkebomeiaaa", sum := "91e04b72805a8a923ab1d533088f288434d684d9b7dda52dce64ed3fa002c4ef", func := "muntin/muntinlaw19.SepTurns", spec := "sepTurns", unfollowed := true, recurses := true, plainKeys := false, apart := false }
def SepTurnsSaid : Prop := sepTurnsRow.holds Try.pinned (OpenSpec.ofChange sepTurnsSpec)

/-- ITS FALSE NEIGHBOUR: 'it returns false'. Refute it at one input. -/
def sepTurnsWrong : ChangeSpec := { name := "sepTurns", fn := fun _ => fun
  | [d] => { results := [.lit (.bool false)], args := [d] }
  | _ => none }
def SepTurnsWrongFalsely : Prop := sepTurnsRow.holds Try.pinned (OpenSpec.ofChange sepTurnsWrong)

/- THE SECOND FORM. 'bulk': how many values and letters a reading holds, each counted each time it is reached (what is shared counts as often as it is met; a slice's spare places count too). A statement '..UptoSaid' is the law's where the arguments, and the package variables that the reading takes, are together of bulk at most 1048576: NARROWER than '..Said'. Prove '..Said' where nothing that the law and all that it calls make is longer than what came in: it says more and counts as full. Else prove '..UptoSaid'. A law counts once. -/
mutual
def uptoBulk {H : Type} : DataW H → Nat
  | .lit (.string bytes) => bytes.length + 1
  | .lit _ => 1
  | .nil => 1
  | .ptr d => uptoBulk d + 1
  | .slice elems spare => uptoBulkAll elems + uptoBulkAll spare + 1
  | .agg parts => uptoBulkAll parts + 1
  | .iface _ d => uptoBulk d + 1
  | .map entries => uptoBulkEntries entries + 1
  | .held _ => 1
def uptoBulkAll {H : Type} : List (DataW H) → Nat
  | [] => 0
  | d :: r => uptoBulk d + uptoBulkAll r
def uptoBulkEntries {H : Type} : List (Lit × DataW H) → Nat
  | [] => 0
  | x :: r => uptoBulkEntry x + uptoBulkEntries r
def uptoBulkEntry {H : Type} : Lit × DataW H → Nat
  | (.string bytes, d) => bytes.length + uptoBulk d + 1
  | (_, d) => uptoBulk d + 1
 end
def uptoSmall : (H : Type) → List (DataW H) → Bool := fun _ ds => decide (uptoBulkAll ds ≤ 1048576)
def OpenSpec.upto (s : _root_.Go.ChangeSpec) : _root_.Go.OpenSpec := { _root_.Go.OpenSpec.ofChange s with cond := some uptoSmall }

/-- 'muntinlaw22.RegularMade', WHERE WHAT IT READS IS OF BULK AT MOST 1048576: true; the input reads as it did. -/
def regularMadeUptoRow : OpenClaim := { program := "ytfdidkebomeiaaa", sum := "91e04b72805a8a923ab1d533088f288434d684d9b7dda52dce64ed3fa002c4ef", func := "muntin/muntinlaw22.RegularMade", spec := "regularMade", unfollowed := true, recurses := true, plainKeys := false, apart := false, narrowed := true }
def RegularMadeUptoSaid : Prop := regularMadeUptoRow.holds Try.pinned (OpenSpec.upto regularMadeSpec)

/-- 'muntinlaw22.RegularDraws', WHERE WHAT IT READS IS OF BULK AT MOST 1048576: true; the input reads as it did. -/
def regularDrawsUptoRow : OpenClaim := { program := "ytfdidkebomeiaaa", sum := "91e04b72805a8a923ab1d533088f288434d684d9b7dda52dce64ed3fa002c4ef", func := "muntin/muntinlaw22.RegularDraws", spec := "regularDraws", unfollowed := true, recurses := true, plainKeys := false, apart := false, narrowed := true }
def RegularDrawsUptoSaid : Prop := regularDrawsUptoRow.holds Try.pinned (OpenSpec.upto regularDrawsSpec)

/-- 'muntinlaw22.RegularAgain', WHERE WHAT IT READS IS OF BULK AT MOST 1048576: true; the input reads as it did. -/
def regularAgainUptoRow : OpenClaim := { program := "ytfdidkebomeiaaa", sum := "91e04b72805a8a923ab1d533088f288434d684d9b7dda52dce64ed3fa002c4ef", func := "muntin/muntinlaw22.RegularAgain", spec := "regularAgain", unfollowed := true, recurses := true, plainKeys := false, apart := false, narrowed := true }
def RegularAgainUptoSaid : Prop := regularAgainUptoRow.holds Try.pinned (OpenSpec.upto regularAgainSpec)

/-- 'muntinlaw26.CheckTells', WHERE WHAT IT READS IS OF BULK AT MOST 1048576: true; the input reads as it did. -/
def checkTellsUptoRow : OpenClaim := { program := "ytfdidkebomeiaaa", sum := "91e04b72805a8a923ab1d533088f288434d684d9b7dda52dce64ed3fa002c4ef", func := "muntin/muntinlaw26.CheckTells", spec := "checkTells", unfollowed := true, recurses := true, plainKeys := false, apart := false, narrowed := true }
def CheckTellsUptoSaid : Prop := checkTellsUptoRow.holds Try.pinned (OpenSpec.upto checkTellsSpec)

/-- 'muntinlaw26.CheckTurns', WHERE WHAT IT READS IS OF BULK AT MOST 1048576: true; the input reads as it did. -/
def checkTurnsUptoRow : OpenClaim := { program := "ytfdidkebomeiaaa", sum := "91e04b72805a8a923ab1d533088f288434d684d9b7dda52dce64ed3fa002c4ef", func := "muntin/muntinlaw26.CheckTurns", spec := "checkTurns", unfollowed := true, recurses := true, plainKeys := false, apart := false, narrowed := true }
def CheckTurnsUptoSaid : Prop := checkTurnsUptoRow.holds Try.pinned (OpenSpec.upto checkTurnsSpec)

/-- 'muntinlaw21.RectTells', WHERE WHAT IT READS IS OF BULK AT MOST 1048576: true; the input reads as it did. -/
def rectTellsUptoRow : OpenClaim := { program := "ytfdidkebomeiaaa", sum := "91e04b72805a8a923ab1d533088f288434d684d9b7dda52dce64ed3fa002c4ef", func := "muntin/muntinlaw21.RectTells", spec := "rectTells", unfollowed := true, recurses := true, plainKeys := false, apart := false, narrowed := true }
def RectTellsUptoSaid : Prop := rectTellsUptoRow.holds Try.pinned (OpenSpec.upto rectTellsSpec)

/-- 'muntinlaw21.RectMakes', WHERE WHAT IT READS IS OF BULK AT MOST 1048576: true; the input reads as it did. -/
def rectMakesUptoRow : OpenClaim := { program := "ytfdidkebomeiaaa", sum := "91e04b72805a8a923ab1d533088f288434d684d9b7dda52dce64ed3fa002c4ef", func := "muntin/muntinlaw21.RectMakes", spec := "rectMakes", unfollowed := true, recurses := true, plainKeys := false, apart := false, narrowed := true }
def RectMakesUptoSaid : Prop := rectMakesUptoRow.holds Try.pinned (OpenSpec.upto rectMakesSpec)

/-- 'muntinlaw21.RectKeeps', WHERE WHAT IT READS IS OF BULK AT MOST 1048576: true; the input reads as it did. -/
def rectKeepsUptoRow : OpenClaim := { program := "ytfdidkebomeiaaa", sum := "91e04b72805a8a923ab1d533088f288434d684d9b7dda52dce64ed3fa002c4ef", func := "muntin/muntinlaw21.RectKeeps", spec := "rectKeeps", unfollowed := true, recurses := true, plainKeys := false, apart := false, narrowed := true }
def RectKeepsUptoSaid : Prop := rectKeepsUptoRow.holds Try.pinned (OpenSpec.upto rectKeepsSpec)

/-- 'muntinlaw21.RectCounts', WHERE WHAT IT READS IS OF BULK AT MOST 1048576: true; the input reads as it did. -/
def rectCountsUptoRow : OpenClaim := { program := "ytfdidkebomeiaaa", sum := "91e04b72805a8a923ab1d533088f288434d684d9b7dda52dce64ed3fa002c4ef", func := "muntin/muntinlaw21.RectCounts", spec := "rectCounts", unfollowed := true, recurses := true, plainKeys := false, apart := false, narrowed := true }
def RectCountsUptoSaid : Prop := rectCountsUptoRow.holds Try.pinned (OpenSpec.upto rectCountsSpec)

/-- 'muntinlaw19.SepHolds', WHERE WHAT IT READS IS OF BULK AT MOST 1048576: true; the input reads as it did. -/
def sepHoldsUptoRow : OpenClaim := { program := "ytfdidkebomeiaaa", sum := "91e04b72805a8a923ab1d533088f288434d684d9b7dda52dce64ed3fa002c4ef", func := "muntin/muntinlaw19.SepHolds", spec := "sepHolds", unfollowed := true, recurses := true, plainKeys := false, apart := false, narrowed := true }
def SepHoldsUptoSaid : Prop := sepHoldsUptoRow.holds Try.pinned (OpenSpec.upto sepHoldsSpec)

/-- 'muntinlaw19.SepMakes', WHERE WHAT IT READS IS OF BULK AT MOST 1048576: true; the input reads as it did. -/
def sepMakesUptoRow : OpenClaim := { program := "ytfdidkebomeiaaa", sum := "91e04b72805a8a923ab1d533088f288434d684d9b7dda52dce64ed3fa002c4ef", func := "muntin/muntinlaw19.SepMakes", spec := "sepMakes", unfollowed := true, recurses := true, plainKeys := false, apart := false, narrowed := true }
def SepMakesUptoSaid : Prop := sepMakesUptoRow.holds Try.pinned (OpenSpec.upto sepMakesSpec)

/-- 'muntinlaw19.SepTurns', WHERE WHAT IT READS IS OF BULK AT MOST 1048576: true; the input reads as it did. -/
def sepTurnsUptoRow : OpenClaim := { program := "ytfdidkebomeiaaa", sum := "91e04b72805a8a923ab1d533088f288434d684d9b7dda52dce64ed3fa002c4ef", func := "muntin/muntinlaw19.SepTurns", spec := "sepTurns", unfollowed := true, recurses := true, plainKeys := false, apart := false, narrowed := true }
def SepTurnsUptoSaid : Prop := sepTurnsUptoRow.holds Try.pinned (OpenSpec.upto sepTurnsSpec)

end Rows
end Go.Proofs.Ytfdidkebomeiaaa
