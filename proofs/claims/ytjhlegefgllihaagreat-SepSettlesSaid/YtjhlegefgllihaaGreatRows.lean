/-
  No cell of these rows narrows 'for every input' (looked for: loops, veiled, ifaces, maps, wideKeys, modest, calm, conditions, laid).
  DERIVED. THE GIVEN ROWS OF THIS SEAT. 5 by the template 'for every input the law returns true; each argument reads behind the call as it read before'; 0 by the template 'total and deterministic' (their statements: YtjhlegefgllihaaGreatTotals.lean).
  GIVEN WITH THE SEED: the statements are not yours to turn. If you find one false, say at which input.
  Laid BY PROGRAM, IN A SANDBOX (cutbox-rows.mjs): the forced cells as the released guide's own fill.sh prints them over the translation b652a7e0d82fc82c… (all of the seat's roots in one cut). By AI agents, Wed Nov 11 2026. No macro, syntax, notation, axiom, sorry.
-/
import Derived.Test.YtjhlegefgllihaaGreatChecked
import GoSem.Claim
import GoSem.ClaimJoined
import GoSem.ClaimMapViews
import Derived.JoinedTies
import Derived.KernelRfl
namespace Go.Proofs.YtjhlegefgllihaaGreat
/- THE CELL 'sum', in the pinned program and in every row, IS THE sha256 OF THE DUMP (.gsa) THAT YtjhlegefgllihaaGreatProg.lean LOADS. Nothing in Lean hashes anything: it is a label: what it is worth is what the hold of that sum in a sandbox is worth. -/
noncomputable def Tryz.pinned : Pinned := { name := "ytjhlegefgllihaagreat", sum := "b652a7e0d82fc82c2794ed2168000a5af631aa7764458e179b1c9c0089c151fc", checked := Tryz.checked }
namespace Rows
def none {H : Type} : Left H := { results := [], args := [] }

/-- 'muntinlaw19.SepSettles': WHATEVER THE INPUT: true; the input reads as it did. -/
def sepSettlesSpec : ChangeSpec := { name := "sepSettles", fn := fun _ => fun
  | [d1, d2, d3] => { results := [.lit (.bool true)], args := [d1, d2, d3] }
  | _ => none }
def sepSettlesRow : OpenClaim := { program := "ytjhlegefgllihaagreat", sum := "b652a7e0d82fc82c2794ed2168000a5af631aa7764458e179b1c9c0089c151fc", func := "muntin/muntinlaw19.SepSettles", spec := "sepSettles", unfollowed := true, recurses := true, plainKeys := false, apart := false }
def SepSettlesSaid : Prop := sepSettlesRow.holds Tryz.pinned (OpenSpec.ofChange sepSettlesSpec)

/-- ITS FALSE NEIGHBOUR: 'it returns false'. Refute it at one input. -/
def sepSettlesWrong : ChangeSpec := { name := "sepSettles", fn := fun _ => fun
  | [d1, d2, d3] => { results := [.lit (.bool false)], args := [d1, d2, d3] }
  | _ => none }
def SepSettlesWrongFalsely : Prop := sepSettlesRow.holds Tryz.pinned (OpenSpec.ofChange sepSettlesWrong)

/-- 'muntinlaw23.LongDraws': WHATEVER THE INPUT: true; the input reads as it did. -/
def longDrawsSpec : ChangeSpec := { name := "longDraws", fn := fun _ => fun
  | [d1, d2, d3] => { results := [.lit (.bool true)], args := [d1, d2, d3] }
  | _ => none }
def longDrawsRow : OpenClaim := { program := "ytjhlegefgllihaagreat", sum := "b652a7e0d82fc82c2794ed2168000a5af631aa7764458e179b1c9c0089c151fc", func := "muntin/muntinlaw23.LongDraws", spec := "longDraws", unfollowed := true, recurses := true, plainKeys := false, apart := false }
def LongDrawsSaid : Prop := longDrawsRow.holds Tryz.pinned (OpenSpec.ofChange longDrawsSpec)

/-- ITS FALSE NEIGHBOUR: 'it returns false'. Refute it at one input. -/
def longDrawsWrong : ChangeSpec := { name := "longDraws", fn := fun _ => fun
  | [d1, d2, d3] => { results := [.lit (.bool false)], args := [d1, d2, d3] }
  | _ => none }
def LongDrawsWrongFalsely : Prop := longDrawsRow.holds Tryz.pinned (OpenSpec.ofChange longDrawsWrong)

/-- 'muntinlaw23.LongBest': WHATEVER THE INPUT: true; the input reads as it did. -/
def longBestSpec : ChangeSpec := { name := "longBest", fn := fun _ => fun
  | [d1, d2, d3] => { results := [.lit (.bool true)], args := [d1, d2, d3] }
  | _ => none }
def longBestRow : OpenClaim := { program := "ytjhlegefgllihaagreat", sum := "b652a7e0d82fc82c2794ed2168000a5af631aa7764458e179b1c9c0089c151fc", func := "muntin/muntinlaw23.LongBest", spec := "longBest", unfollowed := true, recurses := true, plainKeys := false, apart := false }
def LongBestSaid : Prop := longBestRow.holds Tryz.pinned (OpenSpec.ofChange longBestSpec)

/-- ITS FALSE NEIGHBOUR: 'it returns false'. Refute it at one input. -/
def longBestWrong : ChangeSpec := { name := "longBest", fn := fun _ => fun
  | [d1, d2, d3] => { results := [.lit (.bool false)], args := [d1, d2, d3] }
  | _ => none }
def LongBestWrongFalsely : Prop := longBestRow.holds Tryz.pinned (OpenSpec.ofChange longBestWrong)

/-- 'muntinlaw23.LongTurns': WHATEVER THE INPUT: true; the input reads as it did. -/
def longTurnsSpec : ChangeSpec := { name := "longTurns", fn := fun _ => fun
  | [d1, d2] => { results := [.lit (.bool true)], args := [d1, d2] }
  | _ => none }
def longTurnsRow : OpenClaim := { program := "ytjhlegefgllihaagreat", sum := "b652a7e0d82fc82c2794ed2168000a5af631aa7764458e179b1c9c0089c151fc", func := "muntin/muntinlaw23.LongTurns", spec := "longTurns", unfollowed := true, recurses := true, plainKeys := false, apart := false }
def LongTurnsSaid : Prop := longTurnsRow.holds Tryz.pinned (OpenSpec.ofChange longTurnsSpec)

/-- ITS FALSE NEIGHBOUR: 'it returns false'. Refute it at one input. -/
def longTurnsWrong : ChangeSpec := { name := "longTurns", fn := fun _ => fun
  | [d1, d2] => { results := [.lit (.bool false)], args := [d1, d2] }
  | _ => none }
def LongTurnsWrongFalsely : Prop := longTurnsRow.holds Tryz.pinned (OpenSpec.ofChange longTurnsWrong)

/-- 'muntinlaw23.LongTells': WHATEVER THE INPUT: true; the input reads as it did. -/
def longTellsSpec : ChangeSpec := { name := "longTells", fn := fun _ => fun
  | [d1, d2, d3] => { results := [.lit (.bool true)], args := [d1, d2, d3] }
  | _ => none }
def longTellsRow : OpenClaim := { program := "ytjhlegefgllihaagreat", sum := "b652a7e0d82fc82c2794ed2168000a5af631aa7764458e179b1c9c0089c151fc", func := "muntin/muntinlaw23.LongTells", spec := "longTells", unfollowed := true, recurses := true, plainKeys := false, apart := false }
def LongTellsSaid : Prop := longTellsRow.holds Tryz.pinned (OpenSpec.ofChange longTellsSpec)

/-- ITS FALSE NEIGHBOUR: 'it returns false'. Refute it at one input. -/
def longTellsWrong : ChangeSpec := { name := "longTells", fn := fun _ => fun
  | [d1, d2, d3] => { results := [.lit (.bool false)], args := [d1, d2, d3] }
  | _ => none }
def LongTellsWrongFalsely : Prop := longTellsRow.holds Tryz.pinned (OpenSpec.ofChange longTellsWrong)

/- THE SECOND FORM. 'bulk': how many values and letters a reading holds, each counted each time it is reached (what is shared counts as often as it is met; a slice's spare places count too). A statement '..UptoSaid' is the law's where the arguments, and the package variables that the reading takes, are together of bulk at most 1048576: NARROWER than '..Said'. Prove '..Said' where nothing that the law and all that it calls make is longer than what came in: it says more and counts as full. Else prove '..UptoSaid'. A law counts once. -/
mutual
def uptoBulk {H : Type} : DataW H → Nat
  | .lit (.string bytes) => bytes.length + 1
  | .lit _ => 1
  | .nil => 1
  | .ptr d => uptoBulk d + 1
  | .slice elems spare => uptoBulkAll elems + uptoBulkAll spare + 1
  | .agg parts => uptoBulkAll parts + 1
  | .iface _ d => uptoBulk d + 1
  | .map entries => uptoBulkEntries entries + 1
  | .held _ => 1
def uptoBulkAll {H : Type} : List (DataW H) → Nat
  | [] => 0
  | d :: r => uptoBulk d + uptoBulkAll r
def uptoBulkEntries {H : Type} : List (Lit × DataW H) → Nat
  | [] => 0
  | x :: r => uptoBulkEntry x + uptoBulkEntries r
def uptoBulkEntry {H : Type} : Lit × DataW H → Nat
  | (.string bytes, d) => bytes.length + uptoBulk d + 1
  | (_, d) => uptoBulk d + 1
 end
def uptoSmall : (H : Type) → List (DataW H) → Bool := fun _ ds => decide (uptoBulkAll ds ≤ 1048576)
def OpenSpec.upto (s : _root_.Go.ChangeSpec) : _root_.Go.OpenSpec := { _root_.Go.OpenSpec.ofChange s with cond := some uptoSmall }

/-- 'muntinlaw19.SepSettles', WHERE WHAT IT READS IS OF BULK AT MOST 1048576: true; the input reads as it did. -/
def sepSettlesUptoRow : OpenClaim := { program := "ytjhlegefgllihaagreat", sum := "b652a7e0d82fc82c2794ed2168000a5af631aa7764458e179b1c9c0089c151fc", func := "muntin/muntinlaw19.SepSettles", spec := "sepSettles", unfollowed := true, recurses := true, plainKeys := false, apart := false, narrowed := true }
def SepSettlesUptoSaid : Prop := sepSettlesUptoRow.holds Tryz.pinned (OpenSpec.upto sepSettlesSpec)

/-- 'muntinlaw23.LongDraws', WHERE WHAT IT READS IS OF BULK AT MOST 1048576: true; the input reads as it did. -/
def longDrawsUptoRow : OpenClaim := { program := "ytjhlegefgllihaagreat", sum := "b652a7e0d82fc82c2794ed2168000a5af631aa7764458e179b1c9c0089c151fc", func := "muntin/muntinlaw23.LongDraws", spec := "longDraws", unfollowed := true, recurses := true, plainKeys := false, apart := false, narrowed := true }
def LongDrawsUptoSaid : Prop := longDrawsUptoRow.holds Tryz.pinned (OpenSpec.upto longDrawsSpec)

/-- 'muntinlaw23.LongBest', WHERE WHAT IT READS IS OF BULK AT MOST 1048576: true; the input reads as it did. -/
def longBestUptoRow : OpenClaim := { program := "ytjhlegefgllihaagreat", sum := "b652a7e0d82fc82c2794ed2168000a5af631aa7764458e179b1c9c0089c151fc", func := "muntin/muntinlaw23.LongBest", spec := "longBest", unfollowed := true, recurses := true, plainKeys := false, apart := false, narrowed := true }
def LongBestUptoSaid : Prop := longBestUptoRow.holds Tryz.pinned (OpenSpec.upto longBestSpec)

/-- 'muntinlaw23.LongTurns', WHERE WHAT IT READS IS OF BULK AT MOST 1048576: true; the input reads as it did. -/
def longTurnsUptoRow : OpenClaim := { program := "ytjhlegefgllihaagreat", sum := "b652a7e0d82fc82c2794ed2168000a5af631aa7764458e179b1c9c0089c151fc", func := "muntin/muntinlaw23.LongTurns", spec := "longTurns", unfollowed := true, recurses := true, plainKeys := false, apart := false, narrowed := true }
def LongTurnsUptoSaid : Prop := longTurnsUptoRow.holds Tryz.pinned (OpenSpec.upto longTurnsSpec)

/-- 'muntinlaw23.LongTells', WHERE WHAT IT READS IS OF BULK AT MOST 1048576: true; the input reads as it did. -/
def longTellsUptoRow : OpenClaim := { program := "ytjhlegefgllihaagreat", sum := "b652a7e0d82fc82c2794ed2168000a5af631aa7764458e179b1c9c0089c151fc", func := "muntin/muntinlaw23.LongTells", spec := "longTells", unfollowed := true, recurses := true, plainKeys := false, apart := false, narrowed := true }
def LongTellsUptoSaid : Prop := longTellsUptoRow.holds Tryz.pinned (OpenSpec.upto longTellsSpec)

end Rows
end Go.Proofs.YtjhlegefgllihaaGreat
