/-
  No cell of these rows narrows 'for every input' (looked for: loops, veiled, ifaces, maps, wideKeys, modest, calm, conditions, laid).
  DERIVED. THE GIVEN ROWS OF THIS SEAT. 12 by the template 'for every input the law returns true; each argument reads behind the call as it read before'; 0 by the template 'total and deterministic' (their statements: YteedifiifkghkaaTotals.lean).
  GIVEN WITH THE SEED: the statements are not yours to turn. If you find one false, say at which input.
  Laid BY PROGRAM, IN A SANDBOX (cutbox-rows.mjs): the forced cells as the released guide's own fill.sh prints them over the translation 15bbc7ffd29cdbb3… (all of the seat's roots in one cut). By AI agents, Wed Nov 11 2026. No macro, syntax, notation, axiom, sorry.
-/
import Derived.Test.YteedifiifkghkaaChecked
import GoSem.Claim
import GoSem.ClaimJoined
import GoSem.ClaimMapViews
import Derived.JoinedTies
import Derived.KernelRfl
namespace Go.Proofs.Yteedifiifkghkaa
/- THE CELL 'sum', in the pinned program and in every row, IS THE sha256 OF THE DUMP (.gsa) THAT YteedifiifkghkaaProg.lean LOADS. Nothing in Lean hashes anything: it is a label: what it is worth is what the hold of that sum in a sandbox is worth. -/
noncomputable def Try.pinned : Pinned := { name := "yteedifiifkghkaa", sum := "15bbc7ffd29cdbb3f11ffb383a780ea76d452d8035ed5936b8c2df9dcff6b985", checked := Try.checked }
namespace Rows
def none {H : Type} : Left H := { results := [], args := [] }

/-- 'muntinlaw20.FrontTells': WHATEVER THE INPUT: true; the input reads as it did. -/
def frontTellsSpec : ChangeSpec := { name := "frontTells", fn := fun _ => fun
  | [d1, d2] => { results := [.lit (.bool true)], args := [d1, d2] }
  | _ => none }
def frontTellsRow : OpenClaim := { program := "yteedifiifkghkaa", sum := "15bbc7ffd29cdbb3f11ffb383a780ea76d452d8035ed5936b8c2df9dcff6b985", func := "muntin/muntinlaw20.FrontTells", spec := "frontTells", unfollowed := true, recurses := true, apart := false }
def FrontTellsSaid : Prop := frontTellsRow.holds Try.pinned (OpenSpec.ofChange frontTellsSpec)

/-- ITS FALSE NEIGHBOUR: 'it returns false'. Refute it at one input. -/
def frontTellsWrong : ChangeSpec := { name := "frontTells", fn := fun _ => fun
  | [d1, d2] => { results := [.lit (.bool false)], args := [d1, d2] }
  | _ => none }
def FrontTellsWrongFalsely : Prop := frontTellsRow.holds Try.pinned (OpenSpec.ofChange frontTellsWrong)

/-- 'muntinlaw20.FrontAlways': WHATEVER THE INPUT: true; the input reads as it did. -/
def frontAlwaysSpec : ChangeSpec := { name := "frontAlways", fn := fun _ => fun
  | [d] => { results := [.lit (.bool true)], args := [d] }
  | _ => none }
def frontAlwaysRow : OpenClaim := { program := "yteedifiifkghkaa", sum := "15bbc7ffd29cdbb3f11ffb383a780ea76d452d8035ed5936b8c2df9dcff6b985", func := "muntin/muntinlaw20.FrontAlways", spec := "frontAlways", unfollowed := true, recurses := true, apart := false }
def FrontAlwaysSaid : Prop := frontAlwaysRow.holds Try.pinned (OpenSpec.ofChange frontAlwaysSpec)

/-- ITS FALSE NEIGHBOUR: 'it returns false'. Refute it at one input. -/
def frontAlwaysWrong : ChangeSpec := { name := "frontAlways", fn := fun _ => fun
  | [d] => { results := [.lit (.bool false)], args := [d] }
  | _ => none }
def FrontAlwaysWrongFalsely : Prop := frontAlwaysRow.holds Try.pinned (OpenSpec.ofChange frontAlwaysWrong)

/-- 'muntinlaw20.FrontShifts': WHATEVER THE INPUT: true; the input reads as it did. -/
def frontShiftsSpec : ChangeSpec := { name := "frontShifts", fn := fun _ => fun
  | [d1, d2, d3] => { results := [.lit (.bool true)], args := [d1, d2, d3] }
  | _ => none }
def frontShiftsRow : OpenClaim := { program := "yteedifiifkghkaa", sum := "15bbc7ffd29cdbb3f11ffb383a780ea76d452d8035ed5936b8c2df9dcff6b985", func := "muntin/muntinlaw20.FrontShifts", spec := "frontShifts", unfollowed := true, recurses := true, apart := false }
def FrontShiftsSaid : Prop := frontShiftsRow.holds Try.pinned (OpenSpec.ofChange frontShiftsSpec)

/-- ITS FALSE NEIGHBOUR: 'it returns false'. Refute it at one input. -/
def frontShiftsWrong : ChangeSpec := { name := "frontShifts", fn := fun _ => fun
  | [d1, d2, d3] => { results := [.lit (.bool false)], args := [d1, d2, d3] }
  | _ => none }
def FrontShiftsWrongFalsely : Prop := frontShiftsRow.holds Try.pinned (OpenSpec.ofChange frontShiftsWrong)

/-- 'muntinlaw15.KittyTells': WHATEVER THE INPUT: true; the input reads as it did. -/
def kittyTellsSpec : ChangeSpec := { name := "kittyTells", fn := fun _ => fun
  | [d1, d2, d3] => { results := [.lit (.bool true)], args := [d1, d2, d3] }
  | _ => none }
def kittyTellsRow : OpenClaim := { program := "yteedifiifkghkaa", sum := "15bbc7ffd29cdbb3f11ffb383a780ea76d452d8035ed5936b8c2df9dcff6b985", func := "muntin/muntinlaw15.KittyTells", spec := "kittyTells", unfollowed := true, recurses := true, apart := false }
def KittyTellsSaid : Prop := kittyTellsRow.holds Try.pinned (OpenSpec.ofChange kittyTellsSpec)

/-- ITS FALSE NEIGHBOUR: 'it returns false'. Refute it at one input. -/
def kittyTellsWrong : ChangeSpec := { name := "kittyTells", fn := fun _ => fun
  | [d1, d2, d3] => { results := [.lit (.bool false)], args := [d1, d2, d3] }
  | _ => none }
def KittyTellsWrongFalsely : Prop := kittyTellsRow.holds Try.pinned (OpenSpec.ofChange kittyTellsWrong)

/-- 'muntinlaw15.KittyRound': WHATEVER THE INPUT: true; the input reads as it did. -/
def kittyRoundSpec : ChangeSpec := { name := "kittyRound", fn := fun _ => fun
  | [d] => { results := [.lit (.bool true)], args := [d] }
  | _ => none }
def kittyRoundRow : OpenClaim := { program := "yteedifiifkghkaa", sum := "15bbc7ffd29cdbb3f11ffb383a780ea76d452d8035ed5936b8c2df9dcff6b985", func := "muntin/muntinlaw15.KittyRound", spec := "kittyRound", unfollowed := true, recurses := true, apart := false }
def KittyRoundSaid : Prop := kittyRoundRow.holds Try.pinned (OpenSpec.ofChange kittyRoundSpec)

/-- ITS FALSE NEIGHBOUR: 'it returns false'. Refute it at one input. -/
def kittyRoundWrong : ChangeSpec := { name := "kittyRound", fn := fun _ => fun
  | [d] => { results := [.lit (.bool false)], args := [d] }
  | _ => none }
def KittyRoundWrongFalsely : Prop := kittyRoundRow.holds Try.pinned (OpenSpec.ofChange kittyRoundWrong)

/-- 'muntinlaw15.KittyTurns': WHATEVER THE INPUT: true; the input reads as it did. -/
def kittyTurnsSpec : ChangeSpec := { name := "kittyTurns", fn := fun _ => fun
  | [d1, d2, d3] => { results := [.lit (.bool true)], args := [d1, d2, d3] }
  | _ => none }
def kittyTurnsRow : OpenClaim := { program := "yteedifiifkghkaa", sum := "15bbc7ffd29cdbb3f11ffb383a780ea76d452d8035ed5936b8c2df9dcff6b985", func := "muntin/muntinlaw15.KittyTurns", spec := "kittyTurns", unfollowed := true, recurses := true, apart := false }
def KittyTurnsSaid : Prop := kittyTurnsRow.holds Try.pinned (OpenSpec.ofChange kittyTurnsSpec)

/-- ITS FALSE NEIGHBOUR: 'it returns false'. Refute it at one input. -/
def kittyTurnsWrong : ChangeSpec := { name := "kittyTurns", fn := fun _ => fun
  | [d1, d2, d3] => { results := [.lit (.bool false)], args := [d1, d2, d3] }
  | _ => none }
def KittyTurnsWrongFalsely : Prop := kittyTurnsRow.holds Try.pinned (OpenSpec.ofChange kittyTurnsWrong)

/-- 'muntinlaw13.JoinParts': WHATEVER THE INPUT: true; the input reads as it did. -/
def joinPartsSpec : ChangeSpec := { name := "joinParts", fn := fun _ => fun
  | [d1, d2] => { results := [.lit (.bool true)], args := [d1, d2] }
  | _ => none }
def joinPartsRow : OpenClaim := { program := "yteedifiifkghkaa", sum := "15bbc7ffd29cdbb3f11ffb383a780ea76d452d8035ed5936b8c2df9dcff6b985", func := "muntin/muntinlaw13.JoinParts", spec := "joinParts", apart := false }
def JoinPartsSaid : Prop := joinPartsRow.holds Try.pinned (OpenSpec.ofChange joinPartsSpec)

/-- ITS FALSE NEIGHBOUR: 'it returns false'. Refute it at one input. -/
def joinPartsWrong : ChangeSpec := { name := "joinParts", fn := fun _ => fun
  | [d1, d2] => { results := [.lit (.bool false)], args := [d1, d2] }
  | _ => none }
def JoinPartsWrongFalsely : Prop := joinPartsRow.holds Try.pinned (OpenSpec.ofChange joinPartsWrong)

/-- 'muntinlaw13.JoinPaths': WHATEVER THE INPUT: true; the input reads as it did. -/
def joinPathsSpec : ChangeSpec := { name := "joinPaths", fn := fun _ => fun
  | [d1, d2, d3] => { results := [.lit (.bool true)], args := [d1, d2, d3] }
  | _ => none }
def joinPathsRow : OpenClaim := { program := "yteedifiifkghkaa", sum := "15bbc7ffd29cdbb3f11ffb383a780ea76d452d8035ed5936b8c2df9dcff6b985", func := "muntin/muntinlaw13.JoinPaths", spec := "joinPaths", apart := false }
def JoinPathsSaid : Prop := joinPathsRow.holds Try.pinned (OpenSpec.ofChange joinPathsSpec)

/-- ITS FALSE NEIGHBOUR: 'it returns false'. Refute it at one input. -/
def joinPathsWrong : ChangeSpec := { name := "joinPaths", fn := fun _ => fun
  | [d1, d2, d3] => { results := [.lit (.bool false)], args := [d1, d2, d3] }
  | _ => none }
def JoinPathsWrongFalsely : Prop := joinPathsRow.holds Try.pinned (OpenSpec.ofChange joinPathsWrong)

/-- 'muntinlaw13.JoinBack': WHATEVER THE INPUT: true; the input reads as it did. -/
def joinBackSpec : ChangeSpec := { name := "joinBack", fn := fun _ => fun
  | [d1, d2] => { results := [.lit (.bool true)], args := [d1, d2] }
  | _ => none }
def joinBackRow : OpenClaim := { program := "yteedifiifkghkaa", sum := "15bbc7ffd29cdbb3f11ffb383a780ea76d452d8035ed5936b8c2df9dcff6b985", func := "muntin/muntinlaw13.JoinBack", spec := "joinBack", apart := false }
def JoinBackSaid : Prop := joinBackRow.holds Try.pinned (OpenSpec.ofChange joinBackSpec)

/-- ITS FALSE NEIGHBOUR: 'it returns false'. Refute it at one input. -/
def joinBackWrong : ChangeSpec := { name := "joinBack", fn := fun _ => fun
  | [d1, d2] => { results := [.lit (.bool false)], args := [d1, d2] }
  | _ => none }
def JoinBackWrongFalsely : Prop := joinBackRow.holds Try.pinned (OpenSpec.ofChange joinBackWrong)

/-- 'muntinlaw04.LayerLeast': WHATEVER THE INPUT: true; the input reads as it did. -/
def layerLeastSpec : ChangeSpec := { name := "layerLeast", fn := fun _ => fun
  | [d1, d2] => { results := [.lit (.bool true)], args := [d1, d2] }
  | _ => none }
def layerLeastRow : OpenClaim := { program := "yteedifiifkghkaa", sum := "15bbc7ffd29cdbb3f11ffb383a780ea76d452d8035ed5936b8c2df9dcff6b985", func := "muntin/muntinlaw04.LayerLeast", spec := "layerLeast", unfollowed := true, recurses := true, apart := false }
def LayerLeastSaid : Prop := layerLeastRow.holds Try.pinned (OpenSpec.ofChange layerLeastSpec)

/-- ITS FALSE NEIGHBOUR: 'it returns false'. Refute it at one input. -/
def layerLeastWrong : ChangeSpec := { name := "layerLeast", fn := fun _ => fun
  | [d1, d2] => { results := [.lit (.bool false)], args := [d1, d2] }
  | _ => none }
def LayerLeastWrongFalsely : Prop := layerLeastRow.holds Try.pinned (OpenSpec.ofChange layerLeastWrong)

/-- 'muntinlaw04.LayerTight': WHATEVER THE INPUT: true; the input reads as it did. -/
def layerTightSpec : ChangeSpec := { name := "layerTight", fn := fun _ => fun
  | [d] => { results := [.lit (.bool true)], args := [d] }
  | _ => none }
def layerTightRow : OpenClaim := { program := "yteedifiifkghkaa", sum := "15bbc7ffd29cdbb3f11ffb383a780ea76d452d8035ed5936b8c2df9dcff6b985", func := "muntin/muntinlaw04.LayerTight", spec := "layerTight", unfollowed := true, recurses := true, apart := false }
def LayerTightSaid : Prop := layerTightRow.holds Try.pinned (OpenSpec.ofChange layerTightSpec)

/-- ITS FALSE NEIGHBOUR: 'it returns false'. Refute it at one input. -/
def layerTightWrong : ChangeSpec := { name := "layerTight", fn := fun _ => fun
  | [d] => { results := [.lit (.bool false)], args := [d] }
  | _ => none }
def LayerTightWrongFalsely : Prop := layerTightRow.holds Try.pinned (OpenSpec.ofChange layerTightWrong)

/-- 'muntinlaw10.GridPlays': WHATEVER THE INPUT: true; the input reads as it did. -/
def gridPlaysSpec : ChangeSpec := { name := "gridPlays", fn := fun _ => fun
  | [d1, d2] => { results := [.lit (.bool true)], args := [d1, d2] }
  | _ => none }
def gridPlaysRow : OpenClaim := { program := "yteedifiifkghkaa", sum := "15bbc7ffd29cdbb3f11ffb383a780ea76d452d8035ed5936b8c2df9dcff6b985", func := "muntin/muntinlaw10.GridPlays", spec := "gridPlays", apart := false }
def GridPlaysSaid : Prop := gridPlaysRow.holds Try.pinned (OpenSpec.ofChange gridPlaysSpec)

/-- ITS FALSE NEIGHBOUR: 'it returns false'. Refute it at one input. -/
def gridPlaysWrong : ChangeSpec := { name := "gridPlays", fn := fun _ => fun
  | [d1, d2] => { results := [.lit (.bool false)], args := [d1, d2] }
  | _ => none }
def GridPlaysWrongFalsely : Prop := gridPlaysRow.holds Try.pinned (OpenSpec.ofChange gridPlaysWrong)

/- THE SECOND FORM. 'bulk': how many values and letters a reading holds, each counted each time it is reached (what is shared counts as often as it is met; a slice's spare places count too). A statement '..UptoSaid' is the law's where the arguments, and the package variables that the reading takes, are together of bulk at most 1048576: NARROWER than '..Said'. Prove '..Said' where nothing that the law and all that it calls make is longer than what came in: it says more and counts as full. Else prove '..UptoSaid'. A law counts once. -/
mutual
def uptoBulk {H : Type} : DataW H → Nat
  | .lit (.string bytes) => bytes.length + 1
  | .lit _ => 1
  | .nil => 1
  | .ptr d => uptoBulk d + 1
  | .slice elems spare => uptoBulkAll elems + uptoBulkAll spare + 1
  | .agg parts => uptoBulkAll parts + 1
  | .iface _ d => uptoBulk d + 1
  | .map entries => uptoBulkEntries entries + 1
  | .held _ => 1
def uptoBulkAll {H : Type} : List (DataW H) → Nat
  | [] => 0
  | d :: r => uptoBulk d + uptoBulkAll r
def uptoBulkEntries {H : Type} : List (Lit × DataW H) → Nat
  | [] => 0
  | x :: r => uptoBulkEntry x + uptoBulkEntries r
def uptoBulkEntry {H : Type} : Lit × DataW H → Nat
  | (.string bytes, d) => bytes.length + uptoBulk d + 1
  | (_, d) => uptoBulk d + 1
 end
def uptoSmall : (H : Type) → List (DataW H) → Bool := fun _ ds => decide (uptoBulkAll ds ≤ 1048576)
def OpenSpec.upto (s : _root_.Go.ChangeSpec) : _root_.Go.OpenSpec := { _root_.Go.OpenSpec.ofChange s with cond := some uptoSmall }

/-- 'muntinlaw20.FrontTells', WHERE WHAT IT READS IS OF BULK AT MOST 1048576: true; the input reads as it did. -/
def frontTellsUptoRow : OpenClaim := { program := "yteedifiifkghkaa", sum := "15bbc7ffd29cdbb3f11ffb383a780ea76d452d8035ed5936b8c2df9dcff6b985", func := "muntin/muntinlaw20.FrontTells", spec := "frontTells", unfollowed := true, recurses := true, apart := false, narrowed := true }
def FrontTellsUptoSaid : Prop := frontTellsUptoRow.holds Try.pinned (OpenSpec.upto frontTellsSpec)

/-- 'muntinlaw20.FrontAlways', WHERE WHAT IT READS IS OF BULK AT MOST 1048576: true; the input reads as it did. -/
def frontAlwaysUptoRow : OpenClaim := { program := "yteedifiifkghkaa", sum := "15bbc7ffd29cdbb3f11ffb383a780ea76d452d8035ed5936b8c2df9dcff6b985", func := "muntin/muntinlaw20.FrontAlways", spec := "frontAlways", unfollowed := true, recurses := true, apart := false, narrowed := true }
def FrontAlwaysUptoSaid : Prop := frontAlwaysUptoRow.holds Try.pinned (OpenSpec.upto frontAlwaysSpec)

/-- 'muntinlaw20.FrontShifts', WHERE WHAT IT READS IS OF BULK AT MOST 1048576: true; the input reads as it did. -/
def frontShiftsUptoRow : OpenClaim := { program := "yteedifiifkghkaa", sum := "15bbc7ffd29cdbb3f11ffb383a780ea76d452d8035ed5936b8c2df9dcff6b985", func := "muntin/muntinlaw20.FrontShifts", spec := "frontShifts", unfollowed := true, recurses := true, apart := false, narrowed := true }
def FrontShiftsUptoSaid : Prop := frontShiftsUptoRow.holds Try.pinned (OpenSpec.upto frontShiftsSpec)

/-- 'muntinlaw15.KittyTells', WHERE WHAT IT READS IS OF BULK AT MOST 1048576: true; the input reads as it did. -/
def kittyTellsUptoRow : OpenClaim := { program := "yteedifiifkghkaa", sum := "15bbc7ffd29cdbb3f11ffb383a780ea76d452d8035ed5936b8c2df9dcff6b985", func := "muntin/muntinlaw15.KittyTells", spec := "kittyTells", unfollowed := true, recurses := true, apart := false, narrowed := true }
def KittyTellsUptoSaid : Prop := kittyTellsUptoRow.holds Try.pinned (OpenSpec.upto kittyTellsSpec)

/-- 'muntinlaw15.KittyRound', WHERE WHAT IT READS IS OF BULK AT MOST 1048576: true; the input reads as it did. -/
def kittyRoundUptoRow : OpenClaim := { program := "yteedifiifkghkaa", sum := "15bbc7ffd29cdbb3f11ffb383a780ea76d452d8035ed5936b8c2df9dcff6b985", func := "muntin/muntinlaw15.KittyRound", spec := "kittyRound", unfollowed := true, recurses := true, apart := false, narrowed := true }
def KittyRoundUptoSaid : Prop := kittyRoundUptoRow.holds Try.pinned (OpenSpec.upto kittyRoundSpec)

/-- 'muntinlaw15.KittyTurns', WHERE WHAT IT READS IS OF BULK AT MOST 1048576: true; the input reads as it did. -/
def kittyTurnsUptoRow : OpenClaim := { program := "yteedifiifkghkaa", sum := "15bbc7ffd29cdbb3f11ffb383a780ea76d452d8035ed5936b8c2df9dcff6b985", func := "muntin/muntinlaw15.KittyTurns", spec := "kittyTurns", unfollowed := true, recurses := true, apart := false, narrowed := true }
def KittyTurnsUptoSaid : Prop := kittyTurnsUptoRow.holds Try.pinned (OpenSpec.upto kittyTurnsSpec)

/-- 'muntinlaw13.JoinParts', WHERE WHAT IT READS IS OF BULK AT MOST 1048576: true; the input reads as it did. -/
def joinPartsUptoRow : OpenClaim := { program := "yteedifiifkghkaa", sum := "15bbc7ffd29cdbb3f11ffb383a780ea76d452d8035ed5936b8c2df9dcff6b985", func := "muntin/muntinlaw13.JoinParts", spec := "joinParts", apart := false, narrowed := true }
def JoinPartsUptoSaid : Prop := joinPartsUptoRow.holds Try.pinned (OpenSpec.upto joinPartsSpec)

/-- 'muntinlaw13.JoinPaths', WHERE WHAT IT READS IS OF BULK AT MOST 1048576: true; the input reads as it did. -/
def joinPathsUptoRow : OpenClaim := { program := "yteedifiifkghkaa", sum := "15bbc7ffd29cdbb3f11ffb383a780ea76d452d8035ed5936b8c2df9dcff6b985", func := "muntin/muntinlaw13.JoinPaths", spec := "joinPaths", apart := false, narrowed := true }
def JoinPathsUptoSaid : Prop := joinPathsUptoRow.holds Try.pinned (OpenSpec.upto joinPathsSpec)

/-- 'muntinlaw13.JoinBack', WHERE WHAT IT READS IS OF BULK AT MOST 1048576: true; the input reads as it did. -/
def joinBackUptoRow : OpenClaim := { program := "yteedifiifkghkaa", sum := "15bbc7ffd29cdbb3f11ffb383a780ea76d452d8035ed5936b8c2df9dcff6b985", func := "muntin/muntinlaw13.JoinBack", spec := "joinBack", apart := false, narrowed := true }
def JoinBackUptoSaid : Prop := joinBackUptoRow.holds Try.pinned (OpenSpec.upto joinBackSpec)

/-- 'muntinlaw04.LayerLeast', WHERE WHAT IT READS IS OF BULK AT MOST 1048576: true; the input reads as it did. -/
def layerLeastUptoRow : OpenClaim := { program := "yteedifiifkghkaa", sum := "15bbc7ffd29cdbb3f11ffb383a780ea76d452d8035ed5936b8c2df9dcff6b985", func := "muntin/muntinlaw04.LayerLeast", spec := "layerLeast", unfollowed := true, recurses := true, apart := false, narrowed := true }
def LayerLeastUptoSaid : Prop := layerLeastUptoRow.holds Try.pinned (OpenSpec.upto layerLeastSpec)

/-- 'muntinlaw04.LayerTight', WHERE WHAT IT READS IS OF BULK AT MOST 1048576: true; the input reads as it did. -/
def layerTightUptoRow : OpenClaim := { program := "yteedifiifkghkaa", sum := "15bbc7ffd29cdbb3f11ffb383a780ea76d452d8035ed5936b8c2df9dcff6b985", func := "muntin/muntinlaw04.LayerTight", spec := "layerTight", unfollowed := true, recurses := true, apart := false, narrowed := true }
def LayerTightUptoSaid : Prop := layerTightUptoRow.holds Try.pinned (OpenSpec.upto layerTightSpec)

/-- 'muntinlaw10.GridPlays', WHERE WHAT IT READS IS OF BULK AT MOST 1048576: true; the input reads as it did. -/
def gridPlaysUptoRow : OpenClaim := { program := "yteedifiifkghkaa", sum := "15bbc7ffd29cdbb3f11ffb383a780ea76d452d8035ed5936b8c2df9dcff6b985", func := "muntin/muntinlaw10.GridPlays", spec := "gridPlays", apart := false, narrowed := true }
def GridPlaysUptoSaid : Prop := gridPlaysUptoRow.holds Try.pinned (OpenSpec.upto gridPlaysSpec)

end Rows
end Go.Proofs.Yteedifiifkghkaa
