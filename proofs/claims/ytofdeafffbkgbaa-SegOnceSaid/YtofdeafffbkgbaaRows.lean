/-
  No cell of these rows narrows 'for every input' (looked for: loops, veiled, ifaces, maps, wideKeys, modest, calm, conditions, laid).
  DERIVED. THE GIVEN ROWS OF THIS SEAT. 12 by the template 'for every input the law returns true; each argument reads behind the call as it read before'; 0 by the template 'total and deterministic' (their statements: YtofdeafffbkgbaaTotals.lean).
  GIVEN WITH THE SEED: the statements are not yours to turn. If you find one false, say at which input.
  Laid BY PROGRAM, IN A SANDBOX (cutbox-rows.mjs): the forced cells as the released guide's own fill.sh prints them over the translation 80cdaaa55f752ed8… (all of the seat's roots in one cut). By AI agents, Wed Nov 11 2026. No macro, syntax, notation, axiom, sorry.
-/
import Derived.Test.YtofdeafffbkgbaaChecked
import GoSem.Claim
import GoSem.ClaimJoined
import GoSem.ClaimMapViews
import Derived.JoinedTies
import Derived.KernelRfl
namespace Go.Proofs.Ytofdeafffbkgbaa
/- THE CELL 'sum', in the pinned program and in every row, IS THE sha256 OF THE DUMP (.gsa) THAT YtofdeafffbkgbaaProg.lean LOADS. Nothing in Lean hashes anything: it is a label: what it is worth is what the hold of that sum in a sandbox is worth. -/
noncomputable def Try.pinned : Pinned := { name := "ytofdeafffbkgbaa", sum := "80cdaaa55f752ed849e9d45ab52a53c7f5af68a2d6c8fc85c7893ff4d64703e4", checked := Try.checked }
namespace Rows
def none {H : Type} : Left H := { results := [], args := [] }

/-- 'muntinlaw10.GridNil': WHATEVER THE INPUT: true; the input reads as it did. -/
def gridNilSpec : ChangeSpec := { name := "gridNil", fn := fun _ => fun
  | [d1, d2, d3] => { results := [.lit (.bool true)], args := [d1, d2, d3] }
  | _ => none }
def gridNilRow : OpenClaim := { program := "ytofdeafffbkgbaa", sum := "80cdaaa55f752ed849e9d45ab52a53c7f5af68a2d6c8fc85c7893ff4d64703e4", func := "muntin/muntinlaw10.GridNil", spec := "gridNil", plainKeys := false, apart := false }
def GridNilSaid : Prop := gridNilRow.holds Try.pinned (OpenSpec.ofChange gridNilSpec)

/-- ITS FALSE NEIGHBOUR: 'it returns false'. Refute it at one input. -/
def gridNilWrong : ChangeSpec := { name := "gridNil", fn := fun _ => fun
  | [d1, d2, d3] => { results := [.lit (.bool false)], args := [d1, d2, d3] }
  | _ => none }
def GridNilWrongFalsely : Prop := gridNilRow.holds Try.pinned (OpenSpec.ofChange gridNilWrong)

/-- 'muntinlaw04.LayerTells': WHATEVER THE INPUT: true; the input reads as it did. -/
def layerTellsSpec : ChangeSpec := { name := "layerTells", fn := fun _ => fun
  | [d1, d2] => { results := [.lit (.bool true)], args := [d1, d2] }
  | _ => none }
def layerTellsRow : OpenClaim := { program := "ytofdeafffbkgbaa", sum := "80cdaaa55f752ed849e9d45ab52a53c7f5af68a2d6c8fc85c7893ff4d64703e4", func := "muntin/muntinlaw04.LayerTells", spec := "layerTells", unfollowed := true, recurses := true, plainKeys := false, apart := false }
def LayerTellsSaid : Prop := layerTellsRow.holds Try.pinned (OpenSpec.ofChange layerTellsSpec)

/-- ITS FALSE NEIGHBOUR: 'it returns false'. Refute it at one input. -/
def layerTellsWrong : ChangeSpec := { name := "layerTells", fn := fun _ => fun
  | [d1, d2] => { results := [.lit (.bool false)], args := [d1, d2] }
  | _ => none }
def LayerTellsWrongFalsely : Prop := layerTellsRow.holds Try.pinned (OpenSpec.ofChange layerTellsWrong)

/-- 'muntinlaw04.LayerMore': WHATEVER THE INPUT: true; the input reads as it did. -/
def layerMoreSpec : ChangeSpec := { name := "layerMore", fn := fun _ => fun
  | [d1, d2] => { results := [.lit (.bool true)], args := [d1, d2] }
  | _ => none }
def layerMoreRow : OpenClaim := { program := "ytofdeafffbkgbaa", sum := "80cdaaa55f752ed849e9d45ab52a53c7f5af68a2d6c8fc85c7893ff4d64703e4", func := "muntin/muntinlaw04.LayerMore", spec := "layerMore", unfollowed := true, recurses := true, plainKeys := false, apart := false }
def LayerMoreSaid : Prop := layerMoreRow.holds Try.pinned (OpenSpec.ofChange layerMoreSpec)

/-- ITS FALSE NEIGHBOUR: 'it returns false'. Refute it at one input. -/
def layerMoreWrong : ChangeSpec := { name := "layerMore", fn := fun _ => fun
  | [d1, d2] => { results := [.lit (.bool false)], args := [d1, d2] }
  | _ => none }
def LayerMoreWrongFalsely : Prop := layerMoreRow.holds Try.pinned (OpenSpec.ofChange layerMoreWrong)

/-- 'muntinlaw13.JoinTurns': WHATEVER THE INPUT: true; the input reads as it did. -/
def joinTurnsSpec : ChangeSpec := { name := "joinTurns", fn := fun _ => fun
  | [d1, d2] => { results := [.lit (.bool true)], args := [d1, d2] }
  | _ => none }
def joinTurnsRow : OpenClaim := { program := "ytofdeafffbkgbaa", sum := "80cdaaa55f752ed849e9d45ab52a53c7f5af68a2d6c8fc85c7893ff4d64703e4", func := "muntin/muntinlaw13.JoinTurns", spec := "joinTurns", plainKeys := false, apart := false }
def JoinTurnsSaid : Prop := joinTurnsRow.holds Try.pinned (OpenSpec.ofChange joinTurnsSpec)

/-- ITS FALSE NEIGHBOUR: 'it returns false'. Refute it at one input. -/
def joinTurnsWrong : ChangeSpec := { name := "joinTurns", fn := fun _ => fun
  | [d1, d2] => { results := [.lit (.bool false)], args := [d1, d2] }
  | _ => none }
def JoinTurnsWrongFalsely : Prop := joinTurnsRow.holds Try.pinned (OpenSpec.ofChange joinTurnsWrong)

/-- 'muntinlaw10.GridChecks': WHATEVER THE INPUT: true; the input reads as it did. -/
def gridChecksSpec : ChangeSpec := { name := "gridChecks", fn := fun _ => fun
  | [d] => { results := [.lit (.bool true)], args := [d] }
  | _ => none }
def gridChecksRow : OpenClaim := { program := "ytofdeafffbkgbaa", sum := "80cdaaa55f752ed849e9d45ab52a53c7f5af68a2d6c8fc85c7893ff4d64703e4", func := "muntin/muntinlaw10.GridChecks", spec := "gridChecks", plainKeys := false, apart := false }
def GridChecksSaid : Prop := gridChecksRow.holds Try.pinned (OpenSpec.ofChange gridChecksSpec)

/-- ITS FALSE NEIGHBOUR: 'it returns false'. Refute it at one input. -/
def gridChecksWrong : ChangeSpec := { name := "gridChecks", fn := fun _ => fun
  | [d] => { results := [.lit (.bool false)], args := [d] }
  | _ => none }
def GridChecksWrongFalsely : Prop := gridChecksRow.holds Try.pinned (OpenSpec.ofChange gridChecksWrong)

/-- 'muntinlaw10.GridSplits': WHATEVER THE INPUT: true; the input reads as it did. -/
def gridSplitsSpec : ChangeSpec := { name := "gridSplits", fn := fun _ => fun
  | [d1, d2] => { results := [.lit (.bool true)], args := [d1, d2] }
  | _ => none }
def gridSplitsRow : OpenClaim := { program := "ytofdeafffbkgbaa", sum := "80cdaaa55f752ed849e9d45ab52a53c7f5af68a2d6c8fc85c7893ff4d64703e4", func := "muntin/muntinlaw10.GridSplits", spec := "gridSplits", plainKeys := false, apart := false }
def GridSplitsSaid : Prop := gridSplitsRow.holds Try.pinned (OpenSpec.ofChange gridSplitsSpec)

/-- ITS FALSE NEIGHBOUR: 'it returns false'. Refute it at one input. -/
def gridSplitsWrong : ChangeSpec := { name := "gridSplits", fn := fun _ => fun
  | [d1, d2] => { results := [.lit (.bool false)], args := [d1, d2] }
  | _ => none }
def GridSplitsWrongFalsely : Prop := gridSplitsRow.holds Try.pinned (OpenSpec.ofChange gridSplitsWrong)

/-- 'muntinlaw10.GridTurns': WHATEVER THE INPUT: true; the input reads as it did. -/
def gridTurnsSpec : ChangeSpec := { name := "gridTurns", fn := fun _ => fun
  | [d] => { results := [.lit (.bool true)], args := [d] }
  | _ => none }
def gridTurnsRow : OpenClaim := { program := "ytofdeafffbkgbaa", sum := "80cdaaa55f752ed849e9d45ab52a53c7f5af68a2d6c8fc85c7893ff4d64703e4", func := "muntin/muntinlaw10.GridTurns", spec := "gridTurns", plainKeys := false, apart := false }
def GridTurnsSaid : Prop := gridTurnsRow.holds Try.pinned (OpenSpec.ofChange gridTurnsSpec)

/-- ITS FALSE NEIGHBOUR: 'it returns false'. Refute it at one input. -/
def gridTurnsWrong : ChangeSpec := { name := "gridTurns", fn := fun _ => fun
  | [d] => { results := [.lit (.bool false)], args := [d] }
  | _ => none }
def GridTurnsWrongFalsely : Prop := gridTurnsRow.holds Try.pinned (OpenSpec.ofChange gridTurnsWrong)

/-- 'muntinlaw16.SegMeets': WHATEVER THE INPUT: true; the input reads as it did. -/
def segMeetsSpec : ChangeSpec := { name := "segMeets", fn := fun _ => fun
  | [d1, d2, d3] => { results := [.lit (.bool true)], args := [d1, d2, d3] }
  | _ => none }
def segMeetsRow : OpenClaim := { program := "ytofdeafffbkgbaa", sum := "80cdaaa55f752ed849e9d45ab52a53c7f5af68a2d6c8fc85c7893ff4d64703e4", func := "muntin/muntinlaw16.SegMeets", spec := "segMeets", unfollowed := true, recurses := true, plainKeys := false, apart := false }
def SegMeetsSaid : Prop := segMeetsRow.holds Try.pinned (OpenSpec.ofChange segMeetsSpec)

/-- ITS FALSE NEIGHBOUR: 'it returns false'. Refute it at one input. -/
def segMeetsWrong : ChangeSpec := { name := "segMeets", fn := fun _ => fun
  | [d1, d2, d3] => { results := [.lit (.bool false)], args := [d1, d2, d3] }
  | _ => none }
def SegMeetsWrongFalsely : Prop := segMeetsRow.holds Try.pinned (OpenSpec.ofChange segMeetsWrong)

/-- 'muntinlaw16.SegOnce': WHATEVER THE INPUT: true; the input reads as it did. -/
def segOnceSpec : ChangeSpec := { name := "segOnce", fn := fun _ => fun
  | [d] => { results := [.lit (.bool true)], args := [d] }
  | _ => none }
def segOnceRow : OpenClaim := { program := "ytofdeafffbkgbaa", sum := "80cdaaa55f752ed849e9d45ab52a53c7f5af68a2d6c8fc85c7893ff4d64703e4", func := "muntin/muntinlaw16.SegOnce", spec := "segOnce", unfollowed := true, recurses := true, plainKeys := false, apart := false }
def SegOnceSaid : Prop := segOnceRow.holds Try.pinned (OpenSpec.ofChange segOnceSpec)

/-- ITS FALSE NEIGHBOUR: 'it returns false'. Refute it at one input. -/
def segOnceWrong : ChangeSpec := { name := "segOnce", fn := fun _ => fun
  | [d] => { results := [.lit (.bool false)], args := [d] }
  | _ => none }
def SegOnceWrongFalsely : Prop := segOnceRow.holds Try.pinned (OpenSpec.ofChange segOnceWrong)

/-- 'muntinlaw16.SegTells': WHATEVER THE INPUT: true; the input reads as it did. -/
def segTellsSpec : ChangeSpec := { name := "segTells", fn := fun _ => fun
  | [d1, d2, d3] => { results := [.lit (.bool true)], args := [d1, d2, d3] }
  | _ => none }
def segTellsRow : OpenClaim := { program := "ytofdeafffbkgbaa", sum := "80cdaaa55f752ed849e9d45ab52a53c7f5af68a2d6c8fc85c7893ff4d64703e4", func := "muntin/muntinlaw16.SegTells", spec := "segTells", unfollowed := true, recurses := true, plainKeys := false, apart := false }
def SegTellsSaid : Prop := segTellsRow.holds Try.pinned (OpenSpec.ofChange segTellsSpec)

/-- ITS FALSE NEIGHBOUR: 'it returns false'. Refute it at one input. -/
def segTellsWrong : ChangeSpec := { name := "segTells", fn := fun _ => fun
  | [d1, d2, d3] => { results := [.lit (.bool false)], args := [d1, d2, d3] }
  | _ => none }
def SegTellsWrongFalsely : Prop := segTellsRow.holds Try.pinned (OpenSpec.ofChange segTellsWrong)

/-- 'muntinlaw16.SegTurns': WHATEVER THE INPUT: true; the input reads as it did. -/
def segTurnsSpec : ChangeSpec := { name := "segTurns", fn := fun _ => fun
  | [d] => { results := [.lit (.bool true)], args := [d] }
  | _ => none }
def segTurnsRow : OpenClaim := { program := "ytofdeafffbkgbaa", sum := "80cdaaa55f752ed849e9d45ab52a53c7f5af68a2d6c8fc85c7893ff4d64703e4", func := "muntin/muntinlaw16.SegTurns", spec := "segTurns", unfollowed := true, recurses := true, plainKeys := false, apart := false }
def SegTurnsSaid : Prop := segTurnsRow.holds Try.pinned (OpenSpec.ofChange segTurnsSpec)

/-- ITS FALSE NEIGHBOUR: 'it returns false'. Refute it at one input. -/
def segTurnsWrong : ChangeSpec := { name := "segTurns", fn := fun _ => fun
  | [d] => { results := [.lit (.bool false)], args := [d] }
  | _ => none }
def SegTurnsWrongFalsely : Prop := segTurnsRow.holds Try.pinned (OpenSpec.ofChange segTurnsWrong)

/-- 'muntinlaw17.ArcsFit': WHATEVER THE INPUT: true; the input reads as it did. -/
def arcsFitSpec : ChangeSpec := { name := "arcsFit", fn := fun _ => fun
  | [d1, d2, d3] => { results := [.lit (.bool true)], args := [d1, d2, d3] }
  | _ => none }
def arcsFitRow : OpenClaim := { program := "ytofdeafffbkgbaa", sum := "80cdaaa55f752ed849e9d45ab52a53c7f5af68a2d6c8fc85c7893ff4d64703e4", func := "muntin/muntinlaw17.ArcsFit", spec := "arcsFit", unfollowed := true, recurses := true, plainKeys := false, apart := false }
def ArcsFitSaid : Prop := arcsFitRow.holds Try.pinned (OpenSpec.ofChange arcsFitSpec)

/-- ITS FALSE NEIGHBOUR: 'it returns false'. Refute it at one input. -/
def arcsFitWrong : ChangeSpec := { name := "arcsFit", fn := fun _ => fun
  | [d1, d2, d3] => { results := [.lit (.bool false)], args := [d1, d2, d3] }
  | _ => none }
def ArcsFitWrongFalsely : Prop := arcsFitRow.holds Try.pinned (OpenSpec.ofChange arcsFitWrong)

/- THE SECOND FORM. 'bulk': how many values and letters a reading holds, each counted each time it is reached (what is shared counts as often as it is met; a slice's spare places count too). A statement '..UptoSaid' is the law's where the arguments, and the package variables that the reading takes, are together of bulk at most 1048576: NARROWER than '..Said'. Prove '..Said' where nothing that the law and all that it calls make is longer than what came in: it says more and counts as full. Else prove '..UptoSaid'. A law counts once. -/
mutual
def uptoBulk {H : Type} : DataW H → Nat
  | .lit (.string bytes) => bytes.length + 1
  | .lit _ => 1
  | .nil => 1
  | .ptr d => uptoBulk d + 1
  | .slice elems spare => uptoBulkAll elems + uptoBulkAll spare + 1
  | .agg parts => uptoBulkAll parts + 1
  | .iface _ d => uptoBulk d + 1
  | .map entries => uptoBulkEntries entries + 1
  | .held _ => 1
def uptoBulkAll {H : Type} : List (DataW H) → Nat
  | [] => 0
  | d :: r => uptoBulk d + uptoBulkAll r
def uptoBulkEntries {H : Type} : List (Lit × DataW H) → Nat
  | [] => 0
  | x :: r => uptoBulkEntry x + uptoBulkEntries r
def uptoBulkEntry {H : Type} : Lit × DataW H → Nat
  | (.string bytes, d) => bytes.length + uptoBulk d + 1
  | (_, d) => uptoBulk d + 1
 end
def uptoSmall : (H : Type) → List (DataW H) → Bool := fun _ ds => decide (uptoBulkAll ds ≤ 1048576)
def OpenSpec.upto (s : _root_.Go.ChangeSpec) : _root_.Go.OpenSpec := { _root_.Go.OpenSpec.ofChange s with cond := some uptoSmall }

/-- 'muntinlaw10.GridNil', WHERE WHAT IT READS IS OF BULK AT MOST 1048576: true; the input reads as it did. -/
def gridNilUptoRow : OpenClaim := { program := "ytofdeafffbkgbaa", sum := "80cdaaa55f752ed849e9d45ab52a53c7f5af68a2d6c8fc85c7893ff4d64703e4", func := "muntin/muntinlaw10.GridNil", spec := "gridNil", plainKeys := false, apart := false, narrowed := true }
def GridNilUptoSaid : Prop := gridNilUptoRow.holds Try.pinned (OpenSpec.upto gridNilSpec)

/-- 'muntinlaw04.LayerTells', WHERE WHAT IT READS IS OF BULK AT MOST 1048576: true; the input reads as it did. -/
def layerTellsUptoRow : OpenClaim := { program := "ytofdeafffbkgbaa", sum := "80cdaaa55f752ed849e9d45ab52a53c7f5af68a2d6c8fc85c7893ff4d64703e4", func := "muntin/muntinlaw04.LayerTells", spec := "layerTells", unfollowed := true, recurses := true, plainKeys := false, apart := false, narrowed := true }
def LayerTellsUptoSaid : Prop := layerTellsUptoRow.holds Try.pinned (OpenSpec.upto layerTellsSpec)

/-- 'muntinlaw04.LayerMore', WHERE WHAT IT READS IS OF BULK AT MOST 1048576: true; the input reads as it did. -/
def layerMoreUptoRow : OpenClaim := { program := "ytofdeafffbkgbaa", sum := "80cdaaa55f752ed849e9d45ab52a53c7f5af68a2d6c8fc85c7893ff4d64703e4", func := "muntin/muntinlaw04.LayerMore", spec := "layerMore", unfollowed := true, recurses := true, plainKeys := false, apart := false, narrowed := true }
def LayerMoreUptoSaid : Prop := layerMoreUptoRow.holds Try.pinned (OpenSpec.upto layerMoreSpec)

/-- 'muntinlaw13.JoinTurns', WHERE WHAT IT READS IS OF BULK AT MOST 1048576: true; the input reads as it did. -/
def joinTurnsUptoRow : OpenClaim := { program := "ytofdeafffbkgbaa", sum := "80cdaaa55f752ed849e9d45ab52a53c7f5af68a2d6c8fc85c7893ff4d64703e4", func := "muntin/muntinlaw13.JoinTurns", spec := "joinTurns", plainKeys := false, apart := false, narrowed := true }
def JoinTurnsUptoSaid : Prop := joinTurnsUptoRow.holds Try.pinned (OpenSpec.upto joinTurnsSpec)

/-- 'muntinlaw10.GridChecks', WHERE WHAT IT READS IS OF BULK AT MOST 1048576: true; the input reads as it did. -/
def gridChecksUptoRow : OpenClaim := { program := "ytofdeafffbkgbaa", sum := "80cdaaa55f752ed849e9d45ab52a53c7f5af68a2d6c8fc85c7893ff4d64703e4", func := "muntin/muntinlaw10.GridChecks", spec := "gridChecks", plainKeys := false, apart := false, narrowed := true }
def GridChecksUptoSaid : Prop := gridChecksUptoRow.holds Try.pinned (OpenSpec.upto gridChecksSpec)

/-- 'muntinlaw10.GridSplits', WHERE WHAT IT READS IS OF BULK AT MOST 1048576: true; the input reads as it did. -/
def gridSplitsUptoRow : OpenClaim := { program := "ytofdeafffbkgbaa", sum := "80cdaaa55f752ed849e9d45ab52a53c7f5af68a2d6c8fc85c7893ff4d64703e4", func := "muntin/muntinlaw10.GridSplits", spec := "gridSplits", plainKeys := false, apart := false, narrowed := true }
def GridSplitsUptoSaid : Prop := gridSplitsUptoRow.holds Try.pinned (OpenSpec.upto gridSplitsSpec)

/-- 'muntinlaw10.GridTurns', WHERE WHAT IT READS IS OF BULK AT MOST 1048576: true; the input reads as it did. -/
def gridTurnsUptoRow : OpenClaim := { program := "ytofdeafffbkgbaa", sum := "80cdaaa55f752ed849e9d45ab52a53c7f5af68a2d6c8fc85c7893ff4d64703e4", func := "muntin/muntinlaw10.GridTurns", spec := "gridTurns", plainKeys := false, apart := false, narrowed := true }
def GridTurnsUptoSaid : Prop := gridTurnsUptoRow.holds Try.pinned (OpenSpec.upto gridTurnsSpec)

/-- 'muntinlaw16.SegMeets', WHERE WHAT IT READS IS OF BULK AT MOST 1048576: true; the input reads as it did. -/
def segMeetsUptoRow : OpenClaim := { program := "ytofdeafffbkgbaa", sum := "80cdaaa55f752ed849e9d45ab52a53c7f5af68a2d6c8fc85c7893ff4d64703e4", func := "muntin/muntinlaw16.SegMeets", spec := "segMeets", unfollowed := true, recurses := true, plainKeys := false, apart := false, narrowed := true }
def SegMeetsUptoSaid : Prop := segMeetsUptoRow.holds Try.pinned (OpenSpec.upto segMeetsSpec)

/-- 'muntinlaw16.SegOnce', WHERE WHAT IT READS IS OF BULK AT MOST 1048576: true; the input reads as it did. -/
def segOnceUptoRow : OpenClaim := { program := "ytofdeafffbkgbaa", sum := "80cdaaa55f752ed849e9d45ab52a53c7f5af68a2d6c8fc85c7893ff4d64703e4", func := "muntin/muntinlaw16.SegOnce", spec := "segOnce", unfollowed := true, recurses := true, plainKeys := false, apart := false, narrowed := true }
def SegOnceUptoSaid : Prop := segOnceUptoRow.holds Try.pinned (OpenSpec.upto segOnceSpec)

/-- 'muntinlaw16.SegTells', WHERE WHAT IT READS IS OF BULK AT MOST 1048576: true; the input reads as it did. -/
def segTellsUptoRow : OpenClaim := { program := "ytofdeafffbkgbaa", sum := "80cdaaa55f752ed849e9d45ab52a53c7f5af68a2d6c8fc85c7893ff4d64703e4", func := "muntin/muntinlaw16.SegTells", spec := "segTells", unfollowed := true, recurses := true, plainKeys := false, apart := false, narrowed := true }
def SegTellsUptoSaid : Prop := segTellsUptoRow.holds Try.pinned (OpenSpec.upto segTellsSpec)

/-- 'muntinlaw16.SegTurns', WHERE WHAT IT READS IS OF BULK AT MOST 1048576: true; the input reads as it did. -/
def segTurnsUptoRow : OpenClaim := { program := "ytofdeafffbkgbaa", sum := "80cdaaa55f752ed849e9d45ab52a53c7f5af68a2d6c8fc85c7893ff4d64703e4", func := "muntin/muntinlaw16.SegTurns", spec := "segTurns", unfollowed := true, recurses := true, plainKeys := false, apart := false, narrowed := true }
def SegTurnsUptoSaid : Prop := segTurnsUptoRow.holds Try.pinned (OpenSpec.upto segTurnsSpec)

/-- 'muntinlaw17.ArcsFit', WHERE WHAT IT READS IS OF BULK AT MOST 1048576: true; the input reads as it did. -/
def arcsFitUptoRow : OpenClaim := { program := "ytofdeafffbkgbaa", sum := "80cdaaa55f752ed849e9d45ab52a53c7f5af68a2d6c8fc85c7893ff4d64703e4", func := "muntin/muntinlaw17.ArcsFit", spec := "arcsFit", unfollowed := true, recurses := true, plainKeys := false, apart := false, narrowed := true }
def ArcsFitUptoSaid : Prop := arcsFitUptoRow.holds Try.pinned (OpenSpec.upto arcsFitSpec)

end Rows
end Go.Proofs.Ytofdeafffbkgbaa
