/-
  No cell of these rows narrows 'for every input' (looked for: loops, veiled, ifaces, maps, wideKeys, modest, calm, conditions, laid).
  DERIVED. THE GIVEN ROWS OF THIS SEAT. 12 by the template 'for every input the law returns true; each argument reads behind the call as it read before'; 0 by the template 'total and deterministic' (their statements: YtdefkboekpjiiaaTotals.lean).
  GIVEN WITH THE SEED: the statements are not yours to turn. If you find one false, say at which input.
  Laid BY PROGRAM, IN A SANDBOX (cutbox-rows.mjs): the forced cells as the released guide's own fill.sh prints them over the translation fbf8de24b2356c72… (all of the seat's roots in one cut). By AI agents, Wed Nov 11 2026. No macro, syntax, notation, axiom, sorry.
-/
import Derived.Test.YtdefkboekpjiiaaChecked
import GoSem.Claim
import GoSem.ClaimJoined
import GoSem.ClaimMapViews
import Derived.JoinedTies
import Derived.KernelRfl
namespace Go.Proofs.Ytdefkboekpjiiaa
/- THE CELL 'sum', in the pinned program and in every row, IS THE sha256 OF THE DUMP (.gsa) THAT YtdefkboekpjiiaaProg.lean LOADS. Nothing in Lean hashes anything: it is a label: what it is worth is what the hold of that sum in a sandbox is worth. -/
noncomputable def Try.pinned : Pinned := { name := "ytdefkboekpjiiaa", sum := "fbf8de24b2356c726be551c4c04c885f994622adb9f0cf12de54fec894bb2908", checked := Try.checked }
namespace Rows
def none {H : Type} : Left H := { results := [], args := [] }

/-- 'muntinlaw17.ArcsTurn': WHATEVER THE INPUT: true; the input reads as it did. -/
def arcsTurnSpec : ChangeSpec := { name := "arcsTurn", fn := fun _ => fun
  | [d1, d2] => { results := [.lit (.bool true)], args := [d1, d2] }
  | _ => none }
def arcsTurnRow : OpenClaim := { program := "ytdefkboekpjiiaa", sum := "fbf8de24b2356c726be551c4c04c885f994622adb9f0cf12de54fec894bb2908", func := "muntin/muntinlaw17.ArcsTurn", spec := "arcsTurn", unfollowed := true, recurses := true, plainKeys := false, apart := false }
def ArcsTurnSaid : Prop := arcsTurnRow.holds Try.pinned (OpenSpec.ofChange arcsTurnSpec)

/-- ITS FALSE NEIGHBOUR: 'it returns false'. Refute it at one input. -/
def arcsTurnWrong : ChangeSpec := { name := "arcsTurn", fn := fun _ => fun
  | [d1, d2] => { results := [.lit (.bool false)], args := [d1, d2] }
  | _ => none }
def ArcsTurnWrongFalsely : Prop := arcsTurnRow.holds Try.pinned (OpenSpec.ofChange arcsTurnWrong)

/-- 'muntinlaw17.ArcsTell': WHATEVER THE INPUT: true; the input reads as it did. -/
def arcsTellSpec : ChangeSpec := { name := "arcsTell", fn := fun _ => fun
  | [d1, d2] => { results := [.lit (.bool true)], args := [d1, d2] }
  | _ => none }
def arcsTellRow : OpenClaim := { program := "ytdefkboekpjiiaa", sum := "fbf8de24b2356c726be551c4c04c885f994622adb9f0cf12de54fec894bb2908", func := "muntin/muntinlaw17.ArcsTell", spec := "arcsTell", unfollowed := true, recurses := true, plainKeys := false, apart := false }
def ArcsTellSaid : Prop := arcsTellRow.holds Try.pinned (OpenSpec.ofChange arcsTellSpec)

/-- ITS FALSE NEIGHBOUR: 'it returns false'. Refute it at one input. -/
def arcsTellWrong : ChangeSpec := { name := "arcsTell", fn := fun _ => fun
  | [d1, d2] => { results := [.lit (.bool false)], args := [d1, d2] }
  | _ => none }
def ArcsTellWrongFalsely : Prop := arcsTellRow.holds Try.pinned (OpenSpec.ofChange arcsTellWrong)

/-- 'muntinlaw17.ArcsPlace': WHATEVER THE INPUT: true; the input reads as it did. -/
def arcsPlaceSpec : ChangeSpec := { name := "arcsPlace", fn := fun _ => fun
  | [d1, d2, d3] => { results := [.lit (.bool true)], args := [d1, d2, d3] }
  | _ => none }
def arcsPlaceRow : OpenClaim := { program := "ytdefkboekpjiiaa", sum := "fbf8de24b2356c726be551c4c04c885f994622adb9f0cf12de54fec894bb2908", func := "muntin/muntinlaw17.ArcsPlace", spec := "arcsPlace", unfollowed := true, recurses := true, plainKeys := false, apart := false }
def ArcsPlaceSaid : Prop := arcsPlaceRow.holds Try.pinned (OpenSpec.ofChange arcsPlaceSpec)

/-- ITS FALSE NEIGHBOUR: 'it returns false'. Refute it at one input. -/
def arcsPlaceWrong : ChangeSpec := { name := "arcsPlace", fn := fun _ => fun
  | [d1, d2, d3] => { results := [.lit (.bool false)], args := [d1, d2, d3] }
  | _ => none }
def ArcsPlaceWrongFalsely : Prop := arcsPlaceRow.holds Try.pinned (OpenSpec.ofChange arcsPlaceWrong)

/-- 'muntinlaw14.ValidTells': WHATEVER THE INPUT: true; the input reads as it did. -/
def validTellsSpec : ChangeSpec := { name := "validTells", fn := fun _ => fun
  | [d1, d2, d3] => { results := [.lit (.bool true)], args := [d1, d2, d3] }
  | _ => none }
def validTellsRow : OpenClaim := { program := "ytdefkboekpjiiaa", sum := "fbf8de24b2356c726be551c4c04c885f994622adb9f0cf12de54fec894bb2908", func := "muntin/muntinlaw14.ValidTells", spec := "validTells", plainKeys := false, apart := false }
def ValidTellsSaid : Prop := validTellsRow.holds Try.pinned (OpenSpec.ofChange validTellsSpec)

/-- ITS FALSE NEIGHBOUR: 'it returns false'. Refute it at one input. -/
def validTellsWrong : ChangeSpec := { name := "validTells", fn := fun _ => fun
  | [d1, d2, d3] => { results := [.lit (.bool false)], args := [d1, d2, d3] }
  | _ => none }
def ValidTellsWrongFalsely : Prop := validTellsRow.holds Try.pinned (OpenSpec.ofChange validTellsWrong)

/-- 'muntinlaw14.ValidPlane': WHATEVER THE INPUT: true; the input reads as it did. -/
def validPlaneSpec : ChangeSpec := { name := "validPlane", fn := fun _ => fun
  | [d] => { results := [.lit (.bool true)], args := [d] }
  | _ => none }
def validPlaneRow : OpenClaim := { program := "ytdefkboekpjiiaa", sum := "fbf8de24b2356c726be551c4c04c885f994622adb9f0cf12de54fec894bb2908", func := "muntin/muntinlaw14.ValidPlane", spec := "validPlane", plainKeys := false, apart := false }
def ValidPlaneSaid : Prop := validPlaneRow.holds Try.pinned (OpenSpec.ofChange validPlaneSpec)

/-- ITS FALSE NEIGHBOUR: 'it returns false'. Refute it at one input. -/
def validPlaneWrong : ChangeSpec := { name := "validPlane", fn := fun _ => fun
  | [d] => { results := [.lit (.bool false)], args := [d] }
  | _ => none }
def ValidPlaneWrongFalsely : Prop := validPlaneRow.holds Try.pinned (OpenSpec.ofChange validPlaneWrong)

/-- 'muntinlaw14.ValidEuler': WHATEVER THE INPUT: true; the input reads as it did. -/
def validEulerSpec : ChangeSpec := { name := "validEuler", fn := fun _ => fun
  | [d1, d2] => { results := [.lit (.bool true)], args := [d1, d2] }
  | _ => none }
def validEulerRow : OpenClaim := { program := "ytdefkboekpjiiaa", sum := "fbf8de24b2356c726be551c4c04c885f994622adb9f0cf12de54fec894bb2908", func := "muntin/muntinlaw14.ValidEuler", spec := "validEuler", plainKeys := false, apart := false }
def ValidEulerSaid : Prop := validEulerRow.holds Try.pinned (OpenSpec.ofChange validEulerSpec)

/-- ITS FALSE NEIGHBOUR: 'it returns false'. Refute it at one input. -/
def validEulerWrong : ChangeSpec := { name := "validEuler", fn := fun _ => fun
  | [d1, d2] => { results := [.lit (.bool false)], args := [d1, d2] }
  | _ => none }
def ValidEulerWrongFalsely : Prop := validEulerRow.holds Try.pinned (OpenSpec.ofChange validEulerWrong)

/-- 'muntinlaw14.ValidTurns': WHATEVER THE INPUT: true; the input reads as it did. -/
def validTurnsSpec : ChangeSpec := { name := "validTurns", fn := fun _ => fun
  | [d1, d2, d3] => { results := [.lit (.bool true)], args := [d1, d2, d3] }
  | _ => none }
def validTurnsRow : OpenClaim := { program := "ytdefkboekpjiiaa", sum := "fbf8de24b2356c726be551c4c04c885f994622adb9f0cf12de54fec894bb2908", func := "muntin/muntinlaw14.ValidTurns", spec := "validTurns", plainKeys := false, apart := false }
def ValidTurnsSaid : Prop := validTurnsRow.holds Try.pinned (OpenSpec.ofChange validTurnsSpec)

/-- ITS FALSE NEIGHBOUR: 'it returns false'. Refute it at one input. -/
def validTurnsWrong : ChangeSpec := { name := "validTurns", fn := fun _ => fun
  | [d1, d2, d3] => { results := [.lit (.bool false)], args := [d1, d2, d3] }
  | _ => none }
def ValidTurnsWrongFalsely : Prop := validTurnsRow.holds Try.pinned (OpenSpec.ofChange validTurnsWrong)

/-- 'muntinlaw20.FrontFirst': WHATEVER THE INPUT: true; the input reads as it did. -/
def frontFirstSpec : ChangeSpec := { name := "frontFirst", fn := fun _ => fun
  | [d1, d2] => { results := [.lit (.bool true)], args := [d1, d2] }
  | _ => none }
def frontFirstRow : OpenClaim := { program := "ytdefkboekpjiiaa", sum := "fbf8de24b2356c726be551c4c04c885f994622adb9f0cf12de54fec894bb2908", func := "muntin/muntinlaw20.FrontFirst", spec := "frontFirst", unfollowed := true, recurses := true, plainKeys := false, apart := false }
def FrontFirstSaid : Prop := frontFirstRow.holds Try.pinned (OpenSpec.ofChange frontFirstSpec)

/-- ITS FALSE NEIGHBOUR: 'it returns false'. Refute it at one input. -/
def frontFirstWrong : ChangeSpec := { name := "frontFirst", fn := fun _ => fun
  | [d1, d2] => { results := [.lit (.bool false)], args := [d1, d2] }
  | _ => none }
def FrontFirstWrongFalsely : Prop := frontFirstRow.holds Try.pinned (OpenSpec.ofChange frontFirstWrong)

/-- 'muntinlaw15.KittyRegular': WHATEVER THE INPUT: true; the input reads as it did. -/
def kittyRegularSpec : ChangeSpec := { name := "kittyRegular", fn := fun _ => fun
  | [d1, d2] => { results := [.lit (.bool true)], args := [d1, d2] }
  | _ => none }
def kittyRegularRow : OpenClaim := { program := "ytdefkboekpjiiaa", sum := "fbf8de24b2356c726be551c4c04c885f994622adb9f0cf12de54fec894bb2908", func := "muntin/muntinlaw15.KittyRegular", spec := "kittyRegular", unfollowed := true, recurses := true, plainKeys := false, apart := false }
def KittyRegularSaid : Prop := kittyRegularRow.holds Try.pinned (OpenSpec.ofChange kittyRegularSpec)

/-- ITS FALSE NEIGHBOUR: 'it returns false'. Refute it at one input. -/
def kittyRegularWrong : ChangeSpec := { name := "kittyRegular", fn := fun _ => fun
  | [d1, d2] => { results := [.lit (.bool false)], args := [d1, d2] }
  | _ => none }
def KittyRegularWrongFalsely : Prop := kittyRegularRow.holds Try.pinned (OpenSpec.ofChange kittyRegularWrong)

/-- 'muntinlaw26.CheckApart': WHATEVER THE INPUT: true; the input reads as it did. -/
def checkApartSpec : ChangeSpec := { name := "checkApart", fn := fun _ => fun
  | [d1, d2, d3] => { results := [.lit (.bool true)], args := [d1, d2, d3] }
  | _ => none }
def checkApartRow : OpenClaim := { program := "ytdefkboekpjiiaa", sum := "fbf8de24b2356c726be551c4c04c885f994622adb9f0cf12de54fec894bb2908", func := "muntin/muntinlaw26.CheckApart", spec := "checkApart", unfollowed := true, recurses := true, plainKeys := false, apart := false }
def CheckApartSaid : Prop := checkApartRow.holds Try.pinned (OpenSpec.ofChange checkApartSpec)

/-- ITS FALSE NEIGHBOUR: 'it returns false'. Refute it at one input. -/
def checkApartWrong : ChangeSpec := { name := "checkApart", fn := fun _ => fun
  | [d1, d2, d3] => { results := [.lit (.bool false)], args := [d1, d2, d3] }
  | _ => none }
def CheckApartWrongFalsely : Prop := checkApartRow.holds Try.pinned (OpenSpec.ofChange checkApartWrong)

/-- 'muntinlaw19.SepLines': WHATEVER THE INPUT: true; the input reads as it did. -/
def sepLinesSpec : ChangeSpec := { name := "sepLines", fn := fun _ => fun
  | [d1, d2] => { results := [.lit (.bool true)], args := [d1, d2] }
  | _ => none }
def sepLinesRow : OpenClaim := { program := "ytdefkboekpjiiaa", sum := "fbf8de24b2356c726be551c4c04c885f994622adb9f0cf12de54fec894bb2908", func := "muntin/muntinlaw19.SepLines", spec := "sepLines", unfollowed := true, recurses := true, plainKeys := false, apart := false }
def SepLinesSaid : Prop := sepLinesRow.holds Try.pinned (OpenSpec.ofChange sepLinesSpec)

/-- ITS FALSE NEIGHBOUR: 'it returns false'. Refute it at one input. -/
def sepLinesWrong : ChangeSpec := { name := "sepLines", fn := fun _ => fun
  | [d1, d2] => { results := [.lit (.bool false)], args := [d1, d2] }
  | _ => none }
def SepLinesWrongFalsely : Prop := sepLinesRow.holds Try.pinned (OpenSpec.ofChange sepLinesWrong)

/-- 'muntinlaw22.RegularTells': WHATEVER THE INPUT: true; the input reads as it did. -/
def regularTellsSpec : ChangeSpec := { name := "regularTells", fn := fun _ => fun
  | [d] => { results := [.lit (.bool true)], args := [d] }
  | _ => none }
def regularTellsRow : OpenClaim := { program := "ytdefkboekpjiiaa", sum := "fbf8de24b2356c726be551c4c04c885f994622adb9f0cf12de54fec894bb2908", func := "muntin/muntinlaw22.RegularTells", spec := "regularTells", unfollowed := true, recurses := true, plainKeys := false, apart := false }
def RegularTellsSaid : Prop := regularTellsRow.holds Try.pinned (OpenSpec.ofChange regularTellsSpec)

/-- ITS FALSE NEIGHBOUR: 'it returns false'. Refute it at one input. -/
def regularTellsWrong : ChangeSpec := { name := "regularTells", fn := fun _ => fun
  | [d] => { results := [.lit (.bool false)], args := [d] }
  | _ => none }
def RegularTellsWrongFalsely : Prop := regularTellsRow.holds Try.pinned (OpenSpec.ofChange regularTellsWrong)

/- THE SECOND FORM. 'bulk': how many values and letters a reading holds, each counted each time it is reached (what is shared counts as often as it is met; a slice's spare places count too). A statement '..UptoSaid' is the law's where the arguments, and the package variables that the reading takes, are together of bulk at most 1048576: NARROWER than '..Said'. Prove '..Said' where nothing that the law and all that it calls make is longer than what came in: it says more and counts as full. Else prove '..UptoSaid'. A law counts once. -/
mutual
def uptoBulk {H : Type} : DataW H → Nat
  | .lit (.string bytes) => bytes.length + 1
  | .lit _ => 1
  | .nil => 1
  | .ptr d => uptoBulk d + 1
  | .slice elems spare => uptoBulkAll elems + uptoBulkAll spare + 1
  | .agg parts => uptoBulkAll parts + 1
  | .iface _ d => uptoBulk d + 1
  | .map entries => uptoBulkEntries entries + 1
  | .held _ => 1
def uptoBulkAll {H : Type} : List (DataW H) → Nat
  | [] => 0
  | d :: r => uptoBulk d + uptoBulkAll r
def uptoBulkEntries {H : Type} : List (Lit × DataW H) → Nat
  | [] => 0
  | x :: r => uptoBulkEntry x + uptoBulkEntries r
def uptoBulkEntry {H : Type} : Lit × DataW H → Nat
  | (.string bytes, d) => bytes.length + uptoBulk d + 1
  | (_, d) => uptoBulk d + 1
 end
def uptoSmall : (H : Type) → List (DataW H) → Bool := fun _ ds => decide (uptoBulkAll ds ≤ 1048576)
def OpenSpec.upto (s : _root_.Go.ChangeSpec) : _root_.Go.OpenSpec := { _root_.Go.OpenSpec.ofChange s with cond := some uptoSmall }

/-- 'muntinlaw17.ArcsTurn', WHERE WHAT IT READS IS OF BULK AT MOST 1048576: true; the input reads as it did. -/
def arcsTurnUptoRow : OpenClaim := { program := "ytdefkboekpjiiaa", sum := "fbf8de24b2356c726be551c4c04c885f994622adb9f0cf12de54fec894bb2908", func := "muntin/muntinlaw17.ArcsTurn", spec := "arcsTurn", unfollowed := true, recurses := true, plainKeys := false, apart := false, narrowed := true }
def ArcsTurnUptoSaid : Prop := arcsTurnUptoRow.holds Try.pinned (OpenSpec.upto arcsTurnSpec)

/-- 'muntinlaw17.ArcsTell', WHERE WHAT IT READS IS OF BULK AT MOST 1048576: true; the input reads as it did. -/
def arcsTellUptoRow : OpenClaim := { program := "ytdefkboekpjiiaa", sum := "fbf8de24b2356c726be551c4c04c885f994622adb9f0cf12de54fec894bb2908", func := "muntin/muntinlaw17.ArcsTell", spec := "arcsTell", unfollowed := true, recurses := true, plainKeys := false, apart := false, narrowed := true }
def ArcsTellUptoSaid : Prop := arcsTellUptoRow.holds Try.pinned (OpenSpec.upto arcsTellSpec)

/-- 'muntinlaw17.ArcsPlace', WHERE WHAT IT READS IS OF BULK AT MOST 1048576: true; the input reads as it did. -/
def arcsPlaceUptoRow : OpenClaim := { program := "ytdefkboekpjiiaa", sum := "fbf8de24b2356c726be551c4c04c885f994622adb9f0cf12de54fec894bb2908", func := "muntin/muntinlaw17.ArcsPlace", spec := "arcsPlace", unfollowed := true, recurses := true, plainKeys := false, apart := false, narrowed := true }
def ArcsPlaceUptoSaid : Prop := arcsPlaceUptoRow.holds Try.pinned (OpenSpec.upto arcsPlaceSpec)

/-- 'muntinlaw14.ValidTells', WHERE WHAT IT READS IS OF BULK AT MOST 1048576: true; the input reads as it did. -/
def validTellsUptoRow : OpenClaim := { program := "ytdefkboekpjiiaa", sum := "fbf8de24b2356c726be551c4c04c885f994622adb9f0cf12de54fec894bb2908", func := "muntin/muntinlaw14.ValidTells", spec := "validTells", plainKeys := false, apart := false, narrowed := true }
def ValidTellsUptoSaid : Prop := validTellsUptoRow.holds Try.pinned (OpenSpec.upto validTellsSpec)

/-- 'muntinlaw14.ValidPlane', WHERE WHAT IT READS IS OF BULK AT MOST 1048576: true; the input reads as it did. -/
def validPlaneUptoRow : OpenClaim := { program := "ytdefkboekpjiiaa", sum := "fbf8de24b2356c726be551c4c04c885f994622adb9f0cf12de54fec894bb2908", func := "muntin/muntinlaw14.ValidPlane", spec := "validPlane", plainKeys := false, apart := false, narrowed := true }
def ValidPlaneUptoSaid : Prop := validPlaneUptoRow.holds Try.pinned (OpenSpec.upto validPlaneSpec)

/-- 'muntinlaw14.ValidEuler', WHERE WHAT IT READS IS OF BULK AT MOST 1048576: true; the input reads as it did. -/
def validEulerUptoRow : OpenClaim := { program := "ytdefkboekpjiiaa", sum := "fbf8de24b2356c726be551c4c04c885f994622adb9f0cf12de54fec894bb2908", func := "muntin/muntinlaw14.ValidEuler", spec := "validEuler", plainKeys := false, apart := false, narrowed := true }
def ValidEulerUptoSaid : Prop := validEulerUptoRow.holds Try.pinned (OpenSpec.upto validEulerSpec)

/-- 'muntinlaw14.ValidTurns', WHERE WHAT IT READS IS OF BULK AT MOST 1048576: true; the input reads as it did. -/
def validTurnsUptoRow : OpenClaim := { program := "ytdefkboekpjiiaa", sum := "fbf8de24b2356c726be551c4c04c885f994622adb9f0cf12de54fec894bb2908", func := "muntin/muntinlaw14.ValidTurns", spec := "validTurns", plainKeys := false, apart := false, narrowed := true }
def ValidTurnsUptoSaid : Prop := validTurnsUptoRow.holds Try.pinned (OpenSpec.upto validTurnsSpec)

/-- 'muntinlaw20.FrontFirst', WHERE WHAT IT READS IS OF BULK AT MOST 1048576: true; the input reads as it did. -/
def frontFirstUptoRow : OpenClaim := { program := "ytdefkboekpjiiaa", sum := "fbf8de24b2356c726be551c4c04c885f994622adb9f0cf12de54fec894bb2908", func := "muntin/muntinlaw20.FrontFirst", spec := "frontFirst", unfollowed := true, recurses := true, plainKeys := false, apart := false, narrowed := true }
def FrontFirstUptoSaid : Prop := frontFirstUptoRow.holds Try.pinned (OpenSpec.upto frontFirstSpec)

/-- 'muntinlaw15.KittyRegular', WHERE WHAT IT READS IS OF BULK AT MOST 1048576: true; the input reads as it did. -/
def kittyRegularUptoRow : OpenClaim := { program := "ytdefkboekpjiiaa", sum := "fbf8de24b2356c726be551c4c04c885f994622adb9f0cf12de54fec894bb2908", func := "muntin/muntinlaw15.KittyRegular", spec := "kittyRegular", unfollowed := true, recurses := true, plainKeys := false, apart := false, narrowed := true }
def KittyRegularUptoSaid : Prop := kittyRegularUptoRow.holds Try.pinned (OpenSpec.upto kittyRegularSpec)

/-- 'muntinlaw26.CheckApart', WHERE WHAT IT READS IS OF BULK AT MOST 1048576: true; the input reads as it did. -/
def checkApartUptoRow : OpenClaim := { program := "ytdefkboekpjiiaa", sum := "fbf8de24b2356c726be551c4c04c885f994622adb9f0cf12de54fec894bb2908", func := "muntin/muntinlaw26.CheckApart", spec := "checkApart", unfollowed := true, recurses := true, plainKeys := false, apart := false, narrowed := true }
def CheckApartUptoSaid : Prop := checkApartUptoRow.holds Try.pinned (OpenSpec.upto checkApartSpec)

/-- 'muntinlaw19.SepLines', WHERE WHAT IT READS IS OF BULK AT MOST 1048576: true; the input reads as it did. -/
def sepLinesUptoRow : OpenClaim := { program := "ytdefkboekpjiiaa", sum := "fbf8de24b2356c726be551c4c04c885f994622adb9f0cf12de54fec894bb2908", func := "muntin/muntinlaw19.SepLines", spec := "sepLines", unfollowed := true, recurses := true, plainKeys := false, apart := false, narrowed := true }
def SepLinesUptoSaid : Prop := sepLinesUptoRow.holds Try.pinned (OpenSpec.upto sepLinesSpec)

/-- 'muntinlaw22.RegularTells', WHERE WHAT IT READS IS OF BULK AT MOST 1048576: true; the input reads as it did. -/
def regularTellsUptoRow : OpenClaim := { program := "ytdefkboekpjiiaa", sum := "fbf8de24b2356c726be551c4c04c885f994622adb9f0cf12de54fec894bb2908", func := "muntin/muntinlaw22.RegularTells", spec := "regularTells", unfollowed := true, recurses := true, plainKeys := false, apart := false, narrowed := true }
def RegularTellsUptoSaid : Prop := regularTellsUptoRow.holds Try.pinned (OpenSpec.upto regularTellsSpec)

end Rows
end Go.Proofs.Ytdefkboekpjiiaa
