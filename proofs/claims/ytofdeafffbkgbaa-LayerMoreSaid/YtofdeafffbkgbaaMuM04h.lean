/- Layer 4: LayerTells and LayerMore. -/
import Derived.Test.YtofdeafffbkgbaaMuM04g
set_option linter.unusedVariables false
set_option linter.unusedSimpArgs false
set_option maxRecDepth 10000
namespace Mu
/-- Is v free? -/
def freeP (arcs : List T_api_Arc) (i_ : List Bool) (v : Nat) : Prop := gi i_ v = false ∧ ∀ a ∈ arcs, a.To = v → gi i_ a.From.toNat = true
theorem mLayersArg {n : Nat} {arcs : List T_api_Arc} (hr : ¬ RA n arcs) : p_layer_Layers n arcs = some ([], 2) := by
  unfold p_layer_Layers p_dag_Order
  rw [mRight, Option.bind_some, dec_f (fun h => hr (by have := h.2.2.2; rwa [Int.toNat_natCast] at this)), if_pos (by decide), Option.bind_some]
  rfl
theorem set_self {l : List Int} {i : Nat} {x : Int} (hi : i < l.length) (hx : x = gi l i) : l.set i x = l := by
  apply list_ext (by simp)
  intro j hj
  rw [gi_set hi]
  split
  · rename_i h; rw [hx, h]
  · rfl
end Mu
