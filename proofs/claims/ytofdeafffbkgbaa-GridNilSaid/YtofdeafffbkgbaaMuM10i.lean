/- Layer 10: GridSplits, GridTurns, GridChecks. -/
import Derived.Test.YtofdeafffbkgbaaMuM10h
set_option linter.unusedVariables false
set_option linter.unusedSimpArgs false
set_option maxRecDepth 10000
namespace Mu
theorem natTmod {a : Int} {n : Nat} (ha : 0 ≤ a) (hn : 0 < n) : ∃ k : Nat, a.tmod (n : Int) = k ∧ k < n := by
  refine ⟨a.toNat % n, ?_, Nat.mod_lt _ hn⟩
  obtain ⟨k, rfl⟩ := Int.eq_ofNat_of_zero_le ha
  rw [Int.toNat_natCast, Int.tmod_eq_emod_of_nonneg (by omega)]; omega
theorem set_nx {l : List T_api_Cell} {v d i e : Nat} {x : Int} (hv : v < l.length) (hd : d < 4) (he : e < 4) : nx (l.set v { gi l v with Next := (gi l v).Next.set (d : Int) x }) i e = (if i = v ∧ e = d then x else nx l i e) ∧ ow (l.set v { gi l v with Next := (gi l v).Next.set (d : Int) x }) i e = ow l i e := by
  unfold nx ow
  rw [gi_set hv]
  by_cases c : i = v
  · subst c
    rw [if_pos rfl]
    dsimp only
    rw [A4_get_set hd he]
    by_cases q : e = d
    · rw [if_pos q, if_pos ⟨rfl, q⟩]; exact ⟨rfl, rfl⟩
    · rw [if_neg q, if_neg (fun h => q h.2)]; exact ⟨rfl, rfl⟩
  · rw [if_neg c, if_neg (fun h => c h.1)]; exact ⟨rfl, rfl⟩
end Mu
