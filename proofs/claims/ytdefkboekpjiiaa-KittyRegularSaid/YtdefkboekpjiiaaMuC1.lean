/- The code comes to what was worked out. -/
import Derived.Test.YtdefkboekpjiiaaMuDf
import Derived.Test.YtdefkboekpjiiaaMuPa
import Derived.Test.YtdefkboekpjiiaaMuC0
set_option linter.unusedVariables false
set_option linter.unnecessarySimpa false
set_option linter.unusedSimpArgs false
set_option maxHeartbeats 2000000
set_option maxRecDepth 10000
namespace Mu
open Go (IntKind BinOp UnOp)
theorem zB.ok {h : Hp} {x : List Int} {count : Int} {v_x : V} (s_x : Sl eInt h v_x x) {r : (List Int)} (hp : zB x count = some r) :
  ∃ u k', Is G 83 [v_x, .i .i64 count] h u k' ∧ ∃ (v₁ : V), v₁ = u ∧ Own (fun r => r < h.n) h k' [eSl eInt v₁ r] := by
 refine WC.is (WC_of G_F_slices_Repeat_int ?_)
 unfold zB at hp
 let B : Nat → Prop := (fun r => r < h.n)
 have hO : Own B h h [] := Own.start0 h
 refine W_sq (W_rg (Zb (a_mv (v := .sn) rfl) (Zh (Ze (W_sq (W_sq (W_rg ?_)))))))
 refine Zb (a_mv (v := .i .i64 count) rfl) (Zb (a_lss (a := count) (b := 0) rfl rfl) (Zh (Ze ?_)))
 obtain ⟨o₁, ho₁, hp⟩ := Zt hp
 refine W.mono (Q := fun e fr k => match (generalizing := false) o₁ with
   | _ => e = .normal ∧ fr 0 = v_x ∧ fr 1 = .i .i64 count ∧ Own B h k []) ?_ ?_
 ·clear hp; have hp := ho₁; clear ho₁
  rcases Zv hp with ⟨b₁, hp⟩ | ⟨b₁, hp⟩
  ·refine W_cT (t := (decide (count < 0))) rfl b₁ ?_
   exact nomatch hp
  ·refine W_cF (t := (decide (count < 0))) rfl b₁ ?_
   refine W_sk ?_
   have hp := Option.some.inj hp; subst hp
   exact (And.intro rfl (And.intro (rfl) (And.intro (rfl) (hO.pick [] rfl (by decide)))))
 intro e₁ q₁ k₁ hJ₁
 obtain ⟨rfl, q₁_0, q₁_1, hO₁⟩ := hJ₁
 refine Ze (W_sq (W_rg (Zb (a_mv (v := v_x) q₁_0) (Zb (a_len (hO₁.rd0 s_x.rd : Sl eInt k₁ v_x x) rfl) ?_))))
 obtain ⟨c₁, hp⟩ := Zo hp
 refine Zb (a_conv (a := (x.length : Int)) rfl c₁) (Zb (a_mv (v := .i .i64 count) q₁_1) ?_)
 obtain ⟨c₂, hp⟩ := Zo hp
 refine Zb (a_conv (a := count) rfl c₂) ?_
 obtain ⟨⟨x1, x2⟩, hx₁, hp⟩ := Zt hp
 obtain ⟨u₁, k₂, ca₁, rfl, hW₁⟩ := ZaF.ok (h := k₁)   hx₁
 refine Zaj (id := 89) (caps := []) rfl (Z7 (v := .i .u64 (x.length : Int)) rfl (Z7 (v := .i .u64 count) rfl zl)) ca₁ ?_
 have hO₂ : Own B h k₂ [] := hO₁.call hW₁ rfl
 refine Zb (a_mv (v := .tu [.i .u64 x1, .i .u64 x2]) rfl) (Zb (Zax (vs := [.i .u64 x1, .i .u64 x2]) (v := .i .u64 x1) rfl rfl) (Zb (Zax (vs := [.i .u64 x1, .i .u64 x2]) (v := .i .u64 x2) rfl rfl) (Zb (a_mv (v := .i .u64 x1) rfl) (Zb (a_mv (v := .i .u64 x2) rfl) (Zh (Ze (W_sq ?_)))))))
 refine W_sq (W_rg (Zb (a_mv (v := .i .u64 x1) rfl) (Zb (a_gtr (a := x1) (b := 0) rfl rfl) (Zb (a_mv (v := .b (decide (0 < x1))) rfl) ?_))))
 refine zX 3 (fun fr' k' => k₂ = k' ∧ fr' 26 = .b ((decide (0 < x1)) || (decide (9223372036854775807 < x2))) ∧ fr' 0 = v_x ∧ fr' 6 = .i .u64 x2) ?_ ?_
 ·rcases bc (decide (0 < x1)) with b₂ | b₂
  ·skip
   refine WO_off rfl b₂ (WO_off rfl b₂ (Zb (zk (t := (decide (0 < x1))) (v := .b ((decide (0 < x1)) || (decide (9223372036854775807 < x2)))) rfl b₂ (Eq.trans (b := V.b true) rfl (ZaA b₂))) (Zh ?_)))
   exact ⟨rfl, rfl, q₁_0, rfl⟩
  ·skip
   refine WO_on rfl b₂ (Zb (a_mv (v := .i .u64 x2) rfl) (WO_on rfl b₂ (Zb (a_gtr (a := x2) (b := 9223372036854775807) rfl rfl) (Zb (zi (t := (decide (0 < x1))) (v := .b ((decide (0 < x1)) || (decide (9223372036854775807 < x2)))) rfl b₂ (Eq.trans (b := V.b (decide (9223372036854775807 < x2))) rfl (ZaH b₂))) (Zh ?_)))))
   exact ⟨rfl, rfl, q₁_0, rfl⟩
 rintro frg₁ _ ⟨rfl, g₁_26, g₁_0, g₁_6⟩
 refine Zh (Ze ?_)
 obtain ⟨o₂, ho₂, hp⟩ := Zt hp
 refine W.mono (Q := fun e fr k => match (generalizing := false) o₂ with
   | _ => e = .normal ∧ fr 0 = v_x ∧ fr 6 = .i .u64 x2 ∧ Own B h k []) ?_ ?_
 ·clear hp; have hp := ho₂; clear ho₂
  rcases Zv hp with ⟨b₃, hp⟩ | ⟨b₃, hp⟩
  ·refine W_cT (t := ((decide (0 < x1)) || (decide (9223372036854775807 < x2)))) g₁_26 b₃ ?_
   exact nomatch hp
  ·refine W_cF (t := ((decide (0 < x1)) || (decide (9223372036854775807 < x2)))) g₁_26 b₃ ?_
   refine W_sk ?_
   have hp := Option.some.inj hp; subst hp
   exact (And.intro rfl (And.intro (g₁_0) (And.intro (g₁_6) (hO₂.pick [] rfl (by decide)))))
 intro e₂ q₂ k₃ hJ₂
 obtain ⟨rfl, q₂_0, q₂_6, hO₃⟩ := hJ₂
 refine Ze (W_sq (W_rg (Zb (a_mv (v := .i .u64 x2) q₂_6) ?_)))
 obtain ⟨c₃, hp⟩ := Zo hp
 refine Zb (a_conv (a := x2) rfl c₃) ?_
 obtain ⟨c₄, hp⟩ := Zo hp
 refine zq (hO₃.mks (E := eInt) (y := (0 : Int)) (bytes := 8) (z := x2) hO₃.fr rfl rfl rfl c₄ (by decide)) ?_
 rintro v₂ k₄ ⟨r₁, f₁, hW⟩
 have hO₄ : Own B h k₄ [eSl eInt v₂ (List.replicate (x2 : Int).toNat (0 : Int))] := hW
 refine Zb (a_mv (v := v₂) rfl) (Zh (Ze (W_sq (W_rg (Zb (a_mv (v := v₂) rfl) (Zb (a_mv (v := v_x) q₂_0) (zq (hO₄.cpy (E := eInt) 0 rfl (hO₄.rd0 s_x.rd : Sl eInt k₄ v_x x) rfl rfl (fun _ => rfl)) ?_)))))))
 rintro _ k₅ ⟨rfl, f₂, hW⟩
 have hO₅ : Own B h k₅ [eSl eInt v₂ (x.take (List.replicate (x2 : Int).toNat (0 : Int)).length ++ (List.replicate (x2 : Int).toNat (0 : Int)).drop x.length)] := hW
 refine Zb (a_mv (v := .i .i64 ((min x.length (List.replicate (x2 : Int).toNat (0 : Int)).length : Nat) : Int)) rfl) (Zh (Ze (W_sq (W_bl ?_))))
 obtain ⟨o₃, ho₃, hp⟩ := Zt hp
 refine W.mono (Q := fun e fr k => match (generalizing := false) o₃ with
   | newslice1 => e = (.exit 0) ∧ fr 7 = v₂ ∧ Own B h k [eSl eInt v₂ newslice1]) ?_ ?_
 ·clear hp
  refine z3 (fun st fr k => match st with | (newslice, n) => fr 7 = v₂ ∧ fr 8 = .i .i64 n ∧ Own B h k [eSl eInt v₂ newslice]) ho₃ (s := (x.take (List.replicate (x2 : Int).toNat (0 : Int)).length ++ (List.replicate (x2 : Int).toNat (0 : Int)).drop x.length, ((min x.length (List.replicate (x2 : Int).toNat (0 : Int)).length : Nat) : Int))) (And.intro (rfl) (And.intro (rfl) (hO₅.pick [0] rfl (by decide)))) ?_
  rintro ⟨newslice, n⟩ q₄ k₇ ⟨q₄_7, q₄_8, hO₇⟩ o₄ hp
  dsimp only [zB.s0] at hp
  refine W_sq (W_sq (W_rg (Zb (a_mv (v := .i .i64 n) q₄_8) (Zb (a_mv (v := v₂) q₄_7) (Zb (a_len (hO₇.sl 0 rfl : Sl eInt k₇ v₂ newslice) rfl) (Zb (a_lss (a := n) (b := (newslice.length : Int)) rfl rfl) (Zh ?_)))))))
  refine Ze ?_
  rcases Zv hp with ⟨b₄, hp⟩ | ⟨b₄, hp⟩
  ·refine W_cT (t := (decide (n < (newslice.length : Int)))) rfl b₄ ?_
   refine W_sk (Ze (W_bl (W_dr ?_)))
   have hW := hO₇.bump 10
   have fr₁ := Fresh.start k₇ 10
   have nb₁ : ∀ {i : Nat}, h.n ≤ k₇.n + i := Nat.le_trans hO₇.n (Nat.le_add_right _ _)
   have hO₈ : Own B h (k₇.bump 10) [eSl eInt v₂ newslice] := hW
   refine zM (a_mv (v := .i .i64 n) q₄_8) (zM (a_mv (v := v₂) q₄_7) (zM (a_mv (v := .i .i64 n) q₄_8) ?_))
   obtain ⟨c₅, hp⟩ := Zo hp
   refine zM (a_slcF (E := eInt) (z := n) (hO₈.sl 0 rfl : Sl eInt (k₇.bump 10) v₂ newslice) rfl rfl c₅) (zM (a_mv (v := v₂) q₄_7) (zM (a_mv (v := .i .i64 n) q₄_8) (zM (a_slcU (E := eInt) (z := n) (hO₈.sl 0 rfl : Sl eInt (k₇.bump 10) v₂ newslice) rfl rfl c₅) (ZaR (hO₈.cpyF (E := eInt) (z := n) 0 rfl c₅ (Sl.cutU (hO₈.sl 0 rfl : Sl eInt (k₇.bump 10) v₂ newslice) c₅ : Sl eInt (k₇.bump 10) (V.cut v₂ 0 (n : Int).toNat) (newslice.take (n : Int).toNat)) rfl rfl (fun _ => rfl)) ?_))))
   rintro _ k₉ z₁ ⟨rfl, f₃, hW⟩
   have fr₂ := fr₁.kept f₃ (by decide)
   have hO₉ : Own B h k₉ [eSl eInt v₂ (newslice.take (n : Int).toNat ++ ((newslice.take (n : Int).toNat).take (newslice.drop (n : Int).toNat).length ++ (newslice.drop (n : Int).toNat).drop (newslice.take (n : Int).toNat).length))] := hW
   obtain ⟨c₆, hp⟩ := Zo hp
   refine zM (a_add (a := n) (b := ((min (newslice.take (n : Int).toNat).length (newslice.drop (n : Int).toNat).length : Nat) : Int)) rfl rfl c₆) (zM (a_mv (v := .i .i64 (n + ((min (newslice.take (n : Int).toNat).length (newslice.drop (n : Int).toNat).length : Nat) : Int))) rfl) (WD_end ?_))
   refine And.intro ?_ ?_
   ·intro q hq
    cases hq
   refine zL ?_
   have hp := Option.some.inj hp; subst hp
   exact (Or.inl (Exists.intro (newslice.take (n : Int).toNat ++ ((newslice.take (n : Int).toNat).take (newslice.drop (n : Int).toNat).length ++ (newslice.drop (n : Int).toNat).drop (newslice.take (n : Int).toNat).length), n + ((min (newslice.take (n : Int).toNat).length (newslice.drop (n : Int).toNat).length : Nat) : Int)) (And.intro rfl (And.intro rfl (And.intro (q₄_7) (And.intro (rfl) (hO₉.pick [0] rfl (by decide))))))))
  ·refine W_cF (t := (decide (n < (newslice.length : Int)))) rfl b₄ ?_
   refine W_ex (zC ?_)
   have hp := Option.some.inj hp; subst hp
   refine (Or.inr (Exists.intro newslice (And.intro rfl (And.intro (fun h => nomatch h) (fun he => ?_)))))
   subst he; exact (And.intro rfl (And.intro (q₄_7) (hO₇.pick [0] rfl (by decide))))
 intro e₃ q₃ k₆ hJ₃
 obtain ⟨newslice1, rfl⟩ : ∃ x, x = o₃ := ⟨_, rfl⟩
 obtain ⟨rfl, q₃_7, hO₆⟩ := hJ₃
 refine zS (Ze (W_sq (W_rg (Zb (a_mv (v := v₂) q₃_7) (Zb (a_mv (v := v₂) rfl) (Zh (Ze ?_)))))))
 refine W_rt (Ret_r (rs_t (n := 4) (v := v₂) rfl rs_nil) ?_)
 have hp := Option.some.inj hp; subst hp
 exact (Exists.intro v₂ (And.intro rfl (hO₆.pick [0] rfl (by decide))))

theorem zN.ok {h : Hp} {cells : List Zk} {v : Int} {v_cells : V} (s_cells : Sl Zf h v_cells cells) {r : (List Int) × (List Int)} (hp : zN cells v = some r) :
  ∃ u k', Is G 67 [v_cells, .i .i64 v] h u k' ∧ ∃ (v₁ : V), ∃ (v₂ : V), V.tu [v₁, v₂] = u ∧ Own (fun r => r < h.n) h k' [eSl eInt v₁ r.1, eSl eInt v₂ r.2] := by
 refine WC.is (WC_of G_F_join_spread ?_)
 unfold zN at hp
 let B : Nat → Prop := (fun r => r < h.n)
 have hO : Own B h h [] := Own.start0 h
 refine W_sq (W_rg (Zb (a_mv (v := .sn) rfl) (Zb (a_mv (v := .sn) rfl) (Zh (Ze (W_sq (W_rg ?_)))))))
 refine zq (hO.bsl (E := eInt) (l := ([(-1)] : List Int)) hO.fr (by rw [(zc (v := .i .i64 (-1)) rfl ev_nil)]; rfl) rfl) ?_
 rintro v₃ k₁ ⟨r₁, f₁, hW⟩
 have hO₁ : Own B h k₁ [eSl eInt v₃ ([(-1)] : List Int)] := hW
 refine Zb (a_mv (v := v_cells) rfl) (Zb (a_len (hO₁.rd0 s_cells.rd : Sl Zf k₁ v_cells cells) rfl) ?_)
 obtain ⟨x, hx₁, hp⟩ := Zt hp
 obtain ⟨u₁, k₂, ca₁, v₄, rfl, hW₁⟩ := zB.ok (h := k₁)  (hO₁.sl 0 rfl : Sl eInt k₁ v₃ ([(-1)] : List Int)) hx₁
 refine Zaj (id := 83) (caps := []) rfl (Z7 (v := v₃) rfl (Z7 (v := .i .i64 (cells.length : Int)) rfl zl)) ca₁ ?_
 have hO₂ : Own B h k₂ [eSl eInt v₃ ([(-1)] : List Int), eSl eInt v₄ x] := hO₁.call hW₁ rfl
 refine zq (hO₂.bsl (E := eInt) (l := ([(-1)] : List Int)) hO₂.fr (by rw [(zc (v := .i .i64 (-1)) rfl ev_nil)]; rfl) rfl) ?_
 rintro v₅ k₃ ⟨r₂, f₂, hW⟩
 have hO₃ : Own B h k₃ [eSl eInt v₃ ([(-1)] : List Int), eSl eInt v₄ x, eSl eInt v₅ ([(-1)] : List Int)] := hW
 refine Zb (a_mv (v := v_cells) rfl) (Zb (a_len (hO₃.rd0 s_cells.rd : Sl Zf k₃ v_cells cells) rfl) ?_)
 obtain ⟨x1, hx₂, hp⟩ := Zt hp
 obtain ⟨u₂, k₄, ca₂, v₆, rfl, hW₂⟩ := zB.ok (h := k₃)  (hO₃.sl 2 rfl : Sl eInt k₃ v₅ ([(-1)] : List Int)) hx₂
 refine Zaj (id := 83) (caps := []) rfl (Z7 (v := v₅) rfl (Z7 (v := .i .i64 (cells.length : Int)) rfl zl)) ca₂ ?_
 have hO₄ : Own B h k₄ [eSl eInt v₃ ([(-1)] : List Int), eSl eInt v₄ x, eSl eInt v₅ ([(-1)] : List Int), eSl eInt v₆ x1] := hO₃.call hW₂ rfl
 refine Zb (a_mv (v := v₄) rfl) (Zb (a_mv (v := v₆) rfl) (Zh (Ze (W_sq (W_rg (Zb (a_mv (v := .i .i64 v) rfl) (zq (hO₄.bsl (E := eInt) (l := [v]) hO₄.fr (by rw [(zc (v := .i .i64 v) rfl ev_nil)]; rfl) rfl) ?_)))))))
 rintro v₇ k₅ ⟨r₃, f₃, hW⟩
 have hO₅ : Own B h k₅ [eSl eInt v₃ ([(-1)] : List Int), eSl eInt v₄ x, eSl eInt v₅ ([(-1)] : List Int), eSl eInt v₆ x1, eSl eInt v₇ [v]] := hW
 refine Zb (a_mv (v := v₇) rfl) (Zh (Ze (W_sq (W_rg (Zb (a_mv (v := v_cells) rfl) (Zb (a_len (hO₅.rd0 s_cells.rd : Sl Zf k₅ v_cells cells) rfl) ?_))))))
 obtain ⟨c₁, hp⟩ := Zo hp
 refine zq (hO₅.mks (E := e_bool) (y := false) (bytes := 1) (z := (cells.length : Int)) hO₅.fr rfl rfl rfl c₁ (by decide)) ?_
 rintro v₈ k₆ ⟨r₄, f₄, hW⟩
 have hO₆ : Own B h k₆ [eSl eInt v₃ ([(-1)] : List Int), eSl eInt v₄ x, eSl eInt v₅ ([(-1)] : List Int), eSl eInt v₆ x1, eSl eInt v₇ [v], eSl e_bool v₈ (List.replicate ((cells.length : Int) : Int).toNat false)] := hW
 refine Zb (a_mv (v := v₈) rfl) (Zh (Ze (W_sq (W_rg (Zb (a_mv (v := v₈) rfl) (Zb (a_mv (v := .i .i64 v) rfl) ?_))))))
 obtain ⟨c₂, hp⟩ := Zo hp
 refine Zb (a_ixa (E := e_bool) (z := v) (hO₆.sl 5 rfl : Sl e_bool k₆ v₈ (List.replicate ((cells.length : Int) : Int).toNat false)) rfl rfl c₂) (zq (hO₆.ste (E := e_bool) (y := true) (ws := [.b true]) 5 rfl rfl (Zq c₂) rfl rfl ⟨rfl, Nat.le_of_ble_eq_true rfl, rfl⟩ rfl) ?_)
 rintro _ k₇ ⟨rfl, f₅, m₁, hW⟩
 have hO₇ : Own B h k₇ [eSl eInt v₃ ([(-1)] : List Int), eSl eInt v₄ x, eSl eInt v₅ ([(-1)] : List Int), eSl eInt v₆ x1, eSl eInt v₇ [v], eSl e_bool v₈ ((List.replicate ((cells.length : Int) : Int).toNat false).set (v : Int).toNat true)] := hW
 refine Zh (Ze (W_sq (W_bl ?_)))
 obtain ⟨o₁, ho₁, hp⟩ := Zt hp
 refine W.mono (Q := fun e fr k => match (generalizing := false) o₁ with
   | (from_1, dir1) => e = (.exit 0) ∧ fr 6 = v₄ ∧ fr 7 = v₆ ∧ Own B h k [eSl eInt v₄ from_1, eSl eInt v₆ dir1]) ?_ ?_
 ·clear hp
  refine z3 (fun st fr k => match st with | (from_, dir, l, met) => ∃ (v₉ : V), fr 0 = v_cells ∧ fr 6 = v₄ ∧ fr 7 = v₆ ∧ fr 8 = v₉ ∧ fr 9 = v₈ ∧ Own B h k [eSl eInt v₄ from_, eSl eInt v₆ dir, eSl eInt v₉ l, eSl e_bool v₈ met]) ho₁ (s := (x, x1, [v], (List.replicate ((cells.length : Int) : Int).toNat false).set (v : Int).toNat true)) (Exists.intro v₇ (And.intro (rfl) (And.intro (rfl) (And.intro (rfl) (And.intro (rfl) (And.intro (rfl) (hO₇.pick [1, 3, 4, 5] rfl (by decide)))))))) ?_
  rintro ⟨from_, dir, l, met⟩ q₂ k₉ ⟨v₉, q₂_0, q₂_6, q₂_7, q₂_8, q₂_9, hO₉⟩ o₂ hp
  dsimp only [zN.s0] at hp
  refine W_sq (W_sq (W_rg (Zb (a_mv (v := v₉) q₂_8) (Zb (a_len (hO₉.sl 2 rfl : Sl eInt k₉ v₉ l) rfl) (Zb (a_gtr (a := (l.length : Int)) (b := 0) rfl rfl) (Zh (Ze ?_)))))))
  rcases Zv hp with ⟨b₁, hp⟩ | ⟨b₁, hp⟩
  ·refine W_cT (t := (decide (0 < (l.length : Int)))) rfl b₁ ?_
   refine W_sk (Ze (W_bl (W_sq (W_rg (Zb (a_mv (v := v₉) q₂_8) ?_)))))
   obtain ⟨c₃, hp⟩ := Zo hp
   refine Zb (a_ixa (E := eInt) (z := 0) (hO₉.sl 2 rfl : Sl eInt k₉ v₉ l) rfl rfl c₃) (Zb (zH (w := .i .i64 (gi l (0 : Int).toNat)) (hO₉.sl 2 rfl : Sl eInt k₉ v₉ l) rfl (Zq c₃) rfl) (Zb (a_mv (v := .i .i64 (gi l (0 : Int).toNat)) rfl) (Zh (Ze (W_sq (W_rg (Zb (a_mv (v := v₉) q₂_8) ?_)))))))
   obtain ⟨c₄, hp⟩ := Zo hp
   refine Zb (a_slcF (E := eInt) (z := 1) (hO₉.sl 2 rfl : Sl eInt k₉ v₉ l) rfl rfl c₄) (Zb (a_mv (v := (V.cut v₉ (1 : Int).toNat (l).length)) rfl) (Zh (Ze (W_sq (W_rg (Zb (a_mv (v := .i .i64 0) rfl) (Zh ?_)))))))
   refine Ze (W_bl ?_)
   obtain ⟨o₃, ho₂, hp⟩ := Zt hp
   refine W.mono (Q := fun e fr k => match (generalizing := false) o₃ with
     | (from_3, dir3, l2, met2) => e = (.exit 2) ∧ ∃ (v₁₁ : V), fr 0 = v_cells ∧ fr 6 = v₄ ∧ fr 7 = v₆ ∧ fr 8 = v₁₁ ∧ fr 9 = v₈ ∧ Own B h k [eSl eInt v₄ from_3, eSl eInt v₆ dir3, eSl eInt v₁₁ l2, eSl e_bool v₈ met2]) ?_ ?_
   ·clear hp
    have hO₁₁ : Own B h k₉ [eSl eInt v₄ from_, eSl eInt v₆ dir, eSl eInt (V.cut v₉ (1 : Int).toNat (l).length) (l.drop (1 : Int).toNat), eSl e_bool v₈ met] := hO₉.cutF 2 rfl c₄
    refine z3 (fun st fr k => match st with | (from_2, dir2, l1, met1, x2) => ∃ (v₁₀ : V), fr 0 = v_cells ∧ fr 6 = v₄ ∧ fr 7 = v₆ ∧ fr 8 = v₁₀ ∧ fr 9 = v₈ ∧ fr 10 = .i .i64 (gi l (0 : Int).toNat) ∧ fr 37 = .i .i64 x2 ∧ Own B h k [eSl eInt v₄ from_2, eSl eInt v₆ dir2, eSl eInt v₁₀ l1, eSl e_bool v₈ met1]) ho₂ (s := (from_, dir, l.drop (1 : Int).toNat, met, 0)) (Exists.intro (V.cut v₉ (1 : Int).toNat (l).length) (And.intro (q₂_0) (And.intro (q₂_6) (And.intro (q₂_7) (And.intro (rfl) (And.intro (q₂_9) (And.intro (rfl) (And.intro (rfl) (hO₁₁.pick [0, 1, 2, 3] rfl (by decide)))))))))) ?_
    rintro ⟨from_2, dir2, l1, met1, x2⟩ q₄ k₁₁ ⟨v₁₀, q₄_0, q₄_6, q₄_7, q₄_8, q₄_9, q₄_10, q₄_37, hO₁₂⟩ o₄ hp
    dsimp only [zN.s1] at hp
    refine W_sq (W_rg (Zb (a_lss (a := x2) (b := 4) q₄_37 rfl) (Zh (Ze (W_sq ?_)))))
    rcases Zv hp with ⟨b₂, hp⟩ | ⟨b₂, hp⟩
    ·refine W_cT (t := (decide (x2 < 4))) rfl b₂ ?_
     refine W_sk (Ze (W_sq (W_bl (W_sq (W_rg (Zb (a_mv (v := .i .i64 x2) q₄_37) (Zb (a_mv (v := .i .i64 x2) rfl) ?_)))))))
     refine Zh (Ze (W_sq (W_rg (Zb (a_mv (v := v_cells) q₄_0) (Zb (a_mv (v := .i .i64 (gi l (0 : Int).toNat)) q₄_10) (Zb (a_mv (v := .i .i64 x2) rfl) ?_))))))
     obtain ⟨c₅, hp⟩ := Zo hp
     refine Zb (a_ixa (E := Zf) (z := (gi l (0 : Int).toNat)) (hO₁₂.rd0 s_cells.rd : Sl Zf k₁₁ v_cells cells) rfl rfl c₅) (Zb (Zan (off' := 0) (off2 := 0) (hO₁₂.rd0 s_cells.rd : Sl Zf k₁₁ v_cells cells) (Zq c₅) rfl rfl) ?_)
     obtain ⟨c₆, hp⟩ := Zo hp
     refine Zb (Za4 (off := 0) (off2 := (0 + (x2 : Int).toNat * 1)) (z := x2) (hO₁₂.rd0 s_cells.rd : Sl Zf k₁₁ v_cells cells) (Zq c₅) rfl rfl c₆ rfl) (Zb (zH (w := .i .i64 (((gi cells (gi l (0 : Int).toNat : Int).toNat).Next).get x2)) (hO₁₂.rd0 s_cells.rd : Sl Zf k₁₁ v_cells cells) rfl (Zq c₅) (zP c₆)) (Zb (a_mv (v := .i .i64 (((gi cells (gi l (0 : Int).toNat : Int).toNat).Next).get x2)) rfl) (Zh (Ze (W_sq (W_rg (Zb (a_mv (v := .i .i64 (((gi cells (gi l (0 : Int).toNat : Int).toNat).Next).get x2)) rfl) ?_)))))))
     refine Zb (a_geq (a := (((gi cells (gi l (0 : Int).toNat : Int).toNat).Next).get x2)) (b := 0) rfl rfl) (Zb (a_mv (v := .b (decide (0 ≤ (((gi cells (gi l (0 : Int).toNat : Int).toNat).Next).get x2)))) rfl) ?_)
     obtain ⟨t, hv₁, hp⟩ := Zt hp
     refine zX 6 (fun fr' k' => k₁₁ = k' ∧ fr' 55 = .b t ∧ fr' 0 = v_cells ∧ fr' 10 = .i .i64 (gi l (0 : Int).toNat) ∧ fr' 11 = .i .i64 x2 ∧ fr' 12 = .i .i64 (((gi cells (gi l (0 : Int).toNat : Int).toNat).Next).get x2) ∧ fr' 37 = .i .i64 x2 ∧ fr' 6 = v₄ ∧ fr' 7 = v₆ ∧ fr' 8 = v₁₀ ∧ fr' 9 = v₈) ?_ ?_
     ·clear hp; rcases Zv hv₁ with ⟨b₃, hp⟩ | ⟨b₃, hp⟩
      ·skip
       refine WO_on rfl b₃ (Zb (a_mv (v := v₈) q₄_9) (WO_on rfl b₃ (Zb (a_mv (v := .i .i64 (((gi cells (gi l (0 : Int).toNat : Int).toNat).Next).get x2)) rfl) (WO_on rfl b₃ ?_))))
       obtain ⟨c₇, hp⟩ := Zo hp
       refine Zb (a_ixa (E := e_bool) (z := (((gi cells (gi l (0 : Int).toNat : Int).toNat).Next).get x2)) (hO₁₂.sl 3 rfl : Sl e_bool k₁₁ v₈ met1) rfl rfl c₇) (WO_on rfl b₃ (Zb (zH (w := .b (gi met1 (((gi cells (gi l (0 : Int).toNat : Int).toNat).Next).get x2 : Int).toNat)) (hO₁₂.sl 3 rfl : Sl e_bool k₁₁ v₈ met1) rfl (Zq c₇) rfl) (WO_on rfl b₃ (Zb (a_not (t := (gi met1 (((gi cells (gi l (0 : Int).toNat : Int).toNat).Next).get x2 : Int).toNat)) rfl) (Zb (zk (t := (decide (0 ≤ (((gi cells (gi l (0 : Int).toNat : Int).toNat).Next).get x2)))) (v := .b t) rfl b₃ (Eq.trans (b := V.b (!(gi met1 (((gi cells (gi l (0 : Int).toNat : Int).toNat).Next).get x2 : Int).toNat))) rfl (congrArg V.b (Option.some.inj hp)))) (Zh ?_))))))
       exact ⟨rfl, rfl, q₄_0, q₄_10, rfl, rfl, q₄_37, q₄_6, q₄_7, q₄_8, q₄_9⟩
      ·skip
       refine WO_off rfl b₃ (WO_off rfl b₃ (WO_off rfl b₃ (WO_off rfl b₃ (WO_off rfl b₃ (Zb (zi (t := (decide (0 ≤ (((gi cells (gi l (0 : Int).toNat : Int).toNat).Next).get x2)))) (v := .b t) rfl b₃ (Eq.trans (b := V.b false) rfl (congrArg V.b (Option.some.inj hp)))) (Zh ?_))))))
       exact ⟨rfl, rfl, q₄_0, q₄_10, rfl, rfl, q₄_37, q₄_6, q₄_7, q₄_8, q₄_9⟩
     rintro frg₁ _ ⟨rfl, g₁_55, g₁_0, g₁_10, g₁_11, g₁_12, g₁_37, g₁_6, g₁_7, g₁_8, g₁_9⟩
     refine Zh (Ze ?_)
     rcases Zv hp with ⟨b₄, hp⟩ | ⟨b₄, hp⟩
     ·refine W_cT (t := t) g₁_55 b₄ ?_
      refine W_sq (W_rg (Zb (a_mv (v := v₈) g₁_9) (Zb (a_mv (v := .i .i64 (((gi cells (gi l (0 : Int).toNat : Int).toNat).Next).get x2)) g₁_12) (Zb (a_mv (v := v₄) g₁_6) (Zb (a_mv (v := .i .i64 (((gi cells (gi l (0 : Int).toNat : Int).toNat).Next).get x2)) g₁_12) (Zb (a_mv (v := v₆) g₁_7) (Zb (a_mv (v := .i .i64 (((gi cells (gi l (0 : Int).toNat : Int).toNat).Next).get x2)) g₁_12) ?_)))))))
      refine Zb (a_mv (v := .i .i64 (gi l (0 : Int).toNat)) g₁_10) (Zb (a_mv (v := .i .i64 x2) g₁_11) ?_)
      obtain ⟨c₈, hp⟩ := Zo hp
      refine Zb (a_ixa (E := e_bool) (z := (((gi cells (gi l (0 : Int).toNat : Int).toNat).Next).get x2)) (hO₁₂.sl 3 rfl : Sl e_bool k₁₁ v₈ met1) rfl rfl c₈) (zq (hO₁₂.ste (E := e_bool) (y := true) (ws := [.b true]) 3 rfl rfl (Zq c₈) rfl rfl ⟨rfl, Nat.le_of_ble_eq_true rfl, rfl⟩ rfl) ?_)
      rintro _ k₁₂ ⟨rfl, f₆, m₂, hW⟩
      have hO₁₃ : Own B h k₁₂ [eSl eInt v₄ from_2, eSl eInt v₆ dir2, eSl eInt v₁₀ l1, eSl e_bool v₈ (met1.set (((gi cells (gi l (0 : Int).toNat : Int).toNat).Next).get x2 : Int).toNat true)] := hW
      obtain ⟨c₉, hp⟩ := Zo hp
      refine Zb (a_ixa (E := eInt) (z := (((gi cells (gi l (0 : Int).toNat : Int).toNat).Next).get x2)) (hO₁₃.sl 0 rfl : Sl eInt k₁₂ v₄ from_2) rfl rfl c₉) (zq (hO₁₃.ste (E := eInt) (y := (gi l (0 : Int).toNat)) (ws := [.i .i64 (gi l (0 : Int).toNat)]) 0 rfl rfl (Zq c₉) rfl rfl ⟨rfl, Nat.le_of_ble_eq_true rfl, rfl⟩ rfl) ?_)
      rintro _ k₁₃ ⟨rfl, f₇, m₃, hW⟩
      have hO₁₄ : Own B h k₁₃ [eSl eInt v₄ (from_2.set (((gi cells (gi l (0 : Int).toNat : Int).toNat).Next).get x2 : Int).toNat (gi l (0 : Int).toNat)), eSl eInt v₆ dir2, eSl eInt v₁₀ l1, eSl e_bool v₈ (met1.set (((gi cells (gi l (0 : Int).toNat : Int).toNat).Next).get x2 : Int).toNat true)] := hW
      obtain ⟨c₁₀, hp⟩ := Zo hp
      refine Zb (a_ixa (E := eInt) (z := (((gi cells (gi l (0 : Int).toNat : Int).toNat).Next).get x2)) (hO₁₄.sl 1 rfl : Sl eInt k₁₃ v₆ dir2) rfl rfl c₁₀) (zq (hO₁₄.ste (E := eInt) (y := x2) (ws := [.i .i64 x2]) 1 rfl rfl (Zq c₁₀) rfl rfl ⟨rfl, Nat.le_of_ble_eq_true rfl, rfl⟩ rfl) ?_)
      rintro _ k₁₄ ⟨rfl, f₈, m₄, hW⟩
      have hO₁₅ : Own B h k₁₄ [eSl eInt v₄ (from_2.set (((gi cells (gi l (0 : Int).toNat : Int).toNat).Next).get x2 : Int).toNat (gi l (0 : Int).toNat)), eSl eInt v₆ (dir2.set (((gi cells (gi l (0 : Int).toNat : Int).toNat).Next).get x2 : Int).toNat x2), eSl eInt v₁₀ l1, eSl e_bool v₈ (met1.set (((gi cells (gi l (0 : Int).toNat : Int).toNat).Next).get x2 : Int).toNat true)] := hW
      refine Zh (Ze (W_rg (Zb (a_mv (v := v₁₀) g₁_8) (Zb (a_mv (v := .i .i64 (((gi cells (gi l (0 : Int).toNat : Int).toNat).Next).get x2)) g₁_12) (zq (hO₁₅.bsl (E := eInt) (l := [((gi cells (gi l (0 : Int).toNat : Int).toNat).Next).get x2]) hO₁₅.fr (by rw [(zc (v := .i .i64 (((gi cells (gi l (0 : Int).toNat : Int).toNat).Next).get x2)) rfl ev_nil)]; rfl) rfl) ?_)))))
      rintro v₁₂ k₁₅ ⟨r₅, f₉, hW⟩
      have hO₁₆ : Own B h k₁₅ [eSl eInt v₄ (from_2.set (((gi cells (gi l (0 : Int).toNat : Int).toNat).Next).get x2 : Int).toNat (gi l (0 : Int).toNat)), eSl eInt v₆ (dir2.set (((gi cells (gi l (0 : Int).toNat : Int).toNat).Next).get x2 : Int).toNat x2), eSl eInt v₁₀ l1, eSl e_bool v₈ (met1.set (((gi cells (gi l (0 : Int).toNat : Int).toNat).Next).get x2 : Int).toNat true), eSl eInt v₁₂ [((gi cells (gi l (0 : Int).toNat : Int).toNat).Next).get x2]] := hW
      obtain ⟨c₁₁, hp⟩ := Zo hp
      refine zq (hO₁₆.app (E := eInt) (bytes := 8) 2 hO₁₆.fr rfl (hO₁₆.sl 4 rfl : Sl eInt k₁₅ v₁₂ [((gi cells (gi l (0 : Int).toNat : Int).toNat).Next).get x2]) rfl rfl (fun _ => rfl) c₁₁ (by decide)) ?_
      rintro v₁₃ k₁₆ ⟨f₁₀, hW⟩
      have hO₁₇ : Own B h k₁₆ [eSl eInt v₄ (from_2.set (((gi cells (gi l (0 : Int).toNat : Int).toNat).Next).get x2 : Int).toNat (gi l (0 : Int).toNat)), eSl eInt v₆ (dir2.set (((gi cells (gi l (0 : Int).toNat : Int).toNat).Next).get x2 : Int).toNat x2), eSl eInt v₁₃ (l1 ++ [((gi cells (gi l (0 : Int).toNat : Int).toNat).Next).get x2]), eSl e_bool v₈ (met1.set (((gi cells (gi l (0 : Int).toNat : Int).toNat).Next).get x2 : Int).toNat true), eSl eInt v₁₂ [((gi cells (gi l (0 : Int).toNat : Int).toNat).Next).get x2]] := hW
      refine Zb (a_mv (v := v₁₃) rfl) (Zh (zL (Ze (W_rg ?_))))
      obtain ⟨c₁₂, hp⟩ := Zo hp
      refine Zb (a_add (a := x2) (b := 1) g₁_37 rfl c₁₂) (Zb (a_mv (v := .i .i64 (x2 + 1)) rfl) (Zh ?_))
      have hp := Option.some.inj hp; subst hp
      exact (Or.inl (Exists.intro (from_2.set (((gi cells (gi l (0 : Int).toNat : Int).toNat).Next).get x2 : Int).toNat (gi l (0 : Int).toNat), dir2.set (((gi cells (gi l (0 : Int).toNat : Int).toNat).Next).get x2 : Int).toNat x2, l1 ++ [((gi cells (gi l (0 : Int).toNat : Int).toNat).Next).get x2], met1.set (((gi cells (gi l (0 : Int).toNat : Int).toNat).Next).get x2 : Int).toNat true, x2 + 1) (And.intro rfl (And.intro rfl (Exists.intro v₁₃ (And.intro (g₁_0) (And.intro (g₁_6) (And.intro (g₁_7) (And.intro (rfl) (And.intro (g₁_9) (And.intro (g₁_10) (And.intro (rfl) (hO₁₇.pick [0, 1, 2, 3] rfl (by decide))))))))))))))
     ·refine W_cF (t := t) g₁_55 b₄ ?_
      refine W_sk (zL (Ze (W_rg ?_)))
      obtain ⟨c₁₃, hp⟩ := Zo hp
      refine Zb (a_add (a := x2) (b := 1) g₁_37 rfl c₁₃) (Zb (a_mv (v := .i .i64 (x2 + 1)) rfl) (Zh ?_))
      have hp := Option.some.inj hp; subst hp
      exact (Or.inl (Exists.intro (from_2, dir2, l1, met1, x2 + 1) (And.intro rfl (And.intro rfl (Exists.intro v₁₀ (And.intro (g₁_0) (And.intro (g₁_6) (And.intro (g₁_7) (And.intro (g₁_8) (And.intro (g₁_9) (And.intro (g₁_10) (And.intro (rfl) (hO₁₂.pick [0, 1, 2, 3] rfl (by decide))))))))))))))
    ·refine W_cF (t := (decide (x2 < 4))) rfl b₂ ?_
     refine W_ex (zC ?_)
     have hp := Option.some.inj hp; subst hp
     refine (Or.inr (Exists.intro (from_2, dir2, l1, met1) (And.intro rfl (And.intro (fun h => nomatch h) (fun he => ?_)))))
     subst he; exact (And.intro rfl (Exists.intro v₁₀ (And.intro (q₄_0) (And.intro (q₄_6) (And.intro (q₄_7) (And.intro (q₄_8) (And.intro (q₄_9) (hO₁₂.pick [0, 1, 2, 3] rfl (by decide)))))))))
   intro e₂ q₃ k₁₀ hJ₂
   obtain ⟨from_3, dir3, l2, met2⟩ := o₃
   obtain ⟨rfl, v₁₁, q₃_0, q₃_6, q₃_7, q₃_8, q₃_9, hO₁₀⟩ := hJ₂
   refine zS (zL ?_)
   have hp := Option.some.inj hp; subst hp
   exact (Or.inl (Exists.intro (from_3, dir3, l2, met2) (And.intro rfl (And.intro rfl (Exists.intro v₁₁ (And.intro (q₃_0) (And.intro (q₃_6) (And.intro (q₃_7) (And.intro (q₃_8) (And.intro (q₃_9) (hO₁₀.pick [0, 1, 2, 3] rfl (by decide))))))))))))
  ·refine W_cF (t := (decide (0 < (l.length : Int)))) rfl b₁ ?_
   refine W_ex (zC ?_)
   have hp := Option.some.inj hp; subst hp
   refine (Or.inr (Exists.intro (from_, dir) (And.intro rfl (And.intro (fun h => nomatch h) (fun he => ?_)))))
   subst he; exact (And.intro rfl (And.intro (q₂_6) (And.intro (q₂_7) (hO₉.pick [0, 1] rfl (by decide)))))
 intro e₁ q₁ k₈ hJ₁
 obtain ⟨from_1, dir1⟩ := o₁
 obtain ⟨rfl, q₁_6, q₁_7, hO₈⟩ := hJ₁
 refine zS (Ze (W_sq (W_rg (Zb (a_mv (v := v₄) q₁_6) (Zb (a_mv (v := v₆) q₁_7) (Zb (a_mv (v := v₄) rfl) (Zb (a_mv (v := v₆) rfl) ?_)))))))
 refine Zh (Ze (W_rt (Ret_r (rs_t (n := 4) (v := v₄) rfl (rs_t (n := 5) (v := v₆) rfl rs_nil)) ?_)))
 have hp := Option.some.inj hp; subst hp
 exact (Exists.intro v₄ (Exists.intro v₆ (And.intro rfl (hO₈.pick [0, 1] rfl (by decide)))))

theorem zR.ok {h : Hp} {cells : List Zk} {v_cells : V} (s_cells : Sl Zf h v_cells cells) {r : (List (List Int)) × Int} (hp : zR cells = some r) :
  ∃ u k', Is G 29 [v_cells] h u k' ∧ ∃ (v₁ : V), ∃ (vs₁ : List V), V.tu [v₁, .i .i64 r.2] = u ∧ Own (fun r => r < h.n) h k' [eSl eV v₁ vs₁, eAll eInt vs₁ r.1] := by
 refine WC.is (WC_of G_F_join_Parts ?_)
 unfold zR at hp
 let B : Nat → Prop := (fun r => r < h.n)
 have hO : Own B h h [] := Own.start0 h
 refine W_sq (W_rg (Zb (a_mv (v := .sn) rfl) (Zb (a_mv (v := .i .i64 0) rfl) (Zh (Ze (W_sq (W_sq ?_)))))))
 refine W_rg (Zb (a_mv (v := v_cells) rfl) ?_)
 obtain ⟨x, hx₁, hp⟩ := Zt hp
 obtain ⟨u₁, k₁, ca₁, rfl, hW₁⟩ := z4.ok (h := h)  (hO.rd0 s_cells.rd : Sl Zf h v_cells cells) hx₁
 refine Zaj (id := 66) (caps := []) rfl (Z7 (v := v_cells) rfl zl) ca₁ ?_
 have hO₁ : Own B h k₁ [] := hO.call hW₁ rfl
 refine Zb (a_mv (v := .i .i64 x) rfl) (Zh (Ze (W_sq (W_rg (Zb (a_mv (v := .i .i64 x) rfl) (Zb (a_neI (a := x) (b := 0) rfl rfl) (Zh ?_)))))))
 refine Ze ?_
 rcases Zv hp with ⟨b₁, hp⟩ | ⟨b₁, hp⟩
 ·refine W_cT (t := (!(decide (x = 0)))) rfl b₁ ?_
  refine W_sq (W_rg (Zb (a_mv (v := .i .i64 x) rfl) (Zb (a_mv (v := .sn) rfl) (Zb (a_mv (v := .i .i64 x) rfl) (Zh (Ze (W_rt ?_)))))))
  refine zy ?_
  have hO₂ : Own B h k₁ [eSl eV .sn []] := hO₁.nil eV
  have hO₃ : Own B h k₁ [eSl eV .sn [], eAll eInt [] []] := hO₂.allNil eInt 0
  refine Ret_r (rs_t (n := 2) (v := .sn) rfl (rs_t (n := 3) (v := .i .i64 x) rfl rs_nil)) ?_
  have hp := Option.some.inj hp; subst hp
  exact (Exists.intro V.sn (Exists.intro [] (And.intro rfl (hO₃.pick [0, 1] rfl (by decide)))))
 ·refine W_cF (t := (!(decide (x = 0)))) rfl b₁ ?_
  refine W_sk (Ze (W_sq (W_rg (Zb (a_mv (v := .sn) rfl) (Zh (Ze (W_sq ?_)))))))
  refine W_rg (Zb (a_mv (v := v_cells) rfl) (Zb (a_len (hO₁.rd0 s_cells.rd : Sl Zf k₁ v_cells cells) rfl) ?_))
  obtain ⟨c₁, hp⟩ := Zo hp
  refine zq (hO₁.mks (E := e_bool) (y := false) (bytes := 1) (z := (cells.length : Int)) hO₁.fr rfl rfl rfl c₁ (by decide)) ?_
  rintro v₂ k₂ ⟨r₁, f₁, hW⟩
  have hO₄ : Own B h k₂ [eSl e_bool v₂ (List.replicate ((cells.length : Int) : Int).toNat false)] := hW
  refine Zb (a_mv (v := v₂) rfl) (Zh (Ze (W_sq (W_sq (W_rg (Zb (a_mv (v := v_cells) rfl) (Zb (a_len (hO₄.rd0 s_cells.rd : Sl Zf k₂ v_cells cells) rfl) ?_)))))))
  refine Zb (a_mv (v := .i .i64 0) rfl) (Zh (Ze (W_bl ?_)))
  obtain ⟨o₁, ho₁, hp⟩ := Zt hp
  refine W.mono (Q := fun e fr k => match (generalizing := false) o₁ with
    | l1 => e = (.exit 0) ∧ ∃ (v₄ : V), ∃ (vs₃ : List V), fr 5 = v₄ ∧ Own B h k [eSl eV v₄ vs₃, eAll eInt vs₃ l1]) ?_ ?_
  ·clear hp
   have hO₆ : Own B h k₂ [eSl e_bool v₂ (List.replicate ((cells.length : Int) : Int).toNat false), eSl eV .sn []] := hO₄.nil eV
   have hO₇ : Own B h k₂ [eSl e_bool v₂ (List.replicate ((cells.length : Int) : Int).toNat false), eSl eV .sn [], eAll eInt [] []] := hO₆.allNil eInt 0
   refine z3 (fun st fr k => match st with | (l, met, x1) => ∃ (v₃ : V), ∃ (vs₂ : List V), fr 0 = v_cells ∧ fr 5 = v₃ ∧ fr 6 = v₂ ∧ fr 21 = .i .i64 (cells.length : Int) ∧ fr 22 = .i .i64 x1 ∧ Own B h k [eSl eV v₃ vs₂, eAll eInt vs₂ l, eSl e_bool v₂ met]) ho₁ (s := (([] : List (List Int)), List.replicate ((cells.length : Int) : Int).toNat false, 0)) (Exists.intro V.sn (Exists.intro [] (And.intro (rfl) (And.intro (rfl) (And.intro (rfl) (And.intro (rfl) (And.intro (rfl) (hO₇.pick [1, 2, 0] rfl (by decide))))))))) ?_
   rintro ⟨l, met, x1⟩ q₂ k₄ ⟨v₃, vs₂, q₂_0, q₂_5, q₂_6, q₂_21, q₂_22, hO₈⟩ o₂ hp
   dsimp only [zR.s0] at hp
   refine W_sq (W_rg (Zb (a_lss (a := x1) (b := (cells.length : Int)) q₂_22 q₂_21) (Zh (Ze (W_sq ?_)))))
   rcases Zv hp with ⟨b₂, hp⟩ | ⟨b₂, hp⟩
   ·refine W_cT (t := (decide (x1 < (cells.length : Int)))) rfl b₂ ?_
    refine W_sk (Ze (W_sq (W_bl (W_sq (W_rg (Zb (a_mv (v := .i .i64 x1) q₂_22) (Zb (a_mv (v := .i .i64 x1) rfl) ?_)))))))
    refine Zh (Ze (W_sq (W_sq (W_rg (Zb (a_mv (v := v₂) q₂_6) (Zb (a_mv (v := .i .i64 x1) rfl) ?_))))))
    obtain ⟨c₂, hp⟩ := Zo hp
    refine Zb (a_ixa (E := e_bool) (z := x1) (hO₈.sl 2 rfl : Sl e_bool k₄ v₂ met) rfl rfl c₂) (Zb (zH (w := .b (gi met (x1 : Int).toNat)) (hO₈.sl 2 rfl : Sl e_bool k₄ v₂ met) rfl (Zq c₂) rfl) (Zh (Ze ?_)))
    rcases Zv hp with ⟨b₃, hp⟩ | ⟨b₃, hp⟩
    ·refine W_cT (t := (gi met (x1 : Int).toNat)) rfl b₃ ?_
     refine W_ex (zC (zS (Ze (W_rg ?_))))
     obtain ⟨c₃, hp⟩ := Zo hp
     refine Zb (a_add (a := x1) (b := 1) q₂_22 rfl c₃) (Zb (a_mv (v := .i .i64 (x1 + 1)) rfl) (Zh ?_))
     have hp := Option.some.inj hp; subst hp
     exact (Or.inl (Exists.intro (l, met, x1 + 1) (And.intro rfl (And.intro rfl (Exists.intro v₃ (Exists.intro vs₂ (And.intro (q₂_0) (And.intro (q₂_5) (And.intro (q₂_6) (And.intro (q₂_21) (And.intro (rfl) (hO₈.pick [0, 1, 2] rfl (by decide)))))))))))))
    ·refine W_cF (t := (gi met (x1 : Int).toNat)) rfl b₃ ?_
     refine W_sk (Ze (W_sq (W_rg (Zb (a_mv (v := v_cells) q₂_0) (Zb (a_mv (v := .i .i64 x1) rfl) ?_)))))
     obtain ⟨⟨x2, x3⟩, hx₂, hp⟩ := Zt hp
     obtain ⟨u₂, k₅, ca₂, v₅, v₆, rfl, hW₂⟩ := zN.ok (h := k₄)  (hO₈.rd0 s_cells.rd : Sl Zf k₄ v_cells cells) hx₂
     refine Zaj (id := 67) (caps := []) rfl (Z7 (v := v_cells) rfl (Z7 (v := .i .i64 x1) rfl zl)) ca₂ ?_
     have hO₉ : Own B h k₅ [eSl eV v₃ vs₂, eAll eInt vs₂ l, eSl e_bool v₂ met, eSl eInt v₅ x2, eSl eInt v₆ x3] := hO₈.call hW₂ rfl
     refine Zb (a_mv (v := .tu [v₅, v₆]) rfl) (Zb (Zax (vs := [v₅, v₆]) (v := v₅) rfl rfl) (Zb (Zax (vs := [v₅, v₆]) (v := v₆) rfl rfl) (Zb (a_mv (v := v₅) rfl) (Zb (a_mv (v := v₆) rfl) (Zh (Ze (W_sq ?_)))))))
     refine W_rg (zq (hO₉.bsl (E := eInt) (l := []) hO₉.fr (by rw [ev_nil]; rfl) rfl) ?_)
     rintro v₇ k₆ ⟨r₂, f₂, hW⟩
     have hO₁₀ : Own B h k₆ [eSl eV v₃ vs₂, eAll eInt vs₂ l, eSl e_bool v₂ met, eSl eInt v₅ x2, eSl eInt v₆ x3, eSl eInt v₇ []] := hW
     refine Zb (a_mv (v := v₇) rfl) (Zh (Ze (W_sq (W_sq (W_rg (Zb (a_mv (v := v_cells) q₂_0) (Zb (a_len (hO₁₀.rd0 s_cells.rd : Sl Zf k₆ v_cells cells) rfl) ?_)))))))
     refine Zb (a_mv (v := .i .i64 0) rfl) (Zh (Ze (W_bl ?_)))
     obtain ⟨o₃, ho₂, hp⟩ := Zt hp
     refine W.mono (Q := fun e fr k => match (generalizing := false) o₃ with
       | (met2, part1) => e = (.exit 2) ∧ ∃ (v₉ : V), fr 0 = v_cells ∧ fr 5 = v₃ ∧ fr 6 = v₂ ∧ fr 10 = v₉ ∧ fr 21 = .i .i64 (cells.length : Int) ∧ fr 22 = .i .i64 x1 ∧ Own B h k [eSl eV v₃ vs₂, eAll eInt vs₂ l, eSl e_bool v₂ met2, eSl eInt v₉ part1]) ?_ ?_
     ·clear hp
      refine z3 (fun st fr k => match st with | (met1, part, x4) => ∃ (v₈ : V), fr 0 = v_cells ∧ fr 5 = v₃ ∧ fr 6 = v₂ ∧ fr 7 = .i .i64 x1 ∧ fr 9 = v₆ ∧ fr 10 = v₈ ∧ fr 21 = .i .i64 (cells.length : Int) ∧ fr 22 = .i .i64 x1 ∧ fr 37 = .i .i64 (cells.length : Int) ∧ fr 38 = .i .i64 x4 ∧ Own B h k [eSl eV v₃ vs₂, eAll eInt vs₂ l, eSl e_bool v₂ met1, eSl eInt v₆ x3, eSl eInt v₈ part]) ho₂ (s := (met, [], 0)) (Exists.intro v₇ (And.intro (q₂_0) (And.intro (q₂_5) (And.intro (q₂_6) (And.intro (rfl) (And.intro (rfl) (And.intro (rfl) (And.intro (q₂_21) (And.intro (q₂_22) (And.intro (rfl) (And.intro (rfl) (hO₁₀.pick [0, 1, 2, 4, 5] rfl (by decide))))))))))))) ?_
      rintro ⟨met1, part, x4⟩ q₄ k₈ ⟨v₈, q₄_0, q₄_5, q₄_6, q₄_7, q₄_9, q₄_10, q₄_21, q₄_22, q₄_37, q₄_38, hO₁₂⟩ o₄ hp
      dsimp only [zR.s1] at hp
      refine W_sq (W_rg (Zb (a_lss (a := x4) (b := (cells.length : Int)) q₄_38 q₄_37) (Zh (Ze (W_sq ?_)))))
      rcases Zv hp with ⟨b₄, hp⟩ | ⟨b₄, hp⟩
      ·refine W_cT (t := (decide (x4 < (cells.length : Int)))) rfl b₄ ?_
       refine W_sk (Ze (W_sq (W_bl (W_sq (W_rg (Zb (a_mv (v := .i .i64 x4) q₄_38) (Zb (a_mv (v := .i .i64 x4) rfl) ?_)))))))
       refine Zh (Ze (W_sq (W_rg (Zb (a_mv (v := .i .i64 x4) rfl) (Zb (a_mv (v := .i .i64 x1) q₄_7) (Zb (a_eqI (a := x4) (b := x1) rfl rfl) (Zb (a_mv (v := .b (decide (x4 = x1))) rfl) ?_)))))))
       obtain ⟨t, hv₁, hp⟩ := Zt hp
       refine zX 6 (fun fr' k' => k₈ = k' ∧ fr' 50 = .b t ∧ fr' 0 = v_cells ∧ fr' 10 = v₈ ∧ fr' 11 = .i .i64 x4 ∧ fr' 21 = .i .i64 (cells.length : Int) ∧ fr' 22 = .i .i64 x1 ∧ fr' 37 = .i .i64 (cells.length : Int) ∧ fr' 38 = .i .i64 x4 ∧ fr' 5 = v₃ ∧ fr' 6 = v₂ ∧ fr' 7 = .i .i64 x1 ∧ fr' 9 = v₆) ?_ ?_
       ·clear hp; rcases Zv hv₁ with ⟨b₅, hp⟩ | ⟨b₅, hp⟩
        ·skip
         refine WO_off rfl b₅ (WO_off rfl b₅ (WO_off rfl b₅ (WO_off rfl b₅ (WO_off rfl b₅ (Zb (zk (t := (decide (x4 = x1))) (v := .b t) rfl b₅ (Eq.trans (b := V.b true) rfl (congrArg V.b (Option.some.inj hp)))) (Zh ?_))))))
         exact ⟨rfl, rfl, q₄_0, q₄_10, rfl, q₄_21, q₄_22, q₄_37, q₄_38, q₄_5, q₄_6, q₄_7, q₄_9⟩
        ·skip
         refine WO_on rfl b₅ (Zb (a_mv (v := v₆) q₄_9) (WO_on rfl b₅ (Zb (a_mv (v := .i .i64 x4) rfl) (WO_on rfl b₅ ?_))))
         obtain ⟨c₄, hp⟩ := Zo hp
         refine Zb (a_ixa (E := eInt) (z := x4) (hO₁₂.sl 3 rfl : Sl eInt k₈ v₆ x3) rfl rfl c₄) (WO_on rfl b₅ (Zb (zH (w := .i .i64 (gi x3 (x4 : Int).toNat)) (hO₁₂.sl 3 rfl : Sl eInt k₈ v₆ x3) rfl (Zq c₄) rfl) (WO_on rfl b₅ (Zb (a_geq (a := (gi x3 (x4 : Int).toNat)) (b := 0) rfl rfl) (Zb (zi (t := (decide (x4 = x1))) (v := .b t) rfl b₅ (Eq.trans (b := V.b (decide (0 ≤ (gi x3 (x4 : Int).toNat)))) rfl (congrArg V.b (Option.some.inj hp)))) (Zh ?_))))))
         exact ⟨rfl, rfl, q₄_0, q₄_10, rfl, q₄_21, q₄_22, q₄_37, q₄_38, q₄_5, q₄_6, q₄_7, q₄_9⟩
       rintro frg₁ _ ⟨rfl, g₁_50, g₁_0, g₁_10, g₁_11, g₁_21, g₁_22, g₁_37, g₁_38, g₁_5, g₁_6, g₁_7, g₁_9⟩
       refine Zh (Ze ?_)
       rcases Zv hp with ⟨b₆, hp⟩ | ⟨b₆, hp⟩
       ·refine W_cT (t := t) g₁_50 b₆ ?_
        refine W_sq (W_rg (Zb (a_mv (v := v₂) g₁_6) (Zb (a_mv (v := .i .i64 x4) g₁_11) ?_)))
        obtain ⟨c₅, hp⟩ := Zo hp
        refine Zb (a_ixa (E := e_bool) (z := x4) (hO₁₂.sl 2 rfl : Sl e_bool k₈ v₂ met1) rfl rfl c₅) (zq (hO₁₂.ste (E := e_bool) (y := true) (ws := [.b true]) 2 rfl rfl (Zq c₅) rfl rfl ⟨rfl, Nat.le_of_ble_eq_true rfl, rfl⟩ rfl) ?_)
        rintro _ k₉ ⟨rfl, f₃, m₁, hW⟩
        have hO₁₃ : Own B h k₉ [eSl eV v₃ vs₂, eAll eInt vs₂ l, eSl e_bool v₂ (met1.set (x4 : Int).toNat true), eSl eInt v₆ x3, eSl eInt v₈ part] := hW
        refine Zh (Ze (W_rg (Zb (a_mv (v := v₈) g₁_10) (Zb (a_mv (v := .i .i64 x4) g₁_11) (zq (hO₁₃.bsl (E := eInt) (l := [x4]) hO₁₃.fr (by rw [(zc (v := .i .i64 x4) rfl ev_nil)]; rfl) rfl) ?_)))))
        rintro v₁₀ k₁₀ ⟨r₃, f₄, hW⟩
        have hO₁₄ : Own B h k₁₀ [eSl eV v₃ vs₂, eAll eInt vs₂ l, eSl e_bool v₂ (met1.set (x4 : Int).toNat true), eSl eInt v₆ x3, eSl eInt v₈ part, eSl eInt v₁₀ [x4]] := hW
        obtain ⟨c₆, hp⟩ := Zo hp
        refine zq (hO₁₄.app (E := eInt) (bytes := 8) 4 hO₁₄.fr rfl (hO₁₄.sl 5 rfl : Sl eInt k₁₀ v₁₀ [x4]) rfl rfl (fun _ => rfl) c₆ (by decide)) ?_
        rintro v₁₁ k₁₁ ⟨f₅, hW⟩
        have hO₁₅ : Own B h k₁₁ [eSl eV v₃ vs₂, eAll eInt vs₂ l, eSl e_bool v₂ (met1.set (x4 : Int).toNat true), eSl eInt v₆ x3, eSl eInt v₁₁ (part ++ [x4]), eSl eInt v₁₀ [x4]] := hW
        refine Zb (a_mv (v := v₁₁) rfl) (Zh (zL (Ze (W_rg ?_))))
        obtain ⟨c₇, hp⟩ := Zo hp
        refine Zb (a_add (a := x4) (b := 1) g₁_38 rfl c₇) (Zb (a_mv (v := .i .i64 (x4 + 1)) rfl) (Zh ?_))
        have hp := Option.some.inj hp; subst hp
        exact (Or.inl (Exists.intro (met1.set (x4 : Int).toNat true, part ++ [x4], x4 + 1) (And.intro rfl (And.intro rfl (Exists.intro v₁₁ (And.intro (g₁_0) (And.intro (g₁_5) (And.intro (g₁_6) (And.intro (g₁_7) (And.intro (g₁_9) (And.intro (rfl) (And.intro (g₁_21) (And.intro (g₁_22) (And.intro (g₁_37) (And.intro (rfl) (hO₁₅.pick [0, 1, 2, 3, 4] rfl (by decide)))))))))))))))))
       ·refine W_cF (t := t) g₁_50 b₆ ?_
        refine W_sk (zL (Ze (W_rg ?_)))
        obtain ⟨c₈, hp⟩ := Zo hp
        refine Zb (a_add (a := x4) (b := 1) g₁_38 rfl c₈) (Zb (a_mv (v := .i .i64 (x4 + 1)) rfl) (Zh ?_))
        have hp := Option.some.inj hp; subst hp
        exact (Or.inl (Exists.intro (met1, part, x4 + 1) (And.intro rfl (And.intro rfl (Exists.intro v₈ (And.intro (g₁_0) (And.intro (g₁_5) (And.intro (g₁_6) (And.intro (g₁_7) (And.intro (g₁_9) (And.intro (g₁_10) (And.intro (g₁_21) (And.intro (g₁_22) (And.intro (g₁_37) (And.intro (rfl) (hO₁₂.pick [0, 1, 2, 3, 4] rfl (by decide)))))))))))))))))
      ·refine W_cF (t := (decide (x4 < (cells.length : Int)))) rfl b₄ ?_
       refine W_ex (zC ?_)
       have hp := Option.some.inj hp; subst hp
       refine (Or.inr (Exists.intro (met1, part) (And.intro rfl (And.intro (fun h => nomatch h) (fun he => ?_)))))
       subst he; exact (And.intro rfl (Exists.intro v₈ (And.intro (q₄_0) (And.intro (q₄_5) (And.intro (q₄_6) (And.intro (q₄_10) (And.intro (q₄_21) (And.intro (q₄_22) (hO₁₂.pick [0, 1, 2, 4] rfl (by decide))))))))))
     intro e₂ q₃ k₇ hJ₂
     obtain ⟨met2, part1⟩ := o₃
     obtain ⟨rfl, v₉, q₃_0, q₃_5, q₃_6, q₃_10, q₃_21, q₃_22, hO₁₁⟩ := hJ₂
     refine zS (Ze (W_rg (Zb (a_mv (v := v₃) q₃_5) (Zb (a_mv (v := v₉) q₃_10) (zq (hO₁₁.bsl (E := eV) (l := [v₉]) hO₁₁.fr (by rw [(zc (v := v₉) rfl ev_nil)]; simp [fill, over, (hO₁₁.sl 3 rfl : Sl eInt k₇ v₉ part1).cells]) rfl) ?_)))))
     rintro v₁₂ k₁₂ ⟨r₄, f₆, hW⟩
     have hO₁₆ : Own B h k₁₂ [eSl eV v₃ vs₂, eAll eInt vs₂ l, eSl e_bool v₂ met2, eSl eInt v₉ part1, eSl eV v₁₂ [v₉]] := hW
     obtain ⟨c₉, hp⟩ := Zo hp
     refine zq (hO₁₆.appV (bytes := 24) 0 hO₁₆.fr rfl (hO₁₆.sl 4 rfl : Sl eV k₁₂ v₁₂ [v₉]) rfl rfl (by simp only [List.all_cons, List.all_nil, Bool.and_true]; exact (hO₁₆.sl 3 rfl : Sl eInt k₁₂ v₉ part1).oneV) (by rw [(hO₁₆.allLen 1 rfl : (vs₂).length = (l).length)]; exact c₉) (by decide)) ?_
     rintro v₁₃ k₁₃ ⟨f₇, hW⟩
     have hO₁₇ : Own B h k₁₃ [eSl eV v₁₃ (vs₂ ++ [v₉]), eAll eInt vs₂ l, eSl e_bool v₂ met2, eSl eInt v₉ part1, eSl eV v₁₂ [v₉]] := hW
     have hO₁₈ : Own B h k₁₃ [eSl eV v₁₃ (vs₂ ++ [v₉]), eAll eInt (vs₂ ++ [v₉]) (l ++ [part1]), eSl e_bool v₂ met2, eNone, eSl eV v₁₂ [v₉]] := hO₁₇.absorb 1 3 rfl rfl (by decide)
     refine Zb (a_mv (v := v₁₃) rfl) (Zh (zL (Ze (W_rg ?_))))
     obtain ⟨c₁₀, hp⟩ := Zo hp
     refine Zb (a_add (a := x1) (b := 1) q₃_22 rfl c₁₀) (Zb (a_mv (v := .i .i64 (x1 + 1)) rfl) (Zh ?_))
     have hp := Option.some.inj hp; subst hp
     exact (Or.inl (Exists.intro (l ++ [part1], met2, x1 + 1) (And.intro rfl (And.intro rfl (Exists.intro v₁₃ (Exists.intro (vs₂ ++ [v₉]) (And.intro (q₃_0) (And.intro (rfl) (And.intro (q₃_6) (And.intro (q₃_21) (And.intro (rfl) (hO₁₈.pick [0, 1, 2] rfl (by decide)))))))))))))
   ·refine W_cF (t := (decide (x1 < (cells.length : Int)))) rfl b₂ ?_
    refine W_ex (zC ?_)
    have hp := Option.some.inj hp; subst hp
    refine (Or.inr (Exists.intro l (And.intro rfl (And.intro (fun h => nomatch h) (fun he => ?_)))))
    subst he; exact (And.intro rfl (Exists.intro v₃ (Exists.intro vs₂ (And.intro (q₂_5) (hO₈.pick [0, 1] rfl (by decide))))))
  intro e₁ q₁ k₃ hJ₁
  obtain ⟨l1, rfl⟩ : ∃ x, x = o₁ := ⟨_, rfl⟩
  obtain ⟨rfl, v₄, vs₃, q₁_5, hO₅⟩ := hJ₁
  refine zS (Ze (W_sq (W_rg (Zb (a_mv (v := v₄) q₁_5) (Zb (a_mv (v := v₄) rfl) (Zb (a_mv (v := .i .i64 0) rfl) (Zh ?_)))))))
  refine Ze (W_rt (Ret_r (rs_t (n := 2) (v := v₄) rfl (rs_t (n := 3) (v := .i .i64 0) rfl rs_nil)) ?_))
  have hp := Option.some.inj hp; subst hp
  exact (Exists.intro v₄ (Exists.intro vs₃ (And.intro rfl (hO₅.pick [0, 1] rfl (by decide)))))

theorem Za8.ok {h : Hp} {cells : List Zk} {v_cells : V} (s_cells : Sl Zf h v_cells cells) {r : Bool} (hp : Za8 cells = some r) :
  ∃ u k', Is G 32 [v_cells] h u k' ∧ V.b r = u ∧ Own (fun r => r < h.n) h k' [] := by
 refine WC.is (WC_of G_F_join_Whole ?_)
 unfold Za8 at hp
 let B : Nat → Prop := (fun r => r < h.n)
 have hO : Own B h h [] := Own.start0 h
 refine W_sq (W_rg (Zb (a_mv (v := .b false) rfl) (Zh (Ze (W_sq (W_rg (Zb (a_mv (v := v_cells) rfl) ?_)))))))
 obtain ⟨⟨x, x1⟩, hx₁, hp⟩ := Zt hp
 obtain ⟨u₁, k₁, ca₁, v₁, vs₁, rfl, hW₁⟩ := zR.ok (h := h)  (hO.rd0 s_cells.rd : Sl Zf h v_cells cells) hx₁
 refine Zaj (id := 29) (caps := []) rfl (Z7 (v := v_cells) rfl zl) ca₁ ?_
 have hO₁ : Own B h k₁ [eSl eV v₁ vs₁, eAll eInt vs₁ x] := hO.call hW₁ rfl
 refine Zb (a_mv (v := .tu [v₁, .i .i64 x1]) rfl) (Zb (Zax (vs := [v₁, .i .i64 x1]) (v := v₁) rfl rfl) (Zb (Zax (vs := [v₁, .i .i64 x1]) (v := .i .i64 x1) rfl rfl) (Zb (a_mv (v := v₁) rfl) (Zb (a_mv (v := .i .i64 x1) rfl) (Zh (Ze (W_sq ?_)))))))
 refine W_rg (Zb (a_mv (v := .i .i64 x1) rfl) (Zb (a_eqI (a := x1) (b := 0) rfl rfl) (Zb (a_mv (v := .b (decide (x1 = 0))) rfl) ?_)))
 refine zX 4 (fun fr' k' => k₁ = k' ∧ fr' 16 = .b ((decide (x1 = 0)) && (decide ((x.length : Int) = 1)))) ?_ ?_
 ·rcases bc (decide (x1 = 0)) with b₁ | b₁
  ·skip
   refine WO_on rfl b₁ (Zb (a_mv (v := v₁) rfl) (WO_on rfl b₁ (Zb (a_lenN (n := (x).length) (hO₁.sl 0 rfl : Sl eV k₁ v₁ vs₁) (hO₁.allLen 1 rfl : (vs₁).length = (x).length) rfl) (WO_on rfl b₁ (Zb (a_eqI (a := (x.length : Int)) (b := 1) rfl rfl) (Zb (zk (t := (decide (x1 = 0))) (v := .b ((decide (x1 = 0)) && (decide ((x.length : Int) = 1)))) rfl b₁ (Eq.trans (b := V.b (decide ((x.length : Int) = 1))) rfl (ZaD b₁))) (Zh ?_)))))))
   exact ⟨rfl, rfl⟩
  ·skip
   refine WO_off rfl b₁ (WO_off rfl b₁ (WO_off rfl b₁ (Zb (zi (t := (decide (x1 = 0))) (v := .b ((decide (x1 = 0)) && (decide ((x.length : Int) = 1)))) rfl b₁ (Eq.trans (b := V.b false) rfl (Za2 b₁))) (Zh ?_))))
   exact ⟨rfl, rfl⟩
 rintro frg₁ _ ⟨rfl, g₁_16⟩
 refine Zb (a_mv (v := .b ((decide (x1 = 0)) && (decide ((x.length : Int) = 1)))) g₁_16) (Zh (Ze (W_rt (Ret_r (rs_t (n := 2) (v := .b ((decide (x1 = 0)) && (decide ((x.length : Int) = 1)))) rfl rs_nil) ?_))))
 have hp := Option.some.inj hp; subst hp
 exact (And.intro rfl (hO₁.pick [] rfl (by decide)))

theorem Zac.ok {h : Hp} {d : Zp} {cells : List Zk} {v_cells : V} (s_cells : Sl Zf h v_cells cells) {r : Bool} (hp : Zac d cells = some r) :
  ∃ u k', Is G 220 [.ag (Zg.c d), v_cells] h u k' ∧ V.b r = u ∧ Own (fun r => r < h.n) h k' [] := by
 refine WC.is (WC_of G_F_face_Dart_is ?_)
 unfold Zac at hp
 let B : Nat → Prop := (fun r => r < h.n)
 have hO : Own B h h [] := Own.start0 h
 refine W_sq (W_rg (zq (hO.boxd (v := .ag (Zg.c d)) (cs := Zg.c d) hO.fr rfl rfl) ?_))
 rintro _ k₁ ⟨r₁, rfl, n₁, f₁, hW⟩
 have hO₁ : Own B h k₁ [eBox r₁ (Zg.c d)] := hW
 refine Zb (a_mv (v := .b false) rfl) (Zh (Ze (W_sq (W_dr ?_))))
 have hW := hO₁.bump 28
 have fr₁ := Fresh.start k₁ 28
 have nb₁ : ∀ {i : Nat}, h.n ≤ k₁.n + i := Nat.le_trans hO₁.n (Nat.le_add_right _ _)
 have hO₂ : Own B h (k₁.bump 28) [eBox r₁ (Zg.c d)] := hW
 refine zM (a_fa (r := r₁) (o := 0) (o' := 0) rfl rfl) (zM (Zaf (cs := (Zg.c d)) (v := .i .i64 d.Cell) (hO₂.box 0 rfl) rfl rfl) (zM (a_geq (a := d.Cell) (b := 0) rfl rfl) (zM (a_mv (v := .b (decide (0 ≤ d.Cell))) rfl) ?_)))
 rcases Zv hp with ⟨b₁, hp⟩ | ⟨b₁, hp⟩
 ·skip
  refine WD_on rfl b₁ (zM (a_fa (r := r₁) (o := 0) (o' := 0) rfl rfl) (WD_on rfl b₁ (zM (Zaf (cs := (Zg.c d)) (v := .i .i64 d.Cell) (hO₂.box 0 rfl) rfl rfl) (WD_on rfl b₁ (zM (a_mv (v := v_cells) rfl) (WD_on rfl b₁ (zM (a_len (hO₂.rd0 s_cells.rd : Sl Zf (k₁.bump 28) v_cells cells) rfl) ?_)))))))
  refine WD_on rfl b₁ (zM (a_lss (a := d.Cell) (b := (cells.length : Int)) rfl rfl) (zM (zk (t := (decide (0 ≤ d.Cell))) (v := .b (decide (d.Cell < (cells.length : Int)))) rfl b₁ rfl) (zM (a_mv (v := .b (decide (d.Cell < (cells.length : Int)))) rfl) ?_)))
  rcases Zv hp with ⟨b₂, hp⟩ | ⟨b₂, hp⟩
  ·skip
   refine WD_on rfl b₂ (zM (a_fa (r := r₁) (o := 0) (o' := 1) rfl rfl) (WD_on rfl b₂ (zM (Zaf (cs := (Zg.c d)) (v := .i .i64 d.Dir) (hO₂.box 0 rfl) rfl rfl) (WD_on rfl b₂ ?_))))
   obtain ⟨x, hx₁, hp⟩ := Zt hp
   obtain ⟨u₁, k₃, ca₁, rfl, hW₁⟩ := Zad.ok (h := (k₁.bump 28))   hx₁
   refine WD_c (id := 90) (caps := []) rfl (Z7 (v := .i .i64 d.Dir) rfl zl) ca₁ ?_
   have fr₂ := fr₁.call hW₁
   have hO₃ : Own B h k₃ [eBox r₁ (Zg.c d)] := hO₂.call hW₁ rfl
   refine zM (zk (t := (decide (d.Cell < (cells.length : Int)))) (v := .b x) rfl b₂ rfl) (zM (a_mv (v := .b x) rfl) ?_)
   rcases Zv hp with ⟨b₃, hp⟩ | ⟨b₃, hp⟩
   ·skip
    refine WD_on rfl b₃ (zM (a_mv (v := v_cells) rfl) (WD_on rfl b₃ (zM (a_fa (r := r₁) (o := 0) (o' := 0) rfl rfl) (WD_on rfl b₃ (zM (Zaf (cs := (Zg.c d)) (v := .i .i64 d.Cell) (hO₃.box 0 rfl) rfl rfl) (WD_on rfl b₃ (zM (a_fa (r := r₁) (o := 0) (o' := 1) rfl rfl) ?_)))))))
    refine WD_on rfl b₃ (zM (Zaf (cs := (Zg.c d)) (v := .i .i64 d.Dir) (hO₃.box 0 rfl) rfl rfl) (WD_on rfl b₃ ?_))
    obtain ⟨c₁, hp⟩ := Zo hp
    refine zM (a_ixa (E := Zf) (z := d.Cell) (hO₃.rd0 s_cells.rd : Sl Zf k₃ v_cells cells) rfl rfl c₁) (WD_on rfl b₃ (zM (Zan (off' := 0) (off2 := 0) (hO₃.rd0 s_cells.rd : Sl Zf k₃ v_cells cells) (Zq c₁) rfl rfl) (WD_on rfl b₃ ?_)))
    obtain ⟨c₂, hp⟩ := Zo hp
    refine zM (Za4 (off := 0) (off2 := (0 + (d.Dir : Int).toNat * 1)) (z := d.Dir) (hO₃.rd0 s_cells.rd : Sl Zf k₃ v_cells cells) (Zq c₁) rfl rfl c₂ rfl) (WD_on rfl b₃ (zM (zH (w := .i .i64 (((gi cells (d.Cell : Int).toNat).Next).get d.Dir)) (hO₃.rd0 s_cells.rd : Sl Zf k₃ v_cells cells) rfl (Zq c₁) (zP c₂)) (WD_on rfl b₃ (zM (a_geq (a := (((gi cells (d.Cell : Int).toNat).Next).get d.Dir)) (b := 0) rfl rfl) (zM (zk (t := x) (v := .b (decide (0 ≤ (((gi cells (d.Cell : Int).toNat).Next).get d.Dir)))) rfl b₃ rfl) (zM (a_mv (v := .b (decide (0 ≤ (((gi cells (d.Cell : Int).toNat).Next).get d.Dir)))) rfl) (WD_end ?_)))))))
    refine And.intro ?_ ?_
    ·intro q hq
     simp only [List.mem_cons, List.not_mem_nil, or_false] at hq
     rcases hq with rfl
     ·refine ap_ll ?_ ?_
      ·exact (fun h => nomatch h)
      ·exact (fun h => nomatch h)
    refine Ze (W_rt (Ret_r (rs_t (n := 4) (v := .b (decide (0 ≤ (((gi cells (d.Cell : Int).toNat).Next).get d.Dir)))) rfl rs_nil) ?_))
    have hp := Option.some.inj hp; subst hp
    exact (And.intro rfl (hO₃.pick [] rfl (by decide)))
   ·skip
    refine WD_off rfl b₃ (WD_off rfl b₃ (WD_off rfl b₃ (WD_off rfl b₃ (WD_off rfl b₃ (WD_off rfl b₃ (WD_off rfl b₃ (WD_off rfl b₃ ?_)))))))
    refine WD_off rfl b₃ (WD_off rfl b₃ (zM (zi (t := x) (v := .b false) rfl b₃ rfl) (zM (a_mv (v := .b false) rfl) (WD_end ?_))))
    refine And.intro ?_ ?_
    ·intro q hq
     simp only [List.mem_cons, List.not_mem_nil, or_false] at hq
     rcases hq with rfl
     ·exact ap_n1
    refine Ze (W_rt (Ret_r (rs_t (n := 4) (v := .b false) rfl rs_nil) ?_))
    have hp := Option.some.inj hp; subst hp
    exact (And.intro rfl (hO₃.pick [] rfl (by decide)))
  ·skip
   refine WD_off rfl b₂ (WD_off rfl b₂ (WD_off rfl b₂ (zM (zi (t := (decide (d.Cell < (cells.length : Int)))) (v := .b false) rfl b₂ rfl) (zM (a_mv (v := .b false) rfl) (WD_off rfl rfl (WD_off rfl rfl (WD_off rfl rfl ?_)))))))
   refine WD_off rfl rfl (WD_off rfl rfl (WD_off rfl rfl (WD_off rfl rfl (WD_off rfl rfl (WD_off rfl rfl (WD_off rfl rfl (zM (zi (t := false) (v := .b false) rfl rfl rfl) ?_)))))))
   refine zM (a_mv (v := .b false) rfl) (WD_end ?_)
   refine And.intro ?_ ?_
   ·intro q hq
    simp only [List.mem_cons, List.not_mem_nil, or_false] at hq
    rcases hq with rfl
    ·exact ap_n1
   refine Ze (W_rt (Ret_r (rs_t (n := 4) (v := .b false) rfl rs_nil) ?_))
   have hp := Option.some.inj hp; subst hp
   exact (And.intro rfl (hO₂.pick [] rfl (by decide)))
 ·skip
  refine WD_off rfl b₁ (WD_off rfl b₁ (WD_off rfl b₁ (WD_off rfl b₁ (WD_off rfl b₁ (zM (zi (t := (decide (0 ≤ d.Cell))) (v := .b false) rfl b₁ rfl) (zM (a_mv (v := .b false) rfl) (WD_off rfl rfl ?_)))))))
  refine WD_off rfl rfl (WD_off rfl rfl (zM (zi (t := false) (v := .b false) rfl rfl rfl) (zM (a_mv (v := .b false) rfl) (WD_off rfl rfl (WD_off rfl rfl (WD_off rfl rfl (WD_off rfl rfl ?_)))))))
  refine WD_off rfl rfl (WD_off rfl rfl (WD_off rfl rfl (WD_off rfl rfl (WD_off rfl rfl (WD_off rfl rfl (zM (zi (t := false) (v := .b false) rfl rfl rfl) (zM (a_mv (v := .b false) rfl) ?_)))))))
  refine WD_end ?_
  refine And.intro ?_ ?_
  ·intro q hq
   simp only [List.mem_cons, List.not_mem_nil, or_false] at hq
   rcases hq with rfl
   ·exact ap_n1
  refine Ze (W_rt (Ret_r (rs_t (n := 4) (v := .b false) rfl rs_nil) ?_))
  have hp := Option.some.inj hp; subst hp
  exact (And.intro rfl (hO₂.pick [] rfl (by decide)))

theorem z9.ok {h : Hp} {d : Zp} {cells : List Zk} {v_cells : V} (s_cells : Sl Zf h v_cells cells) {r : Zp} (hp : z9 d cells = some r) :
  ∃ u k', Is G 221 [.ag (Zg.c d), v_cells] h u k' ∧ V.ag (Zg.c r) = u ∧ Own (fun r => r < h.n) h k' [] := by
 refine WC.is (WC_of G_F_face_Dart_behind ?_)
 unfold z9 at hp
 let B : Nat → Prop := (fun r => r < h.n)
 have hO : Own B h h [] := Own.start0 h
 refine W_sq (W_rg (zq (hO.boxd (v := .ag (Zg.c d)) (cs := Zg.c d) hO.fr rfl rfl) ?_))
 rintro _ k₁ ⟨r₁, rfl, n₁, f₁, hW⟩
 have hO₁ : Own B h k₁ [eBox r₁ (Zg.c d)] := hW
 refine zq (hO₁.alloc (cs := Zg.c (⟨0, 0⟩ : Zp)) hO₁.fr) ?_
 rintro _ k₂ ⟨r₂, rfl, n₂, f₂, hW⟩
 have hO₂ : Own B h k₂ [eBox r₁ (Zg.c d), eBox r₂ (Zg.c (⟨0, 0⟩ : Zp))] := hW
 refine Zh (Ze (W_sq (W_qd ?_)))
 have hW := hO₂.bump 10
 have hO₃ : Own B h (k₂.bump 10) [eBox r₁ (Zg.c d), eBox r₂ (Zg.c (⟨0, 0⟩ : Zp))] := hW
 refine Z8 rfl (a_mv (v := v_cells) rfl) (Z8 rfl (a_fa (r := r₁) (o := 0) (o' := 0) rfl rfl) (Z8 rfl (Zaf (cs := (Zg.c d)) (v := .i .i64 d.Cell) (hO₃.box 0 rfl) rfl rfl) (Z8 rfl (a_fa (r := r₁) (o := 0) (o' := 1) rfl rfl) (Z8 rfl (Zaf (cs := (Zg.c d)) (v := .i .i64 d.Dir) (hO₃.box 0 rfl) rfl rfl) ?_))))
 obtain ⟨c₁, hp⟩ := Zo hp
 refine Z8 rfl (a_ixa (E := Zf) (z := d.Cell) (hO₃.rd0 s_cells.rd : Sl Zf (k₂.bump 10) v_cells cells) rfl rfl c₁) (Z8 rfl (Zan (off' := 0) (off2 := 0) (hO₃.rd0 s_cells.rd : Sl Zf (k₂.bump 10) v_cells cells) (Zq c₁) rfl rfl) ?_)
 obtain ⟨c₂, hp⟩ := Zo hp
 refine Z8 rfl (Za4 (off := 0) (off2 := (0 + (d.Dir : Int).toNat * 1)) (z := d.Dir) (hO₃.rd0 s_cells.rd : Sl Zf (k₂.bump 10) v_cells cells) (Zq c₁) rfl rfl c₂ rfl) (Z8 rfl (zH (w := .i .i64 (((gi cells (d.Cell : Int).toNat).Next).get d.Dir)) (hO₃.rd0 s_cells.rd : Sl Zf (k₂.bump 10) v_cells cells) rfl (Zq c₁) (zP c₂)) (Z8 rfl (a_mv (v := .i .i64 (((gi cells (d.Cell : Int).toNat).Next).get d.Dir)) rfl) (zQ (Ze (W_sq (W_sq (W_rg ?_)))))))
 refine Zb (Zaw (cs := Za9.c (⟨1, 0, (-1), 2⟩ : A4 Int)) (by rw [(zc (v := .i .i64 1) rfl (zc (v := .i .i64 0) rfl (zc (v := .i .i64 (-1)) rfl (zc (v := .i .i64 2) rfl ev_nil))))]; rfl)) (Zb (a_mv (v := .i .i64 0) rfl) (Zh (Ze (W_bl ?_))))
 obtain ⟨o₁, ho₁, hp⟩ := Zt hp
 refine W.mono (Q := fun e fr k => match (generalizing := false) o₁ with
   | .inl _ => e = (.exit 0) ∧ fr 2 = .p r₁ 0 ∧ fr 4 = .p r₂ 0 ∧ Own B h k [eBox r₁ (Zg.c d), eBox r₂ (Zg.c (⟨0, 0⟩ : Zp))]
   | .inr x1 => e = .ret ∧ fr 4 = .p r₂ 0 ∧ Own B h k [eBox r₂ (Zg.c x1)]) ?_ ?_
 ·clear hp
  refine z3 (fun st fr k => match st with | x => fr 1 = v_cells ∧ fr 2 = .p r₁ 0 ∧ fr 4 = .p r₂ 0 ∧ fr 5 = .i .i64 (((gi cells (d.Cell : Int).toNat).Next).get d.Dir) ∧ fr 18 = .ag (Za9.c (⟨1, 0, (-1), 2⟩ : A4 Int)) ∧ fr 19 = .i .i64 x ∧ Own B h k [eBox r₁ (Zg.c d), eBox r₂ (Zg.c (⟨0, 0⟩ : Zp))]) ho₁ (s := 0) (And.intro (rfl) (And.intro (rfl) (And.intro (rfl) (And.intro (rfl) (And.intro (rfl) (And.intro (rfl) (hO₃.pick [0, 1] rfl (by decide)))))))) ?_
  rintro x q₂ k₅ ⟨q₂_1, q₂_2, q₂_4, q₂_5, q₂_18, q₂_19, hO₅⟩ o₂ hp
  dsimp only [z9.s0] at hp
  refine W_sq (W_rg (Zb (a_lss (a := x) (b := 4) q₂_19 rfl) (Zh (Ze (W_sq ?_)))))
  rcases Zv hp with ⟨b₁, hp⟩ | ⟨b₁, hp⟩
  ·refine W_cT (t := (decide (x < 4))) rfl b₁ ?_
   refine W_sk (Ze (W_sq (W_bl (W_sq (W_rg ?_)))))
   obtain ⟨c₃, hp⟩ := Zo hp
   refine Zb (a_ix (cs := Za9.c (⟨1, 0, (-1), 2⟩ : A4 Int)) (z := x) (v := .i .i64 ((⟨1, 0, (-1), 2⟩ : A4 Int).get x)) q₂_18 q₂_19 c₃ (ZaP c₃)) (Zb (a_mv (v := .i .i64 ((⟨1, 0, (-1), 2⟩ : A4 Int).get x)) rfl) (Zh (Ze (W_sq (W_rg (Zb (a_mv (v := .i .i64 (((gi cells (d.Cell : Int).toNat).Next).get d.Dir)) q₂_5) (Zb (a_fa (r := r₁) (o := 0) (o' := 1) q₂_2 rfl) ?_)))))))
   refine Zb (Zaf (cs := (Zg.c d)) (v := .i .i64 d.Dir) (hO₅.box 0 rfl) rfl rfl) (Zb (a_mv (v := .i .i64 ((⟨1, 0, (-1), 2⟩ : A4 Int).get x)) rfl) ?_)
   obtain ⟨x2, hx₁, hp⟩ := Zt hp
   obtain ⟨u₁, k₆, ca₁, rfl, hW₁⟩ := Zal.ok (h := k₅)   hx₁
   refine Zaj (id := 77) (caps := []) rfl (Z7 (v := .i .i64 d.Dir) rfl (Z7 (v := .i .i64 ((⟨1, 0, (-1), 2⟩ : A4 Int).get x)) rfl zl)) ca₁ ?_
   have hO₆ : Own B h k₆ [eBox r₁ (Zg.c d), eBox r₂ (Zg.c (⟨0, 0⟩ : Zp))] := hO₅.call hW₁ rfl
   refine Zb (Zaw (cs := Zg.c (⟨((gi cells (d.Cell : Int).toNat).Next).get d.Dir, x2⟩ : Zp)) (by rw [(zc (v := .i .i64 (((gi cells (d.Cell : Int).toNat).Next).get d.Dir)) rfl (zc (v := .i .i64 x2) rfl ev_nil))]; rfl)) (zq (hO₆.alloc (cs := Zg.c (⟨0, 0⟩ : Zp)) hO₆.fr) ?_)
   rintro _ k₇ ⟨r₃, rfl, n₃, f₃, hW⟩
   have hO₇ : Own B h k₇ [eBox r₁ (Zg.c d), eBox r₂ (Zg.c (⟨0, 0⟩ : Zp)), eBox r₃ (Zg.c (⟨0, 0⟩ : Zp))] := hW
   refine zq (hO₇.stb (ws := Zg.c (⟨((gi cells (d.Cell : Int).toNat).Next).get d.Dir, x2⟩ : Zp)) (cs' := Zg.c (⟨((gi cells (d.Cell : Int).toNat).Next).get d.Dir, x2⟩ : Zp)) (v := .ag (Zg.c (⟨((gi cells (d.Cell : Int).toNat).Next).get d.Dir, x2⟩ : Zp))) 2 rfl rfl rfl rfl ⟨rfl, Nat.le_of_ble_eq_true rfl, rfl⟩ rfl) ?_
   rintro _ k₈ ⟨rfl, f₄, m₁, hW⟩
   have hO₈ : Own B h k₈ [eBox r₁ (Zg.c d), eBox r₂ (Zg.c (⟨0, 0⟩ : Zp)), eBox r₃ (Zg.c (⟨((gi cells (d.Cell : Int).toNat).Next).get d.Dir, x2⟩ : Zp))] := hW
   refine Zh (Ze (W_sq (W_rg (Zb (a_ldbA (cs := (Zg.c (⟨((gi cells (d.Cell : Int).toNat).Next).get d.Dir, x2⟩ : Zp))) (ws := Zg.c (⟨((gi cells (d.Cell : Int).toNat).Next).get d.Dir, x2⟩ : Zp)) (hO₈.box 2 rfl) rfl rfl) (Zb (a_mv (v := v_cells) q₂_1) ?_)))))
   obtain ⟨x3, hx₂, hp⟩ := Zt hp
   obtain ⟨u₂, k₉, ca₂, rfl, hW₂⟩ := Zac.ok (h := k₈)  (hO₈.rd0 s_cells.rd : Sl Zf k₈ v_cells cells) hx₂
   refine Zaj (id := 220) (caps := []) rfl (Z7 (v := .ag (Zg.c (⟨((gi cells (d.Cell : Int).toNat).Next).get d.Dir, x2⟩ : Zp))) rfl (Z7 (v := v_cells) rfl zl)) ca₂ ?_
   have hO₉ : Own B h k₉ [eBox r₁ (Zg.c d), eBox r₂ (Zg.c (⟨0, 0⟩ : Zp)), eBox r₃ (Zg.c (⟨((gi cells (d.Cell : Int).toNat).Next).get d.Dir, x2⟩ : Zp))] := hO₈.call hW₂ rfl
   refine Zh (Ze ?_)
   rcases Zv hp with ⟨b₂, hp⟩ | ⟨b₂, hp⟩
   ·refine W_cT (t := x3) rfl b₂ ?_
    refine W_sq (W_rg (Zb (a_ldbA (cs := (Zg.c (⟨((gi cells (d.Cell : Int).toNat).Next).get d.Dir, x2⟩ : Zp))) (ws := Zg.c (⟨((gi cells (d.Cell : Int).toNat).Next).get d.Dir, x2⟩ : Zp)) (hO₉.box 2 rfl) rfl rfl) (zq (hO₉.stb (ws := Zg.c (⟨((gi cells (d.Cell : Int).toNat).Next).get d.Dir, x2⟩ : Zp)) (cs' := Zg.c (⟨((gi cells (d.Cell : Int).toNat).Next).get d.Dir, x2⟩ : Zp)) (v := .ag (Zg.c (⟨((gi cells (d.Cell : Int).toNat).Next).get d.Dir, x2⟩ : Zp))) 1 rfl q₂_4 rfl rfl ⟨rfl, Nat.le_of_ble_eq_true rfl, rfl⟩ rfl) ?_)))
    rintro _ k₁₀ ⟨rfl, f₅, m₂, hW⟩
    have hO₁₀ : Own B h k₁₀ [eBox r₁ (Zg.c d), eBox r₂ (Zg.c (⟨((gi cells (d.Cell : Int).toNat).Next).get d.Dir, x2⟩ : Zp)), eBox r₃ (Zg.c (⟨((gi cells (d.Cell : Int).toNat).Next).get d.Dir, x2⟩ : Zp))] := hW
    refine Zh (Ze (W_rt (Zak (zy ?_))))
    have hp := Option.some.inj hp; subst hp
    refine (Or.inr (Exists.intro (.inr (⟨((gi cells (d.Cell : Int).toNat).Next).get d.Dir, x2⟩ : Zp)) (And.intro rfl (And.intro (fun h => nomatch h) (fun he => ?_)))))
    subst he; exact (And.intro rfl (And.intro (q₂_4) (hO₁₀.pick [1] rfl (by decide))))
   ·refine W_cF (t := x3) rfl b₂ ?_
    refine W_sk (zL (Ze (W_rg ?_)))
    obtain ⟨c₄, hp⟩ := Zo hp
    refine Zb (a_add (a := x) (b := 1) q₂_19 rfl c₄) (Zb (a_mv (v := .i .i64 (x + 1)) rfl) (Zh ?_))
    have hp := Option.some.inj hp; subst hp
    exact (Or.inl (Exists.intro (x + 1) (And.intro rfl (And.intro rfl (And.intro (q₂_1) (And.intro (q₂_2) (And.intro (q₂_4) (And.intro (q₂_5) (And.intro (q₂_18) (And.intro (rfl) (hO₉.pick [0, 1] rfl (by decide))))))))))))
  ·refine W_cF (t := (decide (x < 4))) rfl b₁ ?_
   refine W_ex (zC ?_)
   have hp := Option.some.inj hp; subst hp
   refine (Or.inr (Exists.intro (.inl ()) (And.intro rfl (And.intro (fun h => nomatch h) (fun he => ?_)))))
   subst he; exact (And.intro rfl (And.intro (q₂_2) (And.intro (q₂_4) (hO₅.pick [0, 1] rfl (by decide)))))
 intro e₁ q₁ k₄ hJ₁
 rcases o₁ with _ | x1
 ·obtain ⟨rfl, q₁_2, q₁_4, hO₄⟩ := hJ₁
  refine zS (Ze (W_sq (W_rg (Zb (a_ldbA (cs := (Zg.c d)) (ws := Zg.c d) (hO₄.box 0 rfl) q₁_2 rfl) (zq (hO₄.stb (ws := Zg.c d) (cs' := Zg.c d) (v := .ag (Zg.c d)) 1 rfl q₁_4 rfl rfl ⟨rfl, Nat.le_of_ble_eq_true rfl, rfl⟩ rfl) ?_)))))
  rintro _ k₁₁ ⟨rfl, f₆, m₃, hW⟩
  have hO₁₁ : Own B h k₁₁ [eBox r₁ (Zg.c d), eBox r₂ (Zg.c d)] := hW
  refine Zh (Ze (W_rt (Ret_r (rs_c (n := 4) (v := .ag (Zg.c d)) (r := r₂) q₁_4 (hO₁₁.box 1 rfl) rfl rs_nil) ?_)))
  have hp := Option.some.inj hp; subst hp
  exact (And.intro rfl (hO₁₁.pick [] rfl (by decide)))
 ·obtain ⟨rfl, q₁_4, hO₄⟩ := hJ₁
  refine Zak (zy (Ret_r (rs_c (n := 4) (v := .ag (Zg.c x1)) (r := r₂) q₁_4 (hO₄.box 0 rfl) rfl rs_nil) ?_))
  have hp := Option.some.inj hp; subst hp
  exact (And.intro rfl (hO₄.pick [] rfl (by decide)))

theorem z5.ok {h : Hp} {cells : List Zk} {v_cells : V} (s_cells : Sl Zf h v_cells cells) {r : (List (List Zp)) × Int} (hp : z5 cells = some r) :
  ∃ u k', Is G 203 [v_cells] h u k' ∧ ∃ (v₁ : V), ∃ (vs₁ : List V), V.tu [v₁, .i .i64 r.2] = u ∧ Own (fun r => r < h.n) h k' [eSl eV v₁ vs₁, eAll Zg vs₁ r.1] := by
 refine WC.is (WC_of G_F_face_Faces ?_)
 unfold z5 at hp
 let B : Nat → Prop := (fun r => r < h.n)
 have hO : Own B h h [] := Own.start0 h
 refine W_sq (W_rg (Zb (a_mv (v := .sn) rfl) (Zb (a_mv (v := .i .i64 0) rfl) (Zh (Ze (W_sq (W_sq ?_)))))))
 refine W_rg (Zb (a_mv (v := v_cells) rfl) ?_)
 obtain ⟨x, hx₁, hp⟩ := Zt hp
 obtain ⟨u₁, k₁, ca₁, rfl, hW₁⟩ := z4.ok (h := h)  (hO.rd0 s_cells.rd : Sl Zf h v_cells cells) hx₁
 refine Zaj (id := 66) (caps := []) rfl (Z7 (v := v_cells) rfl zl) ca₁ ?_
 have hO₁ : Own B h k₁ [] := hO.call hW₁ rfl
 refine Zb (a_mv (v := .i .i64 x) rfl) (Zh (Ze (W_sq (W_rg (Zb (a_mv (v := .i .i64 x) rfl) (Zb (a_neI (a := x) (b := 0) rfl rfl) (Zh ?_)))))))
 refine Ze ?_
 rcases Zv hp with ⟨b₁, hp⟩ | ⟨b₁, hp⟩
 ·refine W_cT (t := (!(decide (x = 0)))) rfl b₁ ?_
  refine W_sq (W_rg (Zb (a_mv (v := .i .i64 x) rfl) (Zb (a_mv (v := .sn) rfl) (Zb (a_mv (v := .i .i64 x) rfl) (Zh (Ze (W_rt ?_)))))))
  refine zy ?_
  have hO₂ : Own B h k₁ [eSl eV .sn []] := hO₁.nil eV
  have hO₃ : Own B h k₁ [eSl eV .sn [], eAll Zg [] []] := hO₂.allNil Zg 0
  refine Ret_r (rs_t (n := 2) (v := .sn) rfl (rs_t (n := 3) (v := .i .i64 x) rfl rs_nil)) ?_
  have hp := Option.some.inj hp; subst hp
  exact (Exists.intro V.sn (Exists.intro [] (And.intro rfl (hO₃.pick [0, 1] rfl (by decide)))))
 ·refine W_cF (t := (!(decide (x = 0)))) rfl b₁ ?_
  refine W_sk (Ze (W_sq (W_rg (Zb (a_mv (v := .sn) rfl) (Zh (Ze (W_sq ?_)))))))
  refine W_rg (zq (hO₁.mkm Zg hO₁.fr) ?_)
  rintro _ k₂ ⟨r₁, rfl, n₁, f₁, hW⟩
  have hO₄ : Own B h k₂ [eMp Zg r₁ ([] : List (Zp × Bool))] := hW
  refine Zb (a_mv (v := .mp r₁) rfl) (Zh (Ze (W_sq (W_sq (W_rg (Zb (a_mv (v := v_cells) rfl) (Zb (a_len (hO₄.rd0 s_cells.rd : Sl Zf k₂ v_cells cells) rfl) ?_)))))))
  refine Zb (a_mv (v := .i .i64 0) rfl) (Zh (Ze (W_bl ?_)))
  obtain ⟨o₁, ho₁, hp⟩ := Zt hp
  refine W.mono (Q := fun e fr k => match (generalizing := false) o₁ with
    | l1 => e = (.exit 0) ∧ ∃ (v₃ : V), ∃ (vs₃ : List V), fr 5 = v₃ ∧ Own B h k [eSl eV v₃ vs₃, eAll Zg vs₃ l1]) ?_ ?_
  ·clear hp
   have hO₆ : Own B h k₂ [eMp Zg r₁ ([] : List (Zp × Bool)), eSl eV .sn []] := hO₄.nil eV
   have hO₇ : Own B h k₂ [eMp Zg r₁ ([] : List (Zp × Bool)), eSl eV .sn [], eAll Zg [] []] := hO₆.allNil Zg 0
   refine z3 (fun st fr k => match st with | (l, met, x1) => ∃ (v₂ : V), ∃ (vs₂ : List V), fr 0 = v_cells ∧ fr 5 = v₂ ∧ fr 6 = .mp r₁ ∧ fr 19 = .i .i64 (cells.length : Int) ∧ fr 20 = .i .i64 x1 ∧ Own B h k [eSl eV v₂ vs₂, eAll Zg vs₂ l, eMp Zg r₁ met]) ho₁ (s := (([] : List (List Zp)), ([] : List (Zp × Bool)), 0)) (Exists.intro V.sn (Exists.intro [] (And.intro (rfl) (And.intro (rfl) (And.intro (rfl) (And.intro (rfl) (And.intro (rfl) (hO₇.pick [1, 2, 0] rfl (by decide))))))))) ?_
   rintro ⟨l, met, x1⟩ q₂ k₄ ⟨v₂, vs₂, q₂_0, q₂_5, q₂_6, q₂_19, q₂_20, hO₈⟩ o₂ hp
   dsimp only [z5.s0] at hp
   refine W_sq (W_rg (Zb (a_lss (a := x1) (b := (cells.length : Int)) q₂_20 q₂_19) (Zh (Ze (W_sq ?_)))))
   rcases Zv hp with ⟨b₂, hp⟩ | ⟨b₂, hp⟩
   ·refine W_cT (t := (decide (x1 < (cells.length : Int)))) rfl b₂ ?_
    refine W_sk (Ze (W_sq (W_bl (W_sq (W_rg (Zb (a_mv (v := .i .i64 x1) q₂_20) (Zb (a_mv (v := .i .i64 x1) rfl) ?_)))))))
    refine Zh (Ze (W_sq (W_rg (Zb (a_mv (v := .i .i64 0) rfl) (Zh (Ze (W_bl ?_)))))))
    obtain ⟨o₃, ho₂, hp⟩ := Zt hp
    refine W.mono (Q := fun e fr k => match (generalizing := false) o₃ with
      | (l3, met2) => e = (.exit 2) ∧ ∃ (v₅ : V), ∃ (vs₅ : List V), fr 0 = v_cells ∧ fr 5 = v₅ ∧ fr 6 = .mp r₁ ∧ fr 19 = .i .i64 (cells.length : Int) ∧ fr 20 = .i .i64 x1 ∧ Own B h k [eSl eV v₅ vs₅, eAll Zg vs₅ l3, eMp Zg r₁ met2]) ?_ ?_
    ·clear hp
     refine z3 (fun st fr k => match st with | (l2, met1, x2) => ∃ (v₄ : V), ∃ (vs₄ : List V), fr 0 = v_cells ∧ fr 5 = v₄ ∧ fr 6 = .mp r₁ ∧ fr 7 = .i .i64 x1 ∧ fr 19 = .i .i64 (cells.length : Int) ∧ fr 20 = .i .i64 x1 ∧ fr 23 = .i .i64 x2 ∧ Own B h k [eSl eV v₄ vs₄, eAll Zg vs₄ l2, eMp Zg r₁ met1]) ho₂ (s := (l, met, 0)) (Exists.intro v₂ (Exists.intro vs₂ (And.intro (q₂_0) (And.intro (q₂_5) (And.intro (q₂_6) (And.intro (rfl) (And.intro (q₂_19) (And.intro (q₂_20) (And.intro (rfl) (hO₈.pick [0, 1, 2] rfl (by decide))))))))))) ?_
     rintro ⟨l2, met1, x2⟩ q₄ k₆ ⟨v₄, vs₄, q₄_0, q₄_5, q₄_6, q₄_7, q₄_19, q₄_20, q₄_23, hO₁₀⟩ o₄ hp
     dsimp only [z5.s1] at hp
     refine W_sq (W_rg (Zb (a_lss (a := x2) (b := 4) q₄_23 rfl) (Zh (Ze (W_sq ?_)))))
     rcases Zv hp with ⟨b₃, hp⟩ | ⟨b₃, hp⟩
     ·refine W_cT (t := (decide (x2 < 4))) rfl b₃ ?_
      refine W_sk (Ze (W_sq (W_bl (W_sq (W_rg (Zb (a_mv (v := .i .i64 x2) q₄_23) (Zb (a_mv (v := .i .i64 x2) rfl) ?_)))))))
      refine Zh (Ze (W_sq (W_rg (Zb (a_mv (v := .i .i64 x1) q₄_7) (Zb (a_mv (v := .i .i64 x2) rfl) (Zb (Zaw (cs := Zg.c (⟨x1, x2⟩ : Zp)) (by rw [(zc (v := .i .i64 x1) rfl (zc (v := .i .i64 x2) rfl ev_nil))]; rfl)) (zq (hO₁₀.alloc (cs := Zg.c (⟨0, 0⟩ : Zp)) hO₁₀.fr) ?_)))))))
      rintro _ k₇ ⟨r₂, rfl, n₂, f₂, hW⟩
      have hO₁₁ : Own B h k₇ [eSl eV v₄ vs₄, eAll Zg vs₄ l2, eMp Zg r₁ met1, eBox r₂ (Zg.c (⟨0, 0⟩ : Zp))] := hW
      refine zq (hO₁₁.stb (ws := Zg.c (⟨x1, x2⟩ : Zp)) (cs' := Zg.c (⟨x1, x2⟩ : Zp)) (v := .ag (Zg.c (⟨x1, x2⟩ : Zp))) 3 rfl rfl rfl rfl ⟨rfl, Nat.le_of_ble_eq_true rfl, rfl⟩ rfl) ?_
      rintro _ k₈ ⟨rfl, f₃, m₁, hW⟩
      have hO₁₂ : Own B h k₈ [eSl eV v₄ vs₄, eAll Zg vs₄ l2, eMp Zg r₁ met1, eBox r₂ (Zg.c (⟨x1, x2⟩ : Zp))] := hW
      refine Zh (Ze (W_sq (W_sq (W_rg (Zb (a_ldbA (cs := (Zg.c (⟨x1, x2⟩ : Zp))) (ws := Zg.c (⟨x1, x2⟩ : Zp)) (hO₁₂.box 3 rfl) rfl rfl) (Zb (a_mv (v := v_cells) q₄_0) ?_))))))
      obtain ⟨x3, hx₂, hp⟩ := Zt hp
      obtain ⟨u₂, k₉, ca₂, rfl, hW₂⟩ := Zac.ok (h := k₈)  (hO₁₂.rd0 s_cells.rd : Sl Zf k₈ v_cells cells) hx₂
      refine Zaj (id := 220) (caps := []) rfl (Z7 (v := .ag (Zg.c (⟨x1, x2⟩ : Zp))) rfl (Z7 (v := v_cells) rfl zl)) ca₂ ?_
      have hO₁₃ : Own B h k₉ [eSl eV v₄ vs₄, eAll Zg vs₄ l2, eMp Zg r₁ met1, eBox r₂ (Zg.c (⟨x1, x2⟩ : Zp))] := hO₁₂.call hW₂ rfl
      refine Zb (a_not (t := x3) rfl) (Zb (a_mv (v := .b (!x3)) rfl) ?_)
      refine zX 4 (fun fr' k' => k₉ = k' ∧ fr' 37 = .b ((!x3) || (mpGet false (⟨x1, x2⟩ : Zp) met1)) ∧ fr' 0 = v_cells ∧ fr' 19 = .i .i64 (cells.length : Int) ∧ fr' 20 = .i .i64 x1 ∧ fr' 23 = .i .i64 x2 ∧ fr' 5 = v₄ ∧ fr' 6 = .mp r₁ ∧ fr' 7 = .i .i64 x1 ∧ fr' 9 = .p r₂ 0) ?_ ?_
      ·rcases bc (!x3) with b₄ | b₄
       ·skip
        refine WO_off rfl b₄ (WO_off rfl b₄ (WO_off rfl b₄ (Zb (zk (t := (!x3)) (v := .b ((!x3) || (mpGet false (⟨x1, x2⟩ : Zp) met1))) rfl b₄ (Eq.trans (b := V.b true) rfl (ZaA b₄))) (Zh ?_))))
        exact ⟨rfl, rfl, q₄_0, q₄_19, q₄_20, q₄_23, q₄_5, q₄_6, q₄_7, rfl⟩
       ·skip
        refine WO_on rfl b₄ (Zb (a_mv (v := .mp r₁) q₄_6) (WO_on rfl b₄ (Zb (a_ldbA (cs := (Zg.c (⟨x1, x2⟩ : Zp))) (ws := Zg.c (⟨x1, x2⟩ : Zp)) (hO₁₃.box 3 rfl) rfl rfl) (WO_on rfl b₄ (Zb (a_mlk (E := Zg) (m := met1) (q := (⟨x1, x2⟩ : Zp)) (hO₁₃.mpP 2 rfl) rfl rfl (Mu.Zg.same)) (Zb (zi (t := (!x3)) (v := .b ((!x3) || (mpGet false (⟨x1, x2⟩ : Zp) met1))) rfl b₄ (Eq.trans (b := V.b (mpGet false (⟨x1, x2⟩ : Zp) met1)) rfl (ZaH b₄))) (Zh ?_)))))))
        exact ⟨rfl, rfl, q₄_0, q₄_19, q₄_20, q₄_23, q₄_5, q₄_6, q₄_7, rfl⟩
      rintro frg₁ _ ⟨rfl, g₁_37, g₁_0, g₁_19, g₁_20, g₁_23, g₁_5, g₁_6, g₁_7, g₁_9⟩
      refine Zh (Ze ?_)
      rcases Zv hp with ⟨b₅, hp⟩ | ⟨b₅, hp⟩
      ·refine W_cT (t := ((!x3) || (mpGet false (⟨x1, x2⟩ : Zp) met1))) g₁_37 b₅ ?_
       refine W_ex (zC (zS (Ze (W_rg ?_))))
       obtain ⟨c₁, hp⟩ := Zo hp
       refine Zb (a_add (a := x2) (b := 1) g₁_23 rfl c₁) (Zb (a_mv (v := .i .i64 (x2 + 1)) rfl) (Zh ?_))
       have hp := Option.some.inj hp; subst hp
       exact (Or.inl (Exists.intro (l2, met1, x2 + 1) (And.intro rfl (And.intro rfl (Exists.intro v₄ (Exists.intro vs₄ (And.intro (g₁_0) (And.intro (g₁_5) (And.intro (g₁_6) (And.intro (g₁_7) (And.intro (g₁_19) (And.intro (g₁_20) (And.intro (rfl) (hO₁₃.pick [0, 1, 2] rfl (by decide)))))))))))))))
      ·refine W_cF (t := ((!x3) || (mpGet false (⟨x1, x2⟩ : Zp) met1))) g₁_37 b₅ ?_
       refine W_sk (Ze (W_sq (W_rg (Zb (a_mv (v := .sn) rfl) (Zh (Ze (W_sq ?_)))))))
       refine W_sq (W_rg (Zb (a_ldbA (cs := (Zg.c (⟨x1, x2⟩ : Zp))) (ws := Zg.c (⟨x1, x2⟩ : Zp)) (hO₁₃.box 3 rfl) g₁_9 rfl) (zq (hO₁₃.alloc (cs := Zg.c (⟨0, 0⟩ : Zp)) hO₁₃.fr) ?_)))
       rintro _ k₁₀ ⟨r₃, rfl, n₃, f₄, hW⟩
       have hO₁₄ : Own B h k₁₀ [eSl eV v₄ vs₄, eAll Zg vs₄ l2, eMp Zg r₁ met1, eBox r₂ (Zg.c (⟨x1, x2⟩ : Zp)), eBox r₃ (Zg.c (⟨0, 0⟩ : Zp))] := hW
       refine zq (hO₁₄.stb (ws := Zg.c (⟨x1, x2⟩ : Zp)) (cs' := Zg.c (⟨x1, x2⟩ : Zp)) (v := .ag (Zg.c (⟨x1, x2⟩ : Zp))) 4 rfl rfl rfl rfl ⟨rfl, Nat.le_of_ble_eq_true rfl, rfl⟩ rfl) ?_
       rintro _ k₁₁ ⟨rfl, f₅, m₂, hW⟩
       have hO₁₅ : Own B h k₁₁ [eSl eV v₄ vs₄, eAll Zg vs₄ l2, eMp Zg r₁ met1, eBox r₂ (Zg.c (⟨x1, x2⟩ : Zp)), eBox r₃ (Zg.c (⟨x1, x2⟩ : Zp))] := hW
       refine Zh (Ze (W_bl ?_))
       obtain ⟨o₅, ho₃, hp⟩ := Zt hp
       refine W.mono (Q := fun e fr k => match (generalizing := false) o₅ with
         | (met4, f1) => e = (.exit 4) ∧ ∃ (v₇ : V), fr 0 = v_cells ∧ fr 5 = v₄ ∧ fr 6 = .mp r₁ ∧ fr 7 = .i .i64 x1 ∧ fr 10 = v₇ ∧ fr 19 = .i .i64 (cells.length : Int) ∧ fr 20 = .i .i64 x1 ∧ fr 23 = .i .i64 x2 ∧ Own B h k [eSl eV v₄ vs₄, eAll Zg vs₄ l2, eMp Zg r₁ met4, eSl Zg v₇ f1]) ?_ ?_
       ·clear hp
        have hO₁₇ : Own B h k₁₁ [eSl eV v₄ vs₄, eAll Zg vs₄ l2, eMp Zg r₁ met1, eBox r₂ (Zg.c (⟨x1, x2⟩ : Zp)), eBox r₃ (Zg.c (⟨x1, x2⟩ : Zp)), eSl Zg .sn ([] : List Zp)] := hO₁₅.nil Zg
        refine z3 (fun st fr k => match st with | (met3, f, x4) => ∃ (v₆ : V), ∃ (r₄ : Nat), fr 0 = v_cells ∧ fr 5 = v₄ ∧ fr 6 = .mp r₁ ∧ fr 7 = .i .i64 x1 ∧ fr 10 = v₆ ∧ fr 11 = .p r₄ 0 ∧ fr 19 = .i .i64 (cells.length : Int) ∧ fr 20 = .i .i64 x1 ∧ fr 23 = .i .i64 x2 ∧ Own B h k [eSl eV v₄ vs₄, eAll Zg vs₄ l2, eMp Zg r₁ met3, eSl Zg v₆ f, eBox r₄ (Zg.c x4)]) ho₃ (s := (met1, ([] : List Zp), (⟨x1, x2⟩ : Zp))) (Exists.intro V.sn (Exists.intro r₃ (And.intro (g₁_0) (And.intro (g₁_5) (And.intro (g₁_6) (And.intro (g₁_7) (And.intro (rfl) (And.intro (rfl) (And.intro (g₁_19) (And.intro (g₁_20) (And.intro (g₁_23) (hO₁₇.pick [0, 1, 2, 5, 4] rfl (by decide))))))))))))) ?_
        rintro ⟨met3, f, x4⟩ q₆ k₁₃ ⟨v₆, r₄, q₆_0, q₆_5, q₆_6, q₆_7, q₆_10, q₆_11, q₆_19, q₆_20, q₆_23, hO₁₈⟩ o₆ hp
        dsimp only [z5.s2] at hp
        refine W_sq (W_sq (W_rg (Zb (a_mv (v := .mp r₁) q₆_6) (Zb (a_ldbA (cs := (Zg.c x4)) (ws := Zg.c x4) (hO₁₈.box 4 rfl) q₆_11 rfl) (Zb (a_mlk (E := Zg) (m := met3) (q := x4) (hO₁₈.mpP 2 rfl) rfl rfl (Mu.Zg.same)) (Zb (a_not (t := (mpGet false x4 met3)) rfl) (Zh ?_)))))))
        refine Ze ?_
        rcases Zv hp with ⟨b₆, hp⟩ | ⟨b₆, hp⟩
        ·refine W_cT (t := (!(mpGet false x4 met3))) rfl b₆ ?_
         refine W_sk (Ze (W_sq (W_bl (W_sq (W_rg (Zb (a_mv (v := .mp r₁) q₆_6) (Zb (a_ldbA (cs := (Zg.c x4)) (ws := Zg.c x4) (hO₁₈.box 4 rfl) q₆_11 rfl) ?_)))))))
         refine zq (hO₁₈.mup (E := Zg) (m := met3) (q := x4) (v := true) 2 rfl rfl rfl rfl (Mu.Zg.same)) ?_
         rintro _ k₁₄ ⟨rfl, f₆, m₃, hW⟩
         have hO₁₉ : Own B h k₁₄ [eSl eV v₄ vs₄, eAll Zg vs₄ l2, eMp Zg r₁ (mpSet x4 true met3), eSl Zg v₆ f, eBox r₄ (Zg.c x4)] := hW
         refine Zh (Ze (W_rg (Zb (a_mv (v := v₆) q₆_10) (Zb (a_ldbA (cs := (Zg.c x4)) (ws := Zg.c x4) (hO₁₉.box 4 rfl) q₆_11 rfl) (zq (hO₁₉.bsl (E := Zg) (l := [x4]) hO₁₉.fr (by rw [(zc (v := .ag (Zg.c x4)) rfl ev_nil)]; rfl) rfl) ?_)))))
         rintro v₈ k₁₅ ⟨r₅, f₇, hW⟩
         have hO₂₀ : Own B h k₁₅ [eSl eV v₄ vs₄, eAll Zg vs₄ l2, eMp Zg r₁ (mpSet x4 true met3), eSl Zg v₆ f, eBox r₄ (Zg.c x4), eSl Zg v₈ [x4]] := hW
         obtain ⟨c₂, hp⟩ := Zo hp
         refine zq (hO₂₀.app (E := Zg) (bytes := 16) 3 hO₂₀.fr rfl (hO₂₀.sl 5 rfl : Sl Zg k₁₅ v₈ [x4]) rfl rfl (fun _ => rfl) c₂ (by decide)) ?_
         rintro v₉ k₁₆ ⟨f₈, hW⟩
         have hO₂₁ : Own B h k₁₆ [eSl eV v₄ vs₄, eAll Zg vs₄ l2, eMp Zg r₁ (mpSet x4 true met3), eSl Zg v₉ (f ++ [x4]), eBox r₄ (Zg.c x4), eSl Zg v₈ [x4]] := hW
         refine Zb (a_mv (v := v₉) rfl) (Zh (zL (Ze (W_sq (W_sq (W_rg (Zb (a_ldbA (cs := (Zg.c x4)) (ws := Zg.c x4) (hO₂₁.box 4 rfl) q₆_11 rfl) ?_)))))))
         refine Zh (Ze (W_rg (zq (hO₂₁.alloc (cs := Zg.c (⟨0, 0⟩ : Zp)) hO₂₁.fr) ?_)))
         rintro _ k₁₇ ⟨r₆, rfl, n₄, f₉, hW⟩
         have hO₂₂ : Own B h k₁₇ [eSl eV v₄ vs₄, eAll Zg vs₄ l2, eMp Zg r₁ (mpSet x4 true met3), eSl Zg v₉ (f ++ [x4]), eBox r₄ (Zg.c x4), eSl Zg v₈ [x4], eBox r₆ (Zg.c (⟨0, 0⟩ : Zp))] := hW
         refine zq (hO₂₂.stb (ws := Zg.c x4) (cs' := Zg.c x4) (v := .ag (Zg.c x4)) 6 rfl rfl rfl rfl ⟨rfl, Nat.le_of_ble_eq_true rfl, rfl⟩ rfl) ?_
         rintro _ k₁₈ ⟨rfl, f₁₀, m₄, hW⟩
         have hO₂₃ : Own B h k₁₈ [eSl eV v₄ vs₄, eAll Zg vs₄ l2, eMp Zg r₁ (mpSet x4 true met3), eSl Zg v₉ (f ++ [x4]), eBox r₄ (Zg.c x4), eSl Zg v₈ [x4], eBox r₆ (Zg.c x4)] := hW
         refine Zh (Ze (W_rg (Zb (a_ldbA (cs := (Zg.c x4)) (ws := Zg.c x4) (hO₂₃.box 6 rfl) rfl rfl) (Zb (a_mv (v := v_cells) q₆_0) ?_))))
         obtain ⟨x5, hx₃, hp⟩ := Zt hp
         obtain ⟨u₃, k₁₉, ca₃, rfl, hW₃⟩ := z9.ok (h := k₁₈)  (hO₂₃.rd0 s_cells.rd : Sl Zf k₁₈ v_cells cells) hx₃
         refine Zaj (id := 221) (caps := []) rfl (Z7 (v := .ag (Zg.c x4)) rfl (Z7 (v := v_cells) rfl zl)) ca₃ ?_
         have hO₂₄ : Own B h k₁₉ [eSl eV v₄ vs₄, eAll Zg vs₄ l2, eMp Zg r₁ (mpSet x4 true met3), eSl Zg v₉ (f ++ [x4]), eBox r₄ (Zg.c x4), eSl Zg v₈ [x4], eBox r₆ (Zg.c x4)] := hO₂₃.call hW₃ rfl
         refine zq (hO₂₄.stb (ws := Zg.c x5) (cs' := Zg.c x5) (v := .ag (Zg.c x5)) 6 rfl rfl rfl rfl ⟨rfl, Nat.le_of_ble_eq_true rfl, rfl⟩ rfl) ?_
         rintro _ k₂₀ ⟨rfl, f₁₁, m₅, hW⟩
         have hO₂₅ : Own B h k₂₀ [eSl eV v₄ vs₄, eAll Zg vs₄ l2, eMp Zg r₁ (mpSet x4 true met3), eSl Zg v₉ (f ++ [x4]), eBox r₄ (Zg.c x4), eSl Zg v₈ [x4], eBox r₆ (Zg.c x5)] := hW
         refine Zh ?_
         have hp := Option.some.inj hp; subst hp
         exact (Or.inl (Exists.intro (mpSet x4 true met3, f ++ [x4], x5) (And.intro rfl (And.intro rfl (Exists.intro v₉ (Exists.intro r₆ (And.intro (q₆_0) (And.intro (q₆_5) (And.intro (q₆_6) (And.intro (q₆_7) (And.intro (rfl) (And.intro (rfl) (And.intro (q₆_19) (And.intro (q₆_20) (And.intro (q₆_23) (hO₂₅.pick [0, 1, 2, 3, 6] rfl (by decide)))))))))))))))))
        ·refine W_cF (t := (!(mpGet false x4 met3))) rfl b₆ ?_
         refine W_ex (zC ?_)
         have hp := Option.some.inj hp; subst hp
         refine (Or.inr (Exists.intro (met3, f) (And.intro rfl (And.intro (fun h => nomatch h) (fun he => ?_)))))
         subst he; exact (And.intro rfl (Exists.intro v₆ (And.intro (q₆_0) (And.intro (q₆_5) (And.intro (q₆_6) (And.intro (q₆_7) (And.intro (q₆_10) (And.intro (q₆_19) (And.intro (q₆_20) (And.intro (q₆_23) (hO₁₈.pick [0, 1, 2, 3] rfl (by decide))))))))))))
       intro e₃ q₅ k₁₂ hJ₃
       obtain ⟨met4, f1⟩ := o₅
       obtain ⟨rfl, v₇, q₅_0, q₅_5, q₅_6, q₅_7, q₅_10, q₅_19, q₅_20, q₅_23, hO₁₆⟩ := hJ₃
       refine zS (Ze (W_rg (Zb (a_mv (v := v₄) q₅_5) (Zb (a_mv (v := v₇) q₅_10) (zq (hO₁₆.bsl (E := eV) (l := [v₇]) hO₁₆.fr (by rw [(zc (v := v₇) rfl ev_nil)]; simp [fill, over, (hO₁₆.sl 3 rfl : Sl Zg k₁₂ v₇ f1).cells]) rfl) ?_)))))
       rintro v₁₀ k₂₁ ⟨r₇, f₁₂, hW⟩
       have hO₂₆ : Own B h k₂₁ [eSl eV v₄ vs₄, eAll Zg vs₄ l2, eMp Zg r₁ met4, eSl Zg v₇ f1, eSl eV v₁₀ [v₇]] := hW
       obtain ⟨c₃, hp⟩ := Zo hp
       refine zq (hO₂₆.appV (bytes := 24) 0 hO₂₆.fr rfl (hO₂₆.sl 4 rfl : Sl eV k₂₁ v₁₀ [v₇]) rfl rfl (by simp only [List.all_cons, List.all_nil, Bool.and_true]; exact (hO₂₆.sl 3 rfl : Sl Zg k₂₁ v₇ f1).oneV) (by rw [(hO₂₆.allLen 1 rfl : (vs₄).length = (l2).length)]; exact c₃) (by decide)) ?_
       rintro v₁₁ k₂₂ ⟨f₁₃, hW⟩
       have hO₂₇ : Own B h k₂₂ [eSl eV v₁₁ (vs₄ ++ [v₇]), eAll Zg vs₄ l2, eMp Zg r₁ met4, eSl Zg v₇ f1, eSl eV v₁₀ [v₇]] := hW
       have hO₂₈ : Own B h k₂₂ [eSl eV v₁₁ (vs₄ ++ [v₇]), eAll Zg (vs₄ ++ [v₇]) (l2 ++ [f1]), eMp Zg r₁ met4, eNone, eSl eV v₁₀ [v₇]] := hO₂₇.absorb 1 3 rfl rfl (by decide)
       refine Zb (a_mv (v := v₁₁) rfl) (Zh (zL (Ze (W_rg ?_))))
       obtain ⟨c₄, hp⟩ := Zo hp
       refine Zb (a_add (a := x2) (b := 1) q₅_23 rfl c₄) (Zb (a_mv (v := .i .i64 (x2 + 1)) rfl) (Zh ?_))
       have hp := Option.some.inj hp; subst hp
       exact (Or.inl (Exists.intro (l2 ++ [f1], met4, x2 + 1) (And.intro rfl (And.intro rfl (Exists.intro v₁₁ (Exists.intro (vs₄ ++ [v₇]) (And.intro (q₅_0) (And.intro (rfl) (And.intro (q₅_6) (And.intro (q₅_7) (And.intro (q₅_19) (And.intro (q₅_20) (And.intro (rfl) (hO₂₈.pick [0, 1, 2] rfl (by decide)))))))))))))))
     ·refine W_cF (t := (decide (x2 < 4))) rfl b₃ ?_
      refine W_ex (zC ?_)
      have hp := Option.some.inj hp; subst hp
      refine (Or.inr (Exists.intro (l2, met1) (And.intro rfl (And.intro (fun h => nomatch h) (fun he => ?_)))))
      subst he; exact (And.intro rfl (Exists.intro v₄ (Exists.intro vs₄ (And.intro (q₄_0) (And.intro (q₄_5) (And.intro (q₄_6) (And.intro (q₄_19) (And.intro (q₄_20) (hO₁₀.pick [0, 1, 2] rfl (by decide))))))))))
    intro e₂ q₃ k₅ hJ₂
    obtain ⟨l3, met2⟩ := o₃
    obtain ⟨rfl, v₅, vs₅, q₃_0, q₃_5, q₃_6, q₃_19, q₃_20, hO₉⟩ := hJ₂
    refine zS (zL (Ze (W_rg ?_)))
    obtain ⟨c₅, hp⟩ := Zo hp
    refine Zb (a_add (a := x1) (b := 1) q₃_20 rfl c₅) (Zb (a_mv (v := .i .i64 (x1 + 1)) rfl) (Zh ?_))
    have hp := Option.some.inj hp; subst hp
    exact (Or.inl (Exists.intro (l3, met2, x1 + 1) (And.intro rfl (And.intro rfl (Exists.intro v₅ (Exists.intro vs₅ (And.intro (q₃_0) (And.intro (q₃_5) (And.intro (q₃_6) (And.intro (q₃_19) (And.intro (rfl) (hO₉.pick [0, 1, 2] rfl (by decide)))))))))))))
   ·refine W_cF (t := (decide (x1 < (cells.length : Int)))) rfl b₂ ?_
    refine W_ex (zC ?_)
    have hp := Option.some.inj hp; subst hp
    refine (Or.inr (Exists.intro l (And.intro rfl (And.intro (fun h => nomatch h) (fun he => ?_)))))
    subst he; exact (And.intro rfl (Exists.intro v₂ (Exists.intro vs₂ (And.intro (q₂_5) (hO₈.pick [0, 1] rfl (by decide))))))
  intro e₁ q₁ k₃ hJ₁
  obtain ⟨l1, rfl⟩ : ∃ x, x = o₁ := ⟨_, rfl⟩
  obtain ⟨rfl, v₃, vs₃, q₁_5, hO₅⟩ := hJ₁
  refine zS (Ze (W_sq (W_rg (Zb (a_mv (v := v₃) q₁_5) (Zb (a_mv (v := v₃) rfl) (Zb (a_mv (v := .i .i64 0) rfl) (Zh ?_)))))))
  refine Ze (W_rt (Ret_r (rs_t (n := 2) (v := v₃) rfl (rs_t (n := 3) (v := .i .i64 0) rfl rs_nil)) ?_))
  have hp := Option.some.inj hp; subst hp
  exact (Exists.intro v₃ (Exists.intro vs₃ (And.intro rfl (hO₅.pick [0, 1] rfl (by decide)))))

theorem Za0.ok {h : Hp} {d : Int} {e_ : Int}   {r : Int} (hp : Za0 d e_ = some r) :
  ∃ u k', Is G 222 [.i .i64 d, .i .i64 e_] h u k' ∧ V.i .i64 r = u ∧ Own (fun r => r < h.n) h k' [] := by
 refine WC.is (WC_of G_F_compass_Turn ?_)
 unfold Za0 at hp
 let B : Nat → Prop := (fun r => r < h.n)
 have hO : Own B h h [] := Own.start0 h
 refine W_sq (W_rg (Zb (a_mv (v := .i .i64 0) rfl) (Zh (Ze (W_sq (W_sq (W_rg ?_)))))))
 refine Zb (a_mv (v := .i .i64 d) rfl) ?_
 obtain ⟨x, hx₁, hp⟩ := Zt hp
 obtain ⟨u₁, k₁, ca₁, rfl, hW₁⟩ := Zad.ok (h := h)   hx₁
 refine Zaj (id := 90) (caps := []) rfl (Z7 (v := .i .i64 d) rfl zl) ca₁ ?_
 have hO₁ : Own B h k₁ [] := hO.call hW₁ rfl
 refine Zb (a_not (t := x) rfl) (Zb (a_mv (v := .b (!x)) rfl) ?_)
 obtain ⟨t, hv₁, hp⟩ := Zt hp
 refine zX 4 (fun fr' k' => Own B h k' [] ∧ fr' 12 = .b t ∧ fr' 0 = .i .i64 d ∧ fr' 1 = .i .i64 e_) ?_ ?_
 ·clear hp; rcases Zv hv₁ with ⟨b₁, hp⟩ | ⟨b₁, hp⟩
  ·skip
   refine WO_off rfl b₁ (WO_off rfl b₁ (WO_off rfl b₁ (Zb (zk (t := (!x)) (v := .b t) rfl b₁ (Eq.trans (b := V.b true) rfl (congrArg V.b (Option.some.inj hp)))) (Zh ?_))))
   exact ⟨hO₁.pick [] rfl (by decide), rfl, rfl, rfl⟩
  ·skip
   refine WO_on rfl b₁ (Zb (a_mv (v := .i .i64 e_) rfl) (WO_on rfl b₁ ?_))
   obtain ⟨x1, hx₂, hp⟩ := Zt hp
   obtain ⟨u₂, k₂, ca₂, rfl, hW₂⟩ := Zad.ok (h := k₁)   hx₂
   refine Zaj (id := 90) (caps := []) rfl (Z7 (v := .i .i64 e_) rfl zl) ca₂ ?_
   have hO₂ : Own B h k₂ [] := hO₁.call hW₂ rfl
   refine WO_on rfl b₁ (Zb (a_not (t := x1) rfl) (Zb (zi (t := (!x)) (v := .b t) rfl b₁ (Eq.trans (b := V.b (!x1)) rfl (congrArg V.b (Option.some.inj hp)))) (Zh ?_)))
   exact ⟨hO₂.pick [] rfl (by decide), rfl, rfl, rfl⟩
 rintro frg₁ k₃ ⟨hO₃, g₁_12, g₁_0, g₁_1⟩
 refine Zh (Ze ?_)
 rcases Zv hp with ⟨b₂, hp⟩ | ⟨b₂, hp⟩
 ·refine W_cT (t := t) g₁_12 b₂ ?_
  refine W_sq (W_rg (Zb (a_mv (v := .i .i64 0) rfl) (Zh (Ze (W_rt (zy (Ret_r (rs_t (n := 4) (v := .i .i64 0) rfl rs_nil) ?_)))))))
  have hp := Option.some.inj hp; subst hp
  exact (And.intro rfl (hO₃.pick [] rfl (by decide)))
 ·refine W_cF (t := t) g₁_12 b₂ ?_
  refine W_sk (Ze (W_sq (W_rg (Zb (Zaw (cs := Za9.c (⟨0, 1, (-2), (-1)⟩ : A4 Int)) (by rw [(zc (v := .i .i64 0) rfl (zc (v := .i .i64 1) rfl (zc (v := .i .i64 (-2)) rfl (zc (v := .i .i64 (-1)) rfl ev_nil))))]; rfl)) (Zb (a_mv (v := .i .i64 e_) g₁_1) (Zb (a_mv (v := .i .i64 d) g₁_0) ?_))))))
  obtain ⟨c₁, hp⟩ := Zo hp
  refine Zb (a_sub (a := e_) (b := d) rfl rfl c₁) ?_
  obtain ⟨c₂, hp⟩ := Zo hp
  refine Zb (a_add (a := (e_ - d)) (b := 4) rfl rfl c₂) (Zb (a_rem (a := ((e_ - d) + 4)) (b := 4) rfl rfl (by decide)) ?_)
  obtain ⟨c₃, hp⟩ := Zo hp
  refine Zb (a_ix (cs := Za9.c (⟨0, 1, (-2), (-1)⟩ : A4 Int)) (z := (((e_ - d) + 4).tmod 4)) (v := .i .i64 ((⟨0, 1, (-2), (-1)⟩ : A4 Int).get (((e_ - d) + 4).tmod 4))) rfl rfl c₃ (ZaP c₃)) (Zb (a_mv (v := .i .i64 ((⟨0, 1, (-2), (-1)⟩ : A4 Int).get (((e_ - d) + 4).tmod 4))) rfl) (Zh (Ze (W_rt (Ret_r (rs_t (n := 4) (v := .i .i64 ((⟨0, 1, (-2), (-1)⟩ : A4 Int).get (((e_ - d) + 4).tmod 4))) rfl rs_nil) ?_)))))
  have hp := Option.some.inj hp; subst hp
  exact (And.intro rfl (hO₃.pick [] rfl (by decide)))

theorem Zab.ok {h : Hp} {cells : List Zk} {f : List Zp} {v_cells : V} {v_f : V} (s_cells : Sl Zf h v_cells cells) (s_f : Sl Zg h v_f f) {r : (List Int)} (hp : Zab cells f = some r) :
  ∃ u k', Is G 204 [v_cells, v_f] h u k' ∧ ∃ (v₁ : V), v₁ = u ∧ Own (fun r => r < h.n) h k' [eSl eInt v₁ r] := by
 refine WC.is (WC_of G_F_face_Turns ?_)
 unfold Zab at hp
 let B : Nat → Prop := (fun r => r < h.n)
 have hO : Own B h h [] := Own.start0 h
 refine W_sq (W_rg (Zb (a_mv (v := .sn) rfl) (Zh (Ze (W_sq (W_rg (Zb (a_mv (v := v_f) rfl) ?_)))))))
 refine Zb (a_len (hO.rd0 s_f.rd : Sl Zg h v_f f) rfl) ?_
 obtain ⟨c₁, hp⟩ := Zo hp
 refine zq (hO.mks (E := eInt) (y := (0 : Int)) (bytes := 8) (z := (f.length : Int)) hO.fr rfl rfl rfl c₁ (by decide)) ?_
 rintro v₂ k₁ ⟨r₁, f₁, hW⟩
 have hO₁ : Own B h k₁ [eSl eInt v₂ (List.replicate ((f.length : Int) : Int).toNat (0 : Int))] := hW
 refine Zb (a_mv (v := v₂) rfl) (Zh (Ze (W_sq (W_sq (W_rg (Zb (a_mv (v := v_cells) rfl) ?_))))))
 obtain ⟨x, hx₁, hp⟩ := Zt hp
 obtain ⟨u₁, k₂, ca₁, rfl, hW₁⟩ := z4.ok (h := k₁)  (hO₁.rd0 s_cells.rd : Sl Zf k₁ v_cells cells) hx₁
 refine Zaj (id := 66) (caps := []) rfl (Z7 (v := v_cells) rfl zl) ca₁ ?_
 have hO₂ : Own B h k₂ [eSl eInt v₂ (List.replicate ((f.length : Int) : Int).toNat (0 : Int))] := hO₁.call hW₁ rfl
 refine Zb (a_neI (a := x) (b := 0) rfl rfl) (Zh (Ze ?_))
 rcases Zv hp with ⟨b₁, hp⟩ | ⟨b₁, hp⟩
 ·refine W_cT (t := (!(decide (x = 0)))) rfl b₁ ?_
  refine W_sq (W_rg (Zb (a_mv (v := v₂) rfl) (Zb (a_mv (v := v₂) rfl) (Zh (Ze (W_rt (zy ?_)))))))
  refine Ret_r (rs_t (n := 4) (v := v₂) rfl rs_nil) ?_
  have hp := Option.some.inj hp; subst hp
  exact (Exists.intro v₂ (And.intro rfl (hO₂.pick [0] rfl (by decide))))
 ·refine W_cF (t := (!(decide (x = 0)))) rfl b₁ ?_
  refine W_sk (Ze (W_sq (W_sq (W_rg (Zb (a_mv (v := v_f) rfl) (Zb (a_len (hO₂.rd0 s_f.rd : Sl Zg k₂ v_f f) rfl) (Zb (a_mv (v := .i .i64 0) rfl) ?_)))))))
  refine Zh (Ze (W_bl ?_))
  obtain ⟨o₁, ho₁, hp⟩ := Zt hp
  refine W.mono (Q := fun e fr k => match (generalizing := false) o₁ with
    | l1 => e = (.exit 0) ∧ fr 5 = v₂ ∧ Own B h k [eSl eInt v₂ l1]) ?_ ?_
  ·clear hp
   refine z3 (fun st fr k => match st with | (l, x1) => fr 0 = v_cells ∧ fr 5 = v₂ ∧ fr 15 = v_f ∧ fr 16 = .i .i64 (f.length : Int) ∧ fr 17 = .i .i64 x1 ∧ Own B h k [eSl eInt v₂ l]) ho₁ (s := (List.replicate ((f.length : Int) : Int).toNat (0 : Int), 0)) (And.intro (rfl) (And.intro (rfl) (And.intro (rfl) (And.intro (rfl) (And.intro (rfl) (hO₂.pick [0] rfl (by decide))))))) ?_
   rintro ⟨l, x1⟩ q₂ k₄ ⟨q₂_0, q₂_5, q₂_15, q₂_16, q₂_17, hO₄⟩ o₂ hp
   dsimp only [Zab.s0] at hp
   refine W_sq (W_rg (Zb (a_lss (a := x1) (b := (f.length : Int)) q₂_17 q₂_16) (Zh (Ze (W_sq ?_)))))
   rcases Zv hp with ⟨b₂, hp⟩ | ⟨b₂, hp⟩
   ·refine W_cT (t := (decide (x1 < (f.length : Int)))) rfl b₂ ?_
    refine W_sk (Ze (W_sq (W_bl (W_sq (W_rg (Zb (a_mv (v := .i .i64 x1) q₂_17) ?_))))))
    obtain ⟨c₂, hp⟩ := Zo hp
    refine Zb (a_ixa (E := Zg) (z := x1) (hO₄.rd0 s_f.rd : Sl Zg k₄ v_f f) q₂_15 q₂_17 c₂) (Zb (ZaL (E := Zg) (hO₄.rd0 s_f.rd : Sl Zg k₄ v_f f) rfl (Zq c₂)) (zq (hO₄.alloc (cs := Zg.c (⟨0, 0⟩ : Zp)) hO₄.fr) ?_))
    rintro _ k₅ ⟨r₂, rfl, n₁, f₂, hW⟩
    have hO₅ : Own B h k₅ [eSl eInt v₂ l, eBox r₂ (Zg.c (⟨0, 0⟩ : Zp))] := hW
    refine Zb (a_mv (v := .i .i64 x1) rfl) (zq (hO₅.stb (ws := Zg.c (gi f (x1 : Int).toNat)) (cs' := Zg.c (gi f (x1 : Int).toNat)) (v := .ag (Zg.c (gi f (x1 : Int).toNat))) 1 rfl rfl rfl rfl ⟨rfl, Nat.le_of_ble_eq_true rfl, rfl⟩ rfl) ?_)
    rintro _ k₆ ⟨rfl, f₃, m₁, hW⟩
    have hO₆ : Own B h k₆ [eSl eInt v₂ l, eBox r₂ (Zg.c (gi f (x1 : Int).toNat))] := hW
    refine Zh (Ze (W_sq (W_rg (Zb (a_ldbA (cs := (Zg.c (gi f (x1 : Int).toNat))) (ws := Zg.c (gi f (x1 : Int).toNat)) (hO₆.box 1 rfl) rfl rfl) (Zb (a_mv (v := v_cells) q₂_0) ?_)))))
    obtain ⟨x2, hx₂, hp⟩ := Zt hp
    obtain ⟨u₂, k₇, ca₂, rfl, hW₂⟩ := Zac.ok (h := k₆)  (hO₆.rd0 s_cells.rd : Sl Zf k₆ v_cells cells) hx₂
    refine Zaj (id := 220) (caps := []) rfl (Z7 (v := .ag (Zg.c (gi f (x1 : Int).toNat))) rfl (Z7 (v := v_cells) rfl zl)) ca₂ ?_
    have hO₇ : Own B h k₇ [eSl eInt v₂ l, eBox r₂ (Zg.c (gi f (x1 : Int).toNat))] := hO₆.call hW₂ rfl
    refine Zh (Ze ?_)
    rcases Zv hp with ⟨b₃, hp⟩ | ⟨b₃, hp⟩
    ·refine W_cT (t := x2) rfl b₃ ?_
     refine W_dr ?_
     have hW := hO₇.bump 11
     have fr₁ := Fresh.start k₇ 11
     have nb₁ : ∀ {i : Nat}, h.n ≤ k₇.n + i := Nat.le_trans hO₇.n (Nat.le_add_right _ _)
     have hO₈ : Own B h (k₇.bump 11) [eSl eInt v₂ l, eBox r₂ (Zg.c (gi f (x1 : Int).toNat))] := hW
     refine zM (a_mv (v := v₂) q₂_5) (zM (a_mv (v := .i .i64 x1) rfl) (zM (a_fa (r := r₂) (o := 0) (o' := 1) rfl rfl) (zM (Zaf (cs := (Zg.c (gi f (x1 : Int).toNat))) (v := .i .i64 ((gi f (x1 : Int).toNat).Dir)) (hO₈.box 1 rfl) rfl rfl) (zM (a_ldbA (cs := (Zg.c (gi f (x1 : Int).toNat))) (ws := Zg.c (gi f (x1 : Int).toNat)) (hO₈.box 1 rfl) rfl rfl) (zM (a_mv (v := v_cells) q₂_0) ?_)))))
     obtain ⟨x3, hx₃, hp⟩ := Zt hp
     obtain ⟨u₃, k₉, ca₃, rfl, hW₃⟩ := z9.ok (h := (k₇.bump 11))  (hO₈.rd0 s_cells.rd : Sl Zf (k₇.bump 11) v_cells cells) hx₃
     refine WD_c (id := 221) (caps := []) rfl (Z7 (v := .ag (Zg.c (gi f (x1 : Int).toNat))) rfl (Z7 (v := v_cells) rfl zl)) ca₃ ?_
     have fr₂ := fr₁.call hW₃
     have hO₉ : Own B h k₉ [eSl eInt v₂ l, eBox r₂ (Zg.c (gi f (x1 : Int).toNat))] := hO₈.call hW₃ rfl
     refine zM (a_fld (cs := Zg.c x3) (v := .i .i64 x3.Dir) rfl rfl) ?_
     obtain ⟨x4, hx₄, hp⟩ := Zt hp
     obtain ⟨u₄, k₁₀, ca₄, rfl, hW₄⟩ := Za0.ok (h := k₉)   hx₄
     refine WD_c (id := 222) (caps := []) rfl (Z7 (v := .i .i64 ((gi f (x1 : Int).toNat).Dir)) rfl (Z7 (v := .i .i64 x3.Dir) rfl zl)) ca₄ ?_
     have fr₃ := fr₂.call hW₄
     have hO₁₀ : Own B h k₁₀ [eSl eInt v₂ l, eBox r₂ (Zg.c (gi f (x1 : Int).toNat))] := hO₉.call hW₄ rfl
     obtain ⟨c₃, hp⟩ := Zo hp
     refine zM (a_ixa (E := eInt) (z := x1) (hO₁₀.sl 0 rfl : Sl eInt k₁₀ v₂ l) rfl rfl c₃) (ZaR (hO₁₀.ste (E := eInt) (y := x4) (ws := [.i .i64 x4]) 0 rfl rfl (Zq c₃) rfl rfl ⟨rfl, Nat.le_of_ble_eq_true rfl, rfl⟩ rfl) ?_)
     rintro _ k₁₁ z₁ ⟨rfl, f₄, m₂, hW⟩
     have fr₄ := fr₃.kept f₄ (by decide)
     have hO₁₁ : Own B h k₁₁ [eSl eInt v₂ (l.set (x1 : Int).toNat x4), eBox r₂ (Zg.c (gi f (x1 : Int).toNat))] := hW
     refine WD_end ?_
     refine And.intro ?_ ?_
     ·intro q hq
      simp only [List.mem_cons, List.not_mem_nil, or_false] at hq
      rcases hq with rfl | rfl
      ·refine ap_ll ?_ ?_
       ·exact (fun h => nomatch h)
       ·exact (fun h => nomatch h)
      ·refine ap_ol rfl rfl ?_
       ·exact (fun r hm hc => hc (hW₃.base r (Nat.lt_of_lt_of_le (hO₇.ltAt 1 rfl _ (tch (v := V.p r₂ 1) (ZaM hm) rfl)) (Nat.le_trans (Nat.le_add_right _ _) fr₁.n))))
     refine zL (Ze (W_rg ?_))
     obtain ⟨c₄, hp⟩ := Zo hp
     refine Zb (a_add (a := x1) (b := 1) q₂_17 rfl c₄) (Zb (a_mv (v := .i .i64 (x1 + 1)) rfl) (Zh ?_))
     have hp := Option.some.inj hp; subst hp
     exact (Or.inl (Exists.intro (l.set (x1 : Int).toNat x4, x1 + 1) (And.intro rfl (And.intro rfl (And.intro (q₂_0) (And.intro (q₂_5) (And.intro (q₂_15) (And.intro (q₂_16) (And.intro (rfl) (hO₁₁.pick [0] rfl (by decide)))))))))))
    ·refine W_cF (t := x2) rfl b₃ ?_
     refine W_sk (zL (Ze (W_rg ?_)))
     obtain ⟨c₅, hp⟩ := Zo hp
     refine Zb (a_add (a := x1) (b := 1) q₂_17 rfl c₅) (Zb (a_mv (v := .i .i64 (x1 + 1)) rfl) (Zh ?_))
     have hp := Option.some.inj hp; subst hp
     exact (Or.inl (Exists.intro (l, x1 + 1) (And.intro rfl (And.intro rfl (And.intro (q₂_0) (And.intro (q₂_5) (And.intro (q₂_15) (And.intro (q₂_16) (And.intro (rfl) (hO₇.pick [0] rfl (by decide)))))))))))
   ·refine W_cF (t := (decide (x1 < (f.length : Int)))) rfl b₂ ?_
    refine W_ex (zC ?_)
    have hp := Option.some.inj hp; subst hp
    refine (Or.inr (Exists.intro l (And.intro rfl (And.intro (fun h => nomatch h) (fun he => ?_)))))
    subst he; exact (And.intro rfl (And.intro (q₂_5) (hO₄.pick [0] rfl (by decide))))
  intro e₁ q₁ k₃ hJ₁
  obtain ⟨l1, rfl⟩ : ∃ x, x = o₁ := ⟨_, rfl⟩
  obtain ⟨rfl, q₁_5, hO₃⟩ := hJ₁
  refine zS (Ze (W_sq (W_rg (Zb (a_mv (v := v₂) q₁_5) (Zb (a_mv (v := v₂) rfl) (Zh (Ze ?_)))))))
  refine W_rt (Ret_r (rs_t (n := 4) (v := v₂) rfl rs_nil) ?_)
  have hp := Option.some.inj hp; subst hp
  exact (Exists.intro v₂ (And.intro rfl (hO₃.pick [0] rfl (by decide))))

theorem zU.ok {h : Hp} {turns : List Int} {v_turns : V} (s_turns : Sl eInt h v_turns turns) {r : Int} (hp : zU turns = some r) :
  ∃ u k', Is G 219 [v_turns] h u k' ∧ V.i .i64 r = u ∧ Own (fun r => r < h.n) h k' [] := by
 refine WC.is (WC_of G_F_face_Rotation ?_)
 unfold zU at hp
 let B : Nat → Prop := (fun r => r < h.n)
 have hO : Own B h h [] := Own.start0 h
 refine W_sq (W_rg (Zb (a_mv (v := .i .i64 0) rfl) (Zh (Ze (W_sq (W_rg (Zb (a_mv (v := .i .i64 0) rfl) ?_)))))))
 refine Zh (Ze (W_sq (W_sq (W_rg (Zb (a_mv (v := v_turns) rfl) (Zb (a_len (hO.rd0 s_turns.rd : Sl eInt h v_turns turns) rfl) (Zb (a_mv (v := .i .i64 0) rfl) ?_)))))))
 refine Zh (Ze (W_bl ?_))
 obtain ⟨o₁, ho₁, hp⟩ := Zt hp
 refine W.mono (Q := fun e fr k => match (generalizing := false) o₁ with
   | n1 => e = (.exit 0) ∧ fr 3 = .i .i64 n1 ∧ Own B h k []) ?_ ?_
 ·clear hp
  refine z3 (fun st fr k => match st with | (n, x) => fr 3 = .i .i64 n ∧ fr 6 = v_turns ∧ fr 7 = .i .i64 (turns.length : Int) ∧ fr 8 = .i .i64 x ∧ Own B h k []) ho₁ (s := (0, 0)) (And.intro (rfl) (And.intro (rfl) (And.intro (rfl) (And.intro (rfl) (hO.pick [] rfl (by decide)))))) ?_
  rintro ⟨n, x⟩ q₂ k₂ ⟨q₂_3, q₂_6, q₂_7, q₂_8, hO₂⟩ o₂ hp
  dsimp only [zU.s0] at hp
  refine W_sq (W_rg (Zb (a_lss (a := x) (b := (turns.length : Int)) q₂_8 q₂_7) (Zh (Ze (W_sq ?_)))))
  rcases Zv hp with ⟨b₁, hp⟩ | ⟨b₁, hp⟩
  ·refine W_cT (t := (decide (x < (turns.length : Int)))) rfl b₁ ?_
   refine W_sk (Ze (W_sq (W_bl (W_sq (W_rg ?_)))))
   obtain ⟨c₁, hp⟩ := Zo hp
   refine Zb (a_ixa (E := eInt) (z := x) (hO₂.rd0 s_turns.rd : Sl eInt k₂ v_turns turns) q₂_6 q₂_8 c₁) (Zb (zH (w := .i .i64 (gi turns (x : Int).toNat)) (hO₂.rd0 s_turns.rd : Sl eInt k₂ v_turns turns) rfl (Zq c₁) rfl) (Zb (a_mv (v := .i .i64 (gi turns (x : Int).toNat)) rfl) (Zh (Ze (W_sq (W_rg (Zb (a_mv (v := .i .i64 (gi turns (x : Int).toNat)) rfl) ?_)))))))
   refine Zb (a_geq (a := (gi turns (x : Int).toNat)) (b := (-2)) rfl rfl) (Zb (a_mv (v := .b (decide ((-2) ≤ (gi turns (x : Int).toNat)))) rfl) ?_)
   refine zX 3 (fun fr' k' => k₂ = k' ∧ fr' 17 = .b ((decide ((-2) ≤ (gi turns (x : Int).toNat))) && (decide ((gi turns (x : Int).toNat) ≤ 1))) ∧ fr' 3 = .i .i64 n ∧ fr' 5 = .i .i64 (gi turns (x : Int).toNat) ∧ fr' 6 = v_turns ∧ fr' 7 = .i .i64 (turns.length : Int) ∧ fr' 8 = .i .i64 x) ?_ ?_
   ·rcases bc (decide ((-2) ≤ (gi turns (x : Int).toNat))) with b₂ | b₂
    ·skip
     refine WO_on rfl b₂ (Zb (a_mv (v := .i .i64 (gi turns (x : Int).toNat)) rfl) (WO_on rfl b₂ (Zb (a_leq (a := (gi turns (x : Int).toNat)) (b := 1) rfl rfl) (Zb (zk (t := (decide ((-2) ≤ (gi turns (x : Int).toNat)))) (v := .b ((decide ((-2) ≤ (gi turns (x : Int).toNat))) && (decide ((gi turns (x : Int).toNat) ≤ 1)))) rfl b₂ (Eq.trans (b := V.b (decide ((gi turns (x : Int).toNat) ≤ 1))) rfl (ZaD b₂))) (Zh ?_)))))
     exact ⟨rfl, rfl, q₂_3, rfl, q₂_6, q₂_7, q₂_8⟩
    ·skip
     refine WO_off rfl b₂ (WO_off rfl b₂ (Zb (zi (t := (decide ((-2) ≤ (gi turns (x : Int).toNat)))) (v := .b ((decide ((-2) ≤ (gi turns (x : Int).toNat))) && (decide ((gi turns (x : Int).toNat) ≤ 1)))) rfl b₂ (Eq.trans (b := V.b false) rfl (Za2 b₂))) (Zh ?_)))
     exact ⟨rfl, rfl, q₂_3, rfl, q₂_6, q₂_7, q₂_8⟩
   rintro frg₁ _ ⟨rfl, g₁_17, g₁_3, g₁_5, g₁_6, g₁_7, g₁_8⟩
   refine Zh (Ze ?_)
   rcases Zv hp with ⟨b₃, hp⟩ | ⟨b₃, hp⟩
   ·refine W_cT (t := ((decide ((-2) ≤ (gi turns (x : Int).toNat))) && (decide ((gi turns (x : Int).toNat) ≤ 1)))) g₁_17 b₃ ?_
    refine W_rg (Zb (a_mv (v := .i .i64 n) g₁_3) (Zb (a_mv (v := .i .i64 (gi turns (x : Int).toNat)) g₁_5) ?_))
    obtain ⟨c₂, hp⟩ := Zo hp
    refine Zb (a_add (a := n) (b := (gi turns (x : Int).toNat)) rfl rfl c₂) (Zb (a_mv (v := .i .i64 (n + (gi turns (x : Int).toNat))) rfl) (Zh (zL (Ze (W_rg ?_)))))
    obtain ⟨c₃, hp⟩ := Zo hp
    refine Zb (a_add (a := x) (b := 1) g₁_8 rfl c₃) (Zb (a_mv (v := .i .i64 (x + 1)) rfl) (Zh ?_))
    have hp := Option.some.inj hp; subst hp
    exact (Or.inl (Exists.intro (n + (gi turns (x : Int).toNat), x + 1) (And.intro rfl (And.intro rfl (And.intro (rfl) (And.intro (g₁_6) (And.intro (g₁_7) (And.intro (rfl) (hO₂.pick [] rfl (by decide))))))))))
   ·refine W_cF (t := ((decide ((-2) ≤ (gi turns (x : Int).toNat))) && (decide ((gi turns (x : Int).toNat) ≤ 1)))) g₁_17 b₃ ?_
    refine W_sk (zL (Ze (W_rg ?_)))
    obtain ⟨c₄, hp⟩ := Zo hp
    refine Zb (a_add (a := x) (b := 1) g₁_8 rfl c₄) (Zb (a_mv (v := .i .i64 (x + 1)) rfl) (Zh ?_))
    have hp := Option.some.inj hp; subst hp
    exact (Or.inl (Exists.intro (n, x + 1) (And.intro rfl (And.intro rfl (And.intro (g₁_3) (And.intro (g₁_6) (And.intro (g₁_7) (And.intro (rfl) (hO₂.pick [] rfl (by decide))))))))))
  ·refine W_cF (t := (decide (x < (turns.length : Int)))) rfl b₁ ?_
   refine W_ex (zC ?_)
   have hp := Option.some.inj hp; subst hp
   refine (Or.inr (Exists.intro n (And.intro rfl (And.intro (fun h => nomatch h) (fun he => ?_)))))
   subst he; exact (And.intro rfl (And.intro (q₂_3) (hO₂.pick [] rfl (by decide))))
 intro e₁ q₁ k₁ hJ₁
 obtain ⟨n1, rfl⟩ : ∃ x, x = o₁ := ⟨_, rfl⟩
 obtain ⟨rfl, q₁_3, hO₁⟩ := hJ₁
 refine zS (Ze (W_sq (W_rg (Zb (a_mv (v := .i .i64 n1) q₁_3) (Zb (a_mv (v := .i .i64 n1) rfl) (Zh (Ze ?_)))))))
 refine W_rt (Ret_r (rs_t (n := 2) (v := .i .i64 n1) rfl rs_nil) ?_)
 have hp := Option.some.inj hp; subst hp
 exact (And.intro rfl (hO₁.pick [] rfl (by decide)))

theorem Zae.ok {h : Hp} {cells : List Zk} {v_cells : V} (s_cells : Sl Zf h v_cells cells) {r : Int × Bool} (hp : Zae cells = some r) :
  ∃ u k', Is G 201 [v_cells] h u k' ∧ V.tu [.i .i64 r.1, .b r.2] = u ∧ Own (fun r => r < h.n) h k' [] := by
 refine WC.is (WC_of G_F_valid_outer ?_)
 unfold Zae at hp
 let B : Nat → Prop := (fun r => r < h.n)
 have hO : Own B h h [] := Own.start0 h
 refine W_sq (W_rg (Zb (a_mv (v := .i .i64 0) rfl) (Zb (a_mv (v := .b false) rfl) (Zh (Ze (W_sq (W_rg ?_)))))))
 refine Zb (a_mv (v := v_cells) rfl) ?_
 obtain ⟨⟨x, x1⟩, hx₁, hp⟩ := Zt hp
 obtain ⟨u₁, k₁, ca₁, v₁, vs₁, rfl, hW₁⟩ := z5.ok (h := h)  (hO.rd0 s_cells.rd : Sl Zf h v_cells cells) hx₁
 refine Zaj (id := 203) (caps := []) rfl (Z7 (v := v_cells) rfl zl) ca₁ ?_
 have hO₁ : Own B h k₁ [eSl eV v₁ vs₁, eAll Zg vs₁ x] := hO.call hW₁ rfl
 refine Zb (a_mv (v := .tu [v₁, .i .i64 x1]) rfl) (Zb (Zax (vs := [v₁, .i .i64 x1]) (v := v₁) rfl rfl) (Zb (Zax (vs := [v₁, .i .i64 x1]) (v := .i .i64 x1) rfl rfl) (Zb (a_mv (v := v₁) rfl) (Zb (a_mv (v := .i .i64 x1) rfl) (Zh (Ze (W_sq ?_)))))))
 refine W_rg (Zb (a_mv (v := .i .i64 (-1)) rfl) (Zh (Ze (W_sq (W_sq (W_rg (Zb (a_mv (v := v₁) rfl) ?_)))))))
 refine Zb (a_lenN (n := (x).length) (hO₁.sl 0 rfl : Sl eV k₁ v₁ vs₁) (hO₁.allLen 1 rfl : (vs₁).length = (x).length) rfl) (Zb (a_mv (v := .i .i64 0) rfl) (Zh (Ze (W_bl ?_))))
 obtain ⟨o₁, ho₁, hp⟩ := Zt hp
 refine W.mono (Q := fun e fr k => match (generalizing := false) o₁ with
   | .inl at_1 => e = (.exit 0) ∧ fr 6 = .i .i64 at_1 ∧ Own B h k []
   | .inr _ => e = .ret ∧ fr 2 = .i .i64 0 ∧ fr 3 = .b false ∧ Own B h k []) ?_ ?_
 ·clear hp
  refine z3 (fun st fr k => match st with | (at_, x2) => fr 0 = v_cells ∧ fr 6 = .i .i64 at_ ∧ fr 14 = v₁ ∧ fr 15 = .i .i64 (x.length : Int) ∧ fr 16 = .i .i64 x2 ∧ Own B h k [eSl eV v₁ vs₁, eAll Zg vs₁ x]) ho₁ (s := ((-1), 0)) (And.intro (rfl) (And.intro (rfl) (And.intro (rfl) (And.intro (rfl) (And.intro (rfl) (hO₁.pick [0, 1] rfl (by decide))))))) ?_
  rintro ⟨at_, x2⟩ q₂ k₃ ⟨q₂_0, q₂_6, q₂_14, q₂_15, q₂_16, hO₃⟩ o₂ hp
  dsimp only [Zae.s0] at hp
  refine W_sq (W_rg (Zb (a_lss (a := x2) (b := (x.length : Int)) q₂_16 q₂_15) (Zh (Ze (W_sq ?_)))))
  rcases Zv hp with ⟨b₁, hp⟩ | ⟨b₁, hp⟩
  ·refine W_cT (t := (decide (x2 < (x.length : Int)))) rfl b₁ ?_
   refine W_sk (Ze (W_sq (W_bl (W_sq (W_rg (Zb (a_mv (v := .i .i64 x2) q₂_16) ?_))))))
   obtain ⟨c₁, hp⟩ := Zo hp
   refine Zb (a_ixa (E := eV) (z := x2) (hO₃.sl 0 rfl : Sl eV k₃ v₁ vs₁) q₂_14 q₂_16 (by rw [(hO₃.allLen 1 rfl : (vs₁).length = (x).length)]; exact c₁)) (Zb (zH (w := (gi vs₁ (x2 : Int).toNat)) (hO₃.sl 0 rfl : Sl eV k₃ v₁ vs₁) rfl (by rw [(hO₃.allLen 1 rfl : (vs₁).length = (x).length)]; exact Zq c₁) rfl) (Zb (a_mv (v := .i .i64 x2) rfl) (Zb (a_mv (v := (gi vs₁ (x2 : Int).toNat)) rfl) (Zh (Ze (W_sq (W_rg ?_)))))))
   refine Zb (a_mv (v := v_cells) q₂_0) (Zb (a_mv (v := (gi vs₁ (x2 : Int).toNat)) rfl) ?_)
   obtain ⟨x3, hx₂, hp⟩ := Zt hp
   obtain ⟨u₂, k₄, ca₂, v₂, rfl, hW₂⟩ := Zab.ok (h := k₃)  (hO₃.rd0 s_cells.rd : Sl Zf k₃ v_cells cells) (hO₃.inn 1 rfl (Zq c₁) : Sl Zg k₃ (gi vs₁ (x2 : Int).toNat) (gi x (x2 : Int).toNat)) hx₂
   refine Zaj (id := 204) (caps := []) rfl (Z7 (v := v_cells) rfl (Z7 (v := (gi vs₁ (x2 : Int).toNat)) rfl zl)) ca₂ ?_
   have hO₄ : Own B h k₄ [eSl eV v₁ vs₁, eAll Zg vs₁ x, eSl eInt v₂ x3] := hO₃.call hW₂ rfl
   obtain ⟨x4, hx₃, hp⟩ := Zt hp
   obtain ⟨u₃, k₅, ca₃, rfl, hW₃⟩ := zU.ok (h := k₄)  (hO₄.sl 2 rfl : Sl eInt k₄ v₂ x3) hx₃
   refine Zaj (id := 219) (caps := []) rfl (Z7 (v := v₂) rfl zl) ca₃ ?_
   have hO₅ : Own B h k₅ [eSl eV v₁ vs₁, eAll Zg vs₁ x, eSl eInt v₂ x3] := hO₄.call hW₃ rfl
   refine Zh (Ze (W_bl (W_sq (W_rg (Zb (a_eqI (a := x4) (b := 4) rfl rfl) (Zb (a_mv (v := .b (decide (x4 = 4))) rfl) (Zh ?_)))))))
   refine Ze ?_
   rcases Zv hp with ⟨b₂, hp⟩ | ⟨b₂, hp⟩
   ·refine W_cT (t := (decide (x4 = 4))) rfl b₂ ?_
    refine W_sk (zL (zL (Ze (W_rg ?_))))
    obtain ⟨c₂, hp⟩ := Zo hp
    refine Zb (a_add (a := x2) (b := 1) q₂_16 rfl c₂) (Zb (a_mv (v := .i .i64 (x2 + 1)) rfl) (Zh ?_))
    have hp := Option.some.inj hp; subst hp
    exact (Or.inl (Exists.intro (at_, x2 + 1) (And.intro rfl (And.intro rfl (And.intro (q₂_0) (And.intro (q₂_6) (And.intro (q₂_14) (And.intro (q₂_15) (And.intro (rfl) (hO₅.pick [0, 1] rfl (by decide)))))))))))
   ·refine W_cF (t := (decide (x4 = 4))) rfl b₂ ?_
    refine W_sq (W_rg (Zb (a_eqI (a := x4) (b := (-4)) rfl rfl) (Zb (a_mv (v := .b (decide (x4 = (-4)))) rfl) (Zh (Ze ?_)))))
    rcases Zv hp with ⟨b₃, hp⟩ | ⟨b₃, hp⟩
    ·refine W_cT (t := (decide (x4 = (-4)))) rfl b₃ ?_
     refine W_sq (W_sq (W_rg (Zb (a_mv (v := .i .i64 at_) q₂_6) (Zb (a_geq (a := at_) (b := 0) rfl rfl) (Zh (Ze ?_))))))
     rcases Zv hp with ⟨b₄, hp⟩ | ⟨b₄, hp⟩
     ·refine W_cT (t := (decide (0 ≤ at_))) rfl b₄ ?_
      refine W_sq (W_rg (Zb (a_mv (v := .i .i64 0) rfl) (Zb (a_mv (v := .b false) rfl) (Zh (Ze (W_rt (zy ?_)))))))
      refine Zak (Zak (zy ?_))
      have hp := Option.some.inj hp; subst hp
      refine (Or.inr (Exists.intro (.inr ()) (And.intro rfl (And.intro (fun h => nomatch h) (fun he => ?_)))))
      subst he; exact (And.intro rfl (And.intro (rfl) (And.intro (rfl) (hO₅.pick [] rfl (by decide)))))
     ·refine W_cF (t := (decide (0 ≤ at_))) rfl b₄ ?_
      refine W_sk (Ze (W_rg (Zb (a_mv (v := .i .i64 x2) rfl) (Zb (a_mv (v := .i .i64 x2) rfl) (Zh (zL (zL ?_)))))))
      refine Ze (W_rg ?_)
      obtain ⟨c₃, hp⟩ := Zo hp
      refine Zb (a_add (a := x2) (b := 1) q₂_16 rfl c₃) (Zb (a_mv (v := .i .i64 (x2 + 1)) rfl) (Zh ?_))
      have hp := Option.some.inj hp; subst hp
      exact (Or.inl (Exists.intro (x2, x2 + 1) (And.intro rfl (And.intro rfl (And.intro (q₂_0) (And.intro (rfl) (And.intro (q₂_14) (And.intro (q₂_15) (And.intro (rfl) (hO₅.pick [0, 1] rfl (by decide)))))))))))
    ·refine W_cF (t := (decide (x4 = (-4)))) rfl b₃ ?_
     refine W_sq (W_rg (Zb (a_mv (v := .i .i64 0) rfl) (Zb (a_mv (v := .b false) rfl) (Zh (Ze (W_rt (Zak ?_)))))))
     refine Zak (zy ?_)
     have hp := Option.some.inj hp; subst hp
     refine (Or.inr (Exists.intro (.inr ()) (And.intro rfl (And.intro (fun h => nomatch h) (fun he => ?_)))))
     subst he; exact (And.intro rfl (And.intro (rfl) (And.intro (rfl) (hO₅.pick [] rfl (by decide)))))
  ·refine W_cF (t := (decide (x2 < (x.length : Int)))) rfl b₁ ?_
   refine W_ex (zC ?_)
   have hp := Option.some.inj hp; subst hp
   refine (Or.inr (Exists.intro (.inl at_) (And.intro rfl (And.intro (fun h => nomatch h) (fun he => ?_)))))
   subst he; exact (And.intro rfl (And.intro (q₂_6) (hO₃.pick [] rfl (by decide))))
 intro e₁ q₁ k₂ hJ₁
 rcases o₁ with at_1 | _
 ·obtain ⟨rfl, q₁_6, hO₂⟩ := hJ₁
  refine zS (Ze (W_sq (W_rg (Zb (a_mv (v := .i .i64 at_1) q₁_6) (Zb (a_mv (v := .i .i64 at_1) q₁_6) (Zb (a_geq (a := at_1) (b := 0) rfl rfl) (Zb (a_mv (v := .i .i64 at_1) rfl) ?_)))))))
  refine Zb (a_mv (v := .b (decide (0 ≤ at_1))) rfl) (Zh (Ze (W_rt (Ret_r (rs_t (n := 2) (v := .i .i64 at_1) rfl (rs_t (n := 3) (v := .b (decide (0 ≤ at_1))) rfl rs_nil)) ?_))))
  have hp := Option.some.inj hp; subst hp
  exact (And.intro rfl (hO₂.pick [] rfl (by decide)))
 ·obtain ⟨rfl, q₁_2, q₁_3, hO₂⟩ := hJ₁
  refine Zak (zy (Ret_r (rs_t (n := 2) (v := .i .i64 0) q₁_2 (rs_t (n := 3) (v := .b false) q₁_3 rs_nil)) ?_))
  have hp := Option.some.inj hp; subst hp
  exact (And.intro rfl (hO₂.pick [] rfl (by decide)))

theorem Za5.ok {h : Hp} {cells : List Zk} {v_cells : V} (s_cells : Sl Zf h v_cells cells) {r : Int} (hp : Za5 cells = some r) :
  ∃ u k', Is G 176 [v_cells] h u k' ∧ V.i .i64 r = u ∧ Own (fun r => r < h.n) h k' [] := by
 refine WC.is (WC_of G_F_valid_Check ?_)
 unfold Za5 at hp
 let B : Nat → Prop := (fun r => r < h.n)
 have hO : Own B h h [] := Own.start0 h
 refine W_sq (W_rg (Zb (a_mv (v := .i .i64 0) rfl) (Zh (Ze (W_sq (W_sq (W_rg ?_)))))))
 refine Zb (a_mv (v := v_cells) rfl) ?_
 obtain ⟨x, hx₁, hp⟩ := Zt hp
 obtain ⟨u₁, k₁, ca₁, rfl, hW₁⟩ := z4.ok (h := h)  (hO.rd0 s_cells.rd : Sl Zf h v_cells cells) hx₁
 refine Zaj (id := 66) (caps := []) rfl (Z7 (v := v_cells) rfl zl) ca₁ ?_
 have hO₁ : Own B h k₁ [] := hO.call hW₁ rfl
 refine Zb (a_mv (v := .i .i64 x) rfl) (Zh (Ze (W_sq (W_rg (Zb (a_mv (v := .i .i64 x) rfl) (Zb (a_neI (a := x) (b := 0) rfl rfl) (Zh ?_)))))))
 refine Ze ?_
 rcases Zv hp with ⟨b₁, hp⟩ | ⟨b₁, hp⟩
 ·refine W_cT (t := (!(decide (x = 0)))) rfl b₁ ?_
  refine W_sq (W_rg (Zb (a_mv (v := .i .i64 x) rfl) (Zb (a_mv (v := .i .i64 x) rfl) (Zh (Ze (W_rt (zy ?_)))))))
  refine Ret_r (rs_t (n := 2) (v := .i .i64 x) rfl rs_nil) ?_
  have hp := Option.some.inj hp; subst hp
  exact (And.intro rfl (hO₁.pick [] rfl (by decide)))
 ·refine W_cF (t := (!(decide (x = 0)))) rfl b₁ ?_
  refine W_sk (Ze (W_sq (W_sq (W_rg (Zb (a_mv (v := v_cells) rfl) ?_)))))
  obtain ⟨x1, hx₂, hp⟩ := Zt hp
  obtain ⟨u₂, k₂, ca₂, rfl, hW₂⟩ := Za8.ok (h := k₁)  (hO₁.rd0 s_cells.rd : Sl Zf k₁ v_cells cells) hx₂
  refine Zaj (id := 32) (caps := []) rfl (Z7 (v := v_cells) rfl zl) ca₂ ?_
  have hO₂ : Own B h k₂ [] := hO₁.call hW₂ rfl
  refine Zb (a_not (t := x1) rfl) (Zh (Ze ?_))
  rcases Zv hp with ⟨b₂, hp⟩ | ⟨b₂, hp⟩
  ·refine W_cT (t := (!x1)) rfl b₂ ?_
   refine W_sq (W_rg (Zb (a_mv (v := .i .i64 13) rfl) (Zh (Ze (W_rt (zy (Ret_r (rs_t (n := 2) (v := .i .i64 13) rfl rs_nil) ?_)))))))
   have hp := Option.some.inj hp; subst hp
   exact (And.intro rfl (hO₂.pick [] rfl (by decide)))
  ·refine W_cF (t := (!x1)) rfl b₂ ?_
   refine W_sk (Ze (W_sq (W_sq (W_rg (Zb (a_mv (v := v_cells) rfl) ?_)))))
   obtain ⟨⟨x2, x3⟩, hx₃, hp⟩ := Zt hp
   obtain ⟨u₃, k₃, ca₃, rfl, hW₃⟩ := Zae.ok (h := k₂)  (hO₂.rd0 s_cells.rd : Sl Zf k₂ v_cells cells) hx₃
   refine Zaj (id := 201) (caps := []) rfl (Z7 (v := v_cells) rfl zl) ca₃ ?_
   have hO₃ : Own B h k₃ [] := hO₂.call hW₃ rfl
   refine Zb (a_mv (v := .tu [.i .i64 x2, .b x3]) rfl) (Zb (Zax (vs := [.i .i64 x2, .b x3]) (v := .i .i64 x2) rfl rfl) (Zb (Zax (vs := [.i .i64 x2, .b x3]) (v := .b x3) rfl rfl) (Zb (a_mv (v := .i .i64 x2) rfl) (Zb (a_mv (v := .b x3) rfl) (Zh (Ze (W_sq ?_)))))))
   refine W_rg (Zb (a_mv (v := .b x3) rfl) (Zb (a_not (t := x3) rfl) (Zb (a_mv (v := .b (!x3)) rfl) ?_)))
   refine zX 4 (fun fr' k' => k₃ = k' ∧ fr' 25 = .b ((!x3) && (decide (1 < (cells.length : Int))))) ?_ ?_
   ·rcases bc (!x3) with b₃ | b₃
    ·skip
     refine WO_on rfl b₃ (Zb (a_mv (v := v_cells) rfl) (WO_on rfl b₃ (Zb (a_len (hO₃.rd0 s_cells.rd : Sl Zf k₃ v_cells cells) rfl) (WO_on rfl b₃ (Zb (a_gtr (a := (cells.length : Int)) (b := 1) rfl rfl) (Zb (zk (t := (!x3)) (v := .b ((!x3) && (decide (1 < (cells.length : Int))))) rfl b₃ (Eq.trans (b := V.b (decide (1 < (cells.length : Int)))) rfl (ZaD b₃))) (Zh ?_)))))))
     exact ⟨rfl, rfl⟩
    ·skip
     refine WO_off rfl b₃ (WO_off rfl b₃ (WO_off rfl b₃ (Zb (zi (t := (!x3)) (v := .b ((!x3) && (decide (1 < (cells.length : Int))))) rfl b₃ (Eq.trans (b := V.b false) rfl (Za2 b₃))) (Zh ?_))))
     exact ⟨rfl, rfl⟩
   rintro frg₁ _ ⟨rfl, g₁_25⟩
   refine Zh (Ze ?_)
   rcases Zv hp with ⟨b₄, hp⟩ | ⟨b₄, hp⟩
   ·refine W_cT (t := ((!x3) && (decide (1 < (cells.length : Int))))) g₁_25 b₄ ?_
    refine W_sq (W_rg (Zb (a_mv (v := .i .i64 10) rfl) (Zh (Ze (W_rt (zy (Ret_r (rs_t (n := 2) (v := .i .i64 10) rfl rs_nil) ?_)))))))
    have hp := Option.some.inj hp; subst hp
    exact (And.intro rfl (hO₃.pick [] rfl (by decide)))
   ·refine W_cF (t := ((!x3) && (decide (1 < (cells.length : Int))))) g₁_25 b₄ ?_
    refine W_sk (Ze (W_sq (W_rg (Zb (a_mv (v := .i .i64 0) rfl) (Zh (Ze (W_rt ?_)))))))
    refine Ret_r (rs_t (n := 2) (v := .i .i64 0) rfl rs_nil) ?_
    have hp := Option.some.inj hp; subst hp
    exact (And.intro rfl (hO₃.pick [] rfl (by decide)))

theorem zF.ok {h : Hp} {s : List Int} {f : Int → Option Bool} {v_s : V} {id_f : Nat} {cap_f : List V} (s_s : Sl eInt h v_s s) (f_f : ∀ (k : Hp) (x0 : Int) (y : Bool), Ex' (fun r => r < h.n) h k → f x0 = some y → ∃ u k', Is G id_f (.i .i64 x0 :: cap_f) k u k' ∧ V.b y = u ∧ Own (fun r => r < k.n) k k' []) {r : Int} (hp : zF s f = some r) :
  ∃ u k', Is G 91 [v_s, .f id_f cap_f] h u k' ∧ V.i .i64 r = u ∧ Own (fun r => r < h.n) h k' [] := by
 refine WC.is (WC_of G_F_slices_IndexFunc_int ?_)
 unfold zF at hp
 let B : Nat → Prop := (fun r => r < h.n)
 have hO : Own B h h [] := Own.start0 h
 refine W_sq (W_rg (Zb (a_mv (v := .i .i64 0) rfl) (Zh (Ze (W_sq (W_sq (W_rg ?_)))))))
 refine Zb (a_mv (v := v_s) rfl) (Zb (a_len (hO.rd0 s_s.rd : Sl eInt h v_s s) rfl) (Zb (a_mv (v := .i .i64 0) rfl) (Zh (Ze (W_bl ?_)))))
 obtain ⟨o₁, ho₁, hp⟩ := Zt hp
 refine W.mono (Q := fun e fr k => match (generalizing := false) o₁ with
   | .inl _ => e = (.exit 0) ∧ Own B h k []
   | .inr x1 => e = .ret ∧ fr 4 = .i .i64 x1 ∧ Own B h k []) ?_ ?_
 ·clear hp
  refine z3 (fun st fr k => match st with | x => fr 0 = v_s ∧ fr 1 = .f id_f cap_f ∧ fr 7 = .i .i64 (s.length : Int) ∧ fr 8 = .i .i64 x ∧ Own B h k []) ho₁ (s := 0) (And.intro (rfl) (And.intro (rfl) (And.intro (rfl) (And.intro (rfl) (hO.pick [] rfl (by decide)))))) ?_
  rintro x q₂ k₂ ⟨q₂_0, q₂_1, q₂_7, q₂_8, hO₂⟩ o₂ hp
  dsimp only [zF.s0] at hp
  refine W_sq (W_rg (Zb (a_lss (a := x) (b := (s.length : Int)) q₂_8 q₂_7) (Zh (Ze (W_sq ?_)))))
  rcases Zv hp with ⟨b₁, hp⟩ | ⟨b₁, hp⟩
  ·refine W_cT (t := (decide (x < (s.length : Int)))) rfl b₁ ?_
   refine W_sk (Ze (W_sq (W_bl (W_sq (W_rg (Zb (a_mv (v := .i .i64 x) q₂_8) (Zb (a_mv (v := .i .i64 x) rfl) ?_)))))))
   refine Zh (Ze (W_sq (W_rg (Zb (a_mv (v := .f id_f cap_f) q₂_1) (Zb (a_mv (v := v_s) q₂_0) (Zb (a_mv (v := .i .i64 x) rfl) ?_))))))
   obtain ⟨c₁, hp⟩ := Zo hp
   refine Zb (a_ixa (E := eInt) (z := x) (hO₂.rd0 s_s.rd : Sl eInt k₂ v_s s) rfl rfl c₁) (Zb (zH (w := .i .i64 (gi s (x : Int).toNat)) (hO₂.rd0 s_s.rd : Sl eInt k₂ v_s s) rfl (Zq c₁) rfl) ?_)
   obtain ⟨x2, hx₁, hp⟩ := Zt hp
   obtain ⟨u₁, k₃, ca₁, rfl, hW₁⟩ := f_f _ _ _ hO₂.ext hx₁
   refine Zaj (id := id_f) (caps := cap_f) rfl (Z7 (v := .i .i64 (gi s (x : Int).toNat)) rfl zl) ca₁ ?_
   have hO₃ : Own B h k₃ [] := hO₂.call hW₁ rfl
   refine Zh (Ze ?_)
   rcases Zv hp with ⟨b₂, hp⟩ | ⟨b₂, hp⟩
   ·refine W_cT (t := x2) rfl b₂ ?_
    refine W_sq (W_rg (Zb (a_mv (v := .i .i64 x) rfl) (Zb (a_mv (v := .i .i64 x) rfl) (Zh (Ze (W_rt (Zak ?_)))))))
    refine zy ?_
    have hp := Option.some.inj hp; subst hp
    refine (Or.inr (Exists.intro (.inr x) (And.intro rfl (And.intro (fun h => nomatch h) (fun he => ?_)))))
    subst he; exact (And.intro rfl (And.intro (rfl) (hO₃.pick [] rfl (by decide))))
   ·refine W_cF (t := x2) rfl b₂ ?_
    refine W_sk (zL (Ze (W_rg ?_)))
    obtain ⟨c₂, hp⟩ := Zo hp
    refine Zb (a_add (a := x) (b := 1) q₂_8 rfl c₂) (Zb (a_mv (v := .i .i64 (x + 1)) rfl) (Zh ?_))
    have hp := Option.some.inj hp; subst hp
    exact (Or.inl (Exists.intro (x + 1) (And.intro rfl (And.intro rfl (And.intro (q₂_0) (And.intro (q₂_1) (And.intro (q₂_7) (And.intro (rfl) (hO₃.pick [] rfl (by decide))))))))))
  ·refine W_cF (t := (decide (x < (s.length : Int)))) rfl b₁ ?_
   refine W_ex (zC ?_)
   have hp := Option.some.inj hp; subst hp
   refine (Or.inr (Exists.intro (.inl ()) (And.intro rfl (And.intro (fun h => nomatch h) (fun he => ?_)))))
   subst he; exact (And.intro rfl (hO₂.pick [] rfl (by decide)))
 intro e₁ q₁ k₁ hJ₁
 rcases o₁ with _ | x1
 ·obtain ⟨rfl, hO₁⟩ := hJ₁
  refine zS (Ze (W_sq (W_rg (Zb (a_mv (v := .i .i64 (-1)) rfl) (Zh (Ze (W_rt ?_)))))))
  refine Ret_r (rs_t (n := 4) (v := .i .i64 (-1)) rfl rs_nil) ?_
  have hp := Option.some.inj hp; subst hp
  exact (And.intro rfl (hO₁.pick [] rfl (by decide)))
 ·obtain ⟨rfl, q₁_4, hO₁⟩ := hJ₁
  refine Zak (zy (Ret_r (rs_t (n := 4) (v := .i .i64 x1) q₁_4 rs_nil) ?_))
  have hp := Option.some.inj hp; subst hp
  exact (And.intro rfl (hO₁.pick [] rfl (by decide)))

theorem zY.ok {h : Hp} {s : List Int} {f : Int → Option Bool} {v_s : V} {id_f : Nat} {cap_f : List V} (s_s : Sl eInt h v_s s) (f_f : ∀ (k : Hp) (x0 : Int) (y : Bool), Ex' (fun r => r < h.n) h k → f x0 = some y → ∃ u k', Is G id_f (.i .i64 x0 :: cap_f) k u k' ∧ V.b y = u ∧ Own (fun r => r < k.n) k k' []) {r : Bool} (hp : zY s f = some r) :
  ∃ u k', Is G 78 [v_s, .f id_f cap_f] h u k' ∧ V.b r = u ∧ Own (fun r => r < h.n) h k' [] := by
 refine WC.is (WC_of G_F_slices_ContainsFunc_int ?_)
 unfold zY at hp
 let B : Nat → Prop := (fun r => r < h.n)
 have hO : Own B h h [] := Own.start0 h
 refine W_sq (W_rg (Zb (a_mv (v := .b false) rfl) (Zh (Ze (W_sq (W_rg (Zb (a_mv (v := v_s) rfl) ?_)))))))
 refine Zb (a_mv (v := .f id_f cap_f) rfl) ?_
 obtain ⟨x, hx₁, hp⟩ := Zt hp
 obtain ⟨u₁, k₁, ca₁, rfl, hW₁⟩ := zF.ok (h := h)  (hO.rd0 s_s.rd : Sl eInt h v_s s) (fun k z0 y hk hx => f_f k z0 y (exTo hO hk) hx) hx₁
 refine Zaj (id := 91) (caps := []) rfl (Z7 (v := v_s) rfl (Z7 (v := .f id_f cap_f) rfl zl)) ca₁ ?_
 have hO₁ : Own B h k₁ [] := hO.call hW₁ rfl
 refine Zb (a_geq (a := x) (b := 0) rfl rfl) (Zb (a_mv (v := .b (decide (0 ≤ x))) rfl) (Zh (Ze (W_rt (Ret_r (rs_t (n := 4) (v := .b (decide (0 ≤ x))) rfl rs_nil) ?_)))))
 have hp := Option.some.inj hp; subst hp
 exact (And.intro rfl (hO₁.pick [] rfl (by decide)))

theorem Za1.ok {h : Hp} {t : Int}   {r : Bool} (hp : Za1 t = some r) :
  ∃ u k', Is G 80 [.i .i64 t] h u k' ∧ V.b r = u ∧ Own (fun r => r < h.n) h k' [] := by
 refine WC.is (WC_of G_F_kitty_right_1 ?_)
 unfold Za1 at hp
 let B : Nat → Prop := (fun r => r < h.n)
 have hO : Own B h h [] := Own.start0 h
 refine W_sq (W_rg (Zb (a_mv (v := .b false) rfl) (Zh (Ze (W_sq (W_rg (Zb (a_mv (v := .i .i64 t) rfl) ?_)))))))
 refine Zb (a_lss (a := t) (b := (-2)) rfl rfl) (Zb (a_mv (v := .b (decide (t < (-2)))) rfl) ?_)
 refine zX 3 (fun fr' k' => h = k' ∧ fr' 8 = .b ((decide (t < (-2))) || (decide (1 < t)))) ?_ ?_
 ·rcases bc (decide (t < (-2))) with b₁ | b₁
  ·skip
   refine WO_off rfl b₁ (WO_off rfl b₁ (Zb (zk (t := (decide (t < (-2)))) (v := .b ((decide (t < (-2))) || (decide (1 < t)))) rfl b₁ (Eq.trans (b := V.b true) rfl (ZaA b₁))) (Zh ?_)))
   exact ⟨rfl, rfl⟩
  ·skip
   refine WO_on rfl b₁ (Zb (a_mv (v := .i .i64 t) rfl) (WO_on rfl b₁ (Zb (a_gtr (a := t) (b := 1) rfl rfl) (Zb (zi (t := (decide (t < (-2)))) (v := .b ((decide (t < (-2))) || (decide (1 < t)))) rfl b₁ (Eq.trans (b := V.b (decide (1 < t))) rfl (ZaH b₁))) (Zh ?_)))))
   exact ⟨rfl, rfl⟩
 rintro frg₁ _ ⟨rfl, g₁_8⟩
 refine Zb (a_mv (v := .b ((decide (t < (-2))) || (decide (1 < t)))) g₁_8) (Zh (Ze (W_rt (Ret_r (rs_t (n := 2) (v := .b ((decide (t < (-2))) || (decide (1 < t)))) rfl rs_nil) ?_))))
 have hp := Option.some.inj hp; subst hp
 exact (And.intro rfl (hO.pick [] rfl (by decide)))

theorem Zay.ok {h : Hp} {turns : List Int} {v_turns : V} (s_turns : Sl eInt h v_turns turns) {r : Bool} (hp : Zay turns = some r) :
  ∃ u k', Is G 59 [v_turns] h u k' ∧ V.b r = u ∧ Own (fun r => r < h.n) h k' [] := by
 refine WC.is (WC_of G_F_kitty_right ?_)
 unfold Zay at hp
 let B : Nat → Prop := (fun r => r < h.n)
 have hO : Own B h h [] := Own.start0 h
 refine W_sq (W_rg (Zb (a_mv (v := .b false) rfl) (Zh (Ze (W_sq (W_rg (Zb (a_mv (v := v_turns) rfl) ?_)))))))
 obtain ⟨x, hx₁, hp⟩ := Zt hp
 obtain ⟨u₁, k₁, ca₁, rfl, hW₁⟩ := zY.ok (h := h)  (hO.rd0 s_turns.rd : Sl eInt h v_turns turns) (fun k z0 y hk hx => Za1.ok (h := k)  hx) hx₁
 refine Zaj (id := 78) (caps := []) rfl (Z7 (v := v_turns) rfl (Z7 (v := .f 80 []) rfl zl)) ca₁ ?_
 have hO₁ : Own B h k₁ [] := hO.call hW₁ rfl
 refine Zb (a_not (t := x) rfl) (Zb (a_mv (v := .b (!x)) rfl) (Zh (Ze (W_rt (Ret_r (rs_t (n := 2) (v := .b (!x)) rfl rs_nil) ?_)))))
 have hp := Option.some.inj hp; subst hp
 exact (And.intro rfl (hO₁.pick [] rfl (by decide)))

theorem zt.ok {h : Hp} {turns : List Int} {v_turns : V} (s_turns : Sl eInt h v_turns turns) {r : (List Zd)} (hp : zt turns = some r) :
  ∃ u k', Is G 19 [v_turns] h u k' ∧ ∃ (v₁ : V), v₁ = u ∧ Own (fun r => r < h.n) h k' [eSl Za v₁ r] := by
 refine WC.is (WC_of G_F_kitty_Corners ?_)
 unfold zt at hp
 let B : Nat → Prop := (fun r => r < h.n)
 have hO : Own B h h [] := Own.start0 h
 refine W_sq (W_rg (Zb (a_mv (v := .sn) rfl) (Zh (Ze (W_sq (W_rg (Zb (a_mv (v := .sn) rfl) ?_)))))))
 refine Zh (Ze (W_sq (W_sq (W_rg (Zb (a_mv (v := v_turns) rfl) (Zb (a_len (hO.rd0 s_turns.rd : Sl eInt h v_turns turns) rfl) (Zb (a_mv (v := .i .i64 0) rfl) ?_)))))))
 refine Zh (Ze (W_bl ?_))
 obtain ⟨o₁, ho₁, hp⟩ := Zt hp
 refine W.mono (Q := fun e fr k => match (generalizing := false) o₁ with
   | l1 => e = (.exit 0) ∧ ∃ (v₃ : V), fr 3 = v₃ ∧ Own B h k [eSl Za v₃ l1]) ?_ ?_
 ·clear hp
  have hO₂ : Own B h h [eSl Za .sn ([] : List Zd)] := hO.nil Za
  refine z3 (fun st fr k => match st with | (l, x) => ∃ (v₂ : V), fr 3 = v₂ ∧ fr 7 = v_turns ∧ fr 8 = .i .i64 (turns.length : Int) ∧ fr 9 = .i .i64 x ∧ Own B h k [eSl Za v₂ l]) ho₁ (s := (([] : List Zd), 0)) (Exists.intro V.sn (And.intro (rfl) (And.intro (rfl) (And.intro (rfl) (And.intro (rfl) (hO₂.pick [0] rfl (by decide))))))) ?_
  rintro ⟨l, x⟩ q₂ k₂ ⟨v₂, q₂_3, q₂_7, q₂_8, q₂_9, hO₃⟩ o₂ hp
  dsimp only [zt.s0] at hp
  refine W_sq (W_rg (Zb (a_lss (a := x) (b := (turns.length : Int)) q₂_9 q₂_8) (Zh (Ze (W_sq ?_)))))
  rcases Zv hp with ⟨b₁, hp⟩ | ⟨b₁, hp⟩
  ·refine W_cT (t := (decide (x < (turns.length : Int)))) rfl b₁ ?_
   refine W_sk (Ze (W_sq (W_bl (W_sq (W_rg (Zb (a_mv (v := .i .i64 x) q₂_9) ?_))))))
   obtain ⟨c₁, hp⟩ := Zo hp
   refine Zb (a_ixa (E := eInt) (z := x) (hO₃.rd0 s_turns.rd : Sl eInt k₂ v_turns turns) q₂_7 q₂_9 c₁) (Zb (zH (w := .i .i64 (gi turns (x : Int).toNat)) (hO₃.rd0 s_turns.rd : Sl eInt k₂ v_turns turns) rfl (Zq c₁) rfl) (Zb (a_mv (v := .i .i64 x) rfl) (Zb (a_mv (v := .i .i64 (gi turns (x : Int).toNat)) rfl) (Zh (Ze (W_sq (W_sq ?_)))))))
   refine W_rg (Zb (a_mv (v := .i .i64 (gi turns (x : Int).toNat)) rfl) (Zb (a_lss (a := (gi turns (x : Int).toNat)) (b := (-2)) rfl rfl) (Zh (Ze ?_))))
   rcases Zv hp with ⟨b₂, hp⟩ | ⟨b₂, hp⟩
   ·refine W_cT (t := (decide ((gi turns (x : Int).toNat) < (-2)))) rfl b₂ ?_
    refine W_ex (zC (zS (Ze (W_rg ?_))))
    obtain ⟨c₂, hp⟩ := Zo hp
    refine Zb (a_add (a := x) (b := 1) q₂_9 rfl c₂) (Zb (a_mv (v := .i .i64 (x + 1)) rfl) (Zh ?_))
    have hp := Option.some.inj hp; subst hp
    exact (Or.inl (Exists.intro (l, x + 1) (And.intro rfl (And.intro rfl (Exists.intro v₂ (And.intro (q₂_3) (And.intro (q₂_7) (And.intro (q₂_8) (And.intro (rfl) (hO₃.pick [0] rfl (by decide)))))))))))
   ·refine W_cF (t := (decide ((gi turns (x : Int).toNat) < (-2)))) rfl b₂ ?_
    refine W_sk (Ze (W_sq (W_rg (Zb (a_mv (v := .i .i64 (gi turns (x : Int).toNat)) rfl) ?_))))
    obtain ⟨c₃, hp⟩ := Zo hp
    refine Zb (a_neg (a := (gi turns (x : Int).toNat)) rfl c₃) (Zb (a_mv (v := .i .i64 0) rfl) (Zh (Ze (W_bl ?_))))
    obtain ⟨o₃, ho₂, hp⟩ := Zt hp
    refine W.mono (Q := fun e fr k => match (generalizing := false) o₃ with
      | l3 => e = (.exit 2) ∧ ∃ (v₅ : V), fr 3 = v₅ ∧ fr 7 = v_turns ∧ fr 8 = .i .i64 (turns.length : Int) ∧ fr 9 = .i .i64 x ∧ Own B h k [eSl Za v₅ l3]) ?_ ?_
    ·clear hp
     refine z3 (fun st fr k => match st with | (l2, x1) => ∃ (v₄ : V), fr 3 = v₄ ∧ fr 4 = .i .i64 x ∧ fr 7 = v_turns ∧ fr 8 = .i .i64 (turns.length : Int) ∧ fr 9 = .i .i64 x ∧ fr 17 = .i .i64 (-(gi turns (x : Int).toNat)) ∧ fr 18 = .i .i64 x1 ∧ Own B h k [eSl Za v₄ l2]) ho₂ (s := (l, 0)) (Exists.intro v₂ (And.intro (q₂_3) (And.intro (rfl) (And.intro (q₂_7) (And.intro (q₂_8) (And.intro (q₂_9) (And.intro (rfl) (And.intro (rfl) (hO₃.pick [0] rfl (by decide)))))))))) ?_
     rintro ⟨l2, x1⟩ q₄ k₄ ⟨v₄, q₄_3, q₄_4, q₄_7, q₄_8, q₄_9, q₄_17, q₄_18, hO₅⟩ o₄ hp
     dsimp only [zt.s1] at hp
     refine W_sq (W_rg (Zb (a_lss (a := x1) (b := (-(gi turns (x : Int).toNat))) q₄_18 q₄_17) (Zh (Ze (W_sq ?_)))))
     rcases Zv hp with ⟨b₃, hp⟩ | ⟨b₃, hp⟩
     ·refine W_cT (t := (decide (x1 < (-(gi turns (x : Int).toNat))))) rfl b₃ ?_
      refine W_sk (Ze (W_sq (W_bl (W_sq (W_rg (Zb (a_mv (v := .i .i64 x1) q₄_18) (Zb (a_mv (v := .i .i64 x1) rfl) ?_)))))))
      refine Zh (Ze (W_rg (Zb (a_mv (v := v₄) q₄_3) (Zb (a_mv (v := .i .i64 x) q₄_4) (Zb (a_mv (v := .i .i64 x1) rfl) (Zb (Zaw (cs := Za.c (⟨x, x1⟩ : Zd)) (by rw [(zc (v := .i .i64 x) rfl (zc (v := .i .i64 x1) rfl ev_nil))]; rfl)) (zq (hO₅.bsl (E := Za) (l := [(⟨x, x1⟩ : Zd)]) hO₅.fr (by rw [(zc (v := .ag (Za.c (⟨x, x1⟩ : Zd))) rfl ev_nil)]; rfl) rfl) ?_)))))))
      rintro v₆ k₅ ⟨r₁, f₁, hW⟩
      have hO₆ : Own B h k₅ [eSl Za v₄ l2, eSl Za v₆ [(⟨x, x1⟩ : Zd)]] := hW
      obtain ⟨c₄, hp⟩ := Zo hp
      refine zq (hO₆.app (E := Za) (bytes := 16) 0 hO₆.fr rfl (hO₆.sl 1 rfl : Sl Za k₅ v₆ [(⟨x, x1⟩ : Zd)]) rfl rfl (fun _ => rfl) c₄ (by decide)) ?_
      rintro v₇ k₆ ⟨f₂, hW⟩
      have hO₇ : Own B h k₆ [eSl Za v₇ (l2 ++ [(⟨x, x1⟩ : Zd)]), eSl Za v₆ [(⟨x, x1⟩ : Zd)]] := hW
      refine Zb (a_mv (v := v₇) rfl) (Zh (zL (Ze (W_rg ?_))))
      obtain ⟨c₅, hp⟩ := Zo hp
      refine Zb (a_add (a := x1) (b := 1) q₄_18 rfl c₅) (Zb (a_mv (v := .i .i64 (x1 + 1)) rfl) (Zh ?_))
      have hp := Option.some.inj hp; subst hp
      exact (Or.inl (Exists.intro (l2 ++ [(⟨x, x1⟩ : Zd)], x1 + 1) (And.intro rfl (And.intro rfl (Exists.intro v₇ (And.intro (rfl) (And.intro (q₄_4) (And.intro (q₄_7) (And.intro (q₄_8) (And.intro (q₄_9) (And.intro (q₄_17) (And.intro (rfl) (hO₇.pick [0] rfl (by decide))))))))))))))
     ·refine W_cF (t := (decide (x1 < (-(gi turns (x : Int).toNat))))) rfl b₃ ?_
      refine W_ex (zC ?_)
      have hp := Option.some.inj hp; subst hp
      refine (Or.inr (Exists.intro l2 (And.intro rfl (And.intro (fun h => nomatch h) (fun he => ?_)))))
      subst he; exact (And.intro rfl (Exists.intro v₄ (And.intro (q₄_3) (And.intro (q₄_7) (And.intro (q₄_8) (And.intro (q₄_9) (hO₅.pick [0] rfl (by decide))))))))
    intro e₂ q₃ k₃ hJ₂
    obtain ⟨l3, rfl⟩ : ∃ x, x = o₃ := ⟨_, rfl⟩
    obtain ⟨rfl, v₅, q₃_3, q₃_7, q₃_8, q₃_9, hO₄⟩ := hJ₂
    refine zS (zL (Ze (W_rg ?_)))
    obtain ⟨c₆, hp⟩ := Zo hp
    refine Zb (a_add (a := x) (b := 1) q₃_9 rfl c₆) (Zb (a_mv (v := .i .i64 (x + 1)) rfl) (Zh ?_))
    have hp := Option.some.inj hp; subst hp
    exact (Or.inl (Exists.intro (l3, x + 1) (And.intro rfl (And.intro rfl (Exists.intro v₅ (And.intro (q₃_3) (And.intro (q₃_7) (And.intro (q₃_8) (And.intro (rfl) (hO₄.pick [0] rfl (by decide)))))))))))
  ·refine W_cF (t := (decide (x < (turns.length : Int)))) rfl b₁ ?_
   refine W_ex (zC ?_)
   have hp := Option.some.inj hp; subst hp
   refine (Or.inr (Exists.intro l (And.intro rfl (And.intro (fun h => nomatch h) (fun he => ?_)))))
   subst he; exact (And.intro rfl (Exists.intro v₂ (And.intro (q₂_3) (hO₃.pick [0] rfl (by decide)))))
 intro e₁ q₁ k₁ hJ₁
 obtain ⟨l1, rfl⟩ : ∃ x, x = o₁ := ⟨_, rfl⟩
 obtain ⟨rfl, v₃, q₁_3, hO₁⟩ := hJ₁
 refine zS (Ze (W_sq (W_rg (Zb (a_mv (v := v₃) q₁_3) (Zb (a_mv (v := v₃) rfl) (Zh (Ze ?_)))))))
 refine W_rt (Ret_r (rs_t (n := 2) (v := v₃) rfl rs_nil) ?_)
 have hp := Option.some.inj hp; subst hp
 exact (Exists.intro v₃ (And.intro rfl (hO₁.pick [0] rfl (by decide))))

theorem Zag.ok {h : Hp} {turns : List Int} {v_turns : V} (s_turns : Sl eInt h v_turns turns) {r : (List Int)} (hp : Zag turns = some r) :
  ∃ u k', Is G 62 [v_turns] h u k' ∧ ∃ (v₁ : V), v₁ = u ∧ Own (fun r => r < h.n) h k' [eSl eInt v₁ r] := by
 refine WC.is (WC_of G_F_kitty_sums ?_)
 unfold Zag at hp
 let B : Nat → Prop := (fun r => r < h.n)
 have hO : Own B h h [] := Own.start0 h
 refine W_sq (W_rg (Zb (a_mv (v := .sn) rfl) (Zh (Ze (W_sq (W_rg (Zb (a_mv (v := v_turns) rfl) ?_)))))))
 refine Zb (a_len (hO.rd0 s_turns.rd : Sl eInt h v_turns turns) rfl) ?_
 obtain ⟨c₁, hp⟩ := Zo hp
 refine Zb (a_add (a := (turns.length : Int)) (b := 1) rfl rfl c₁) ?_
 obtain ⟨c₂, hp⟩ := Zo hp
 refine zq (hO.mks (E := eInt) (y := (0 : Int)) (bytes := 8) (z := ((turns.length : Int) + 1)) hO.fr rfl rfl rfl c₂ (by decide)) ?_
 rintro v₂ k₁ ⟨r₁, f₁, hW⟩
 have hO₁ : Own B h k₁ [eSl eInt v₂ (List.replicate ((turns.length : Int) + 1 : Int).toNat (0 : Int))] := hW
 refine Zb (a_mv (v := v₂) rfl) (Zh (Ze (W_sq (W_sq (W_rg (Zb (a_mv (v := v_turns) rfl) (Zb (a_len (hO₁.rd0 s_turns.rd : Sl eInt k₁ v_turns turns) rfl) ?_)))))))
 refine Zb (a_mv (v := .i .i64 0) rfl) (Zh (Ze (W_bl ?_)))
 obtain ⟨o₁, ho₁, hp⟩ := Zt hp
 refine W.mono (Q := fun e fr k => match (generalizing := false) o₁ with
   | l1 => e = (.exit 0) ∧ fr 3 = v₂ ∧ Own B h k [eSl eInt v₂ l1]) ?_ ?_
 ·clear hp
  refine z3 (fun st fr k => match st with | (l, x) => fr 3 = v₂ ∧ fr 10 = v_turns ∧ fr 11 = .i .i64 (turns.length : Int) ∧ fr 12 = .i .i64 x ∧ Own B h k [eSl eInt v₂ l]) ho₁ (s := (List.replicate ((turns.length : Int) + 1 : Int).toNat (0 : Int), 0)) (And.intro (rfl) (And.intro (rfl) (And.intro (rfl) (And.intro (rfl) (hO₁.pick [0] rfl (by decide)))))) ?_
  rintro ⟨l, x⟩ q₂ k₃ ⟨q₂_3, q₂_10, q₂_11, q₂_12, hO₃⟩ o₂ hp
  dsimp only [Zag.s0] at hp
  refine W_sq (W_rg (Zb (a_lss (a := x) (b := (turns.length : Int)) q₂_12 q₂_11) (Zh (Ze (W_sq ?_)))))
  rcases Zv hp with ⟨b₁, hp⟩ | ⟨b₁, hp⟩
  ·refine W_cT (t := (decide (x < (turns.length : Int)))) rfl b₁ ?_
   refine W_sk (Ze (W_sq (W_bl (W_sq (W_rg (Zb (a_mv (v := .i .i64 x) q₂_12) ?_))))))
   obtain ⟨c₃, hp⟩ := Zo hp
   refine Zb (a_ixa (E := eInt) (z := x) (hO₃.rd0 s_turns.rd : Sl eInt k₃ v_turns turns) q₂_10 q₂_12 c₃) (Zb (zH (w := .i .i64 (gi turns (x : Int).toNat)) (hO₃.rd0 s_turns.rd : Sl eInt k₃ v_turns turns) rfl (Zq c₃) rfl) (Zb (a_mv (v := .i .i64 x) rfl) (Zb (a_mv (v := .i .i64 (gi turns (x : Int).toNat)) rfl) (Zh (Ze (W_rg (Zb (a_mv (v := v₂) q₂_3) ?_)))))))
   refine Zb (a_mv (v := .i .i64 x) rfl) ?_
   obtain ⟨c₄, hp⟩ := Zo hp
   refine Zb (a_add (a := x) (b := 1) rfl rfl c₄) (Zb (a_mv (v := v₂) q₂_3) (Zb (a_mv (v := .i .i64 x) rfl) ?_))
   obtain ⟨c₅, hp⟩ := Zo hp
   refine Zb (a_ixa (E := eInt) (z := x) (hO₃.sl 0 rfl : Sl eInt k₃ v₂ l) rfl rfl c₅) (Zb (zH (w := .i .i64 (gi l (x : Int).toNat)) (hO₃.sl 0 rfl : Sl eInt k₃ v₂ l) rfl (Zq c₅) rfl) (Zb (a_mv (v := .i .i64 (gi turns (x : Int).toNat)) rfl) ?_))
   obtain ⟨c₆, hp⟩ := Zo hp
   refine Zb (a_add (a := (gi l (x : Int).toNat)) (b := (gi turns (x : Int).toNat)) rfl rfl c₆) ?_
   obtain ⟨c₇, hp⟩ := Zo hp
   refine Zb (a_ixa (E := eInt) (z := (x + 1)) (hO₃.sl 0 rfl : Sl eInt k₃ v₂ l) rfl rfl c₇) (zq (hO₃.ste (E := eInt) (y := ((gi l (x : Int).toNat) + (gi turns (x : Int).toNat))) (ws := [.i .i64 ((gi l (x : Int).toNat) + (gi turns (x : Int).toNat))]) 0 rfl rfl (Zq c₇) rfl rfl ⟨rfl, Nat.le_of_ble_eq_true rfl, rfl⟩ rfl) ?_)
   rintro _ k₄ ⟨rfl, f₂, m₁, hW⟩
   have hO₄ : Own B h k₄ [eSl eInt v₂ (l.set (x + 1 : Int).toNat ((gi l (x : Int).toNat) + (gi turns (x : Int).toNat)))] := hW
   refine Zh (zL (Ze (W_rg (Zb (a_add (a := x) (b := 1) q₂_12 rfl c₄) (Zb (a_mv (v := .i .i64 (x + 1)) rfl) (Zh ?_))))))
   have hp := Option.some.inj hp; subst hp
   exact (Or.inl (Exists.intro (l.set (x + 1 : Int).toNat ((gi l (x : Int).toNat) + (gi turns (x : Int).toNat)), x + 1) (And.intro rfl (And.intro rfl (And.intro (q₂_3) (And.intro (q₂_10) (And.intro (q₂_11) (And.intro (rfl) (hO₄.pick [0] rfl (by decide))))))))))
  ·refine W_cF (t := (decide (x < (turns.length : Int)))) rfl b₁ ?_
   refine W_ex (zC ?_)
   have hp := Option.some.inj hp; subst hp
   refine (Or.inr (Exists.intro l (And.intro rfl (And.intro (fun h => nomatch h) (fun he => ?_)))))
   subst he; exact (And.intro rfl (And.intro (q₂_3) (hO₃.pick [0] rfl (by decide))))
 intro e₁ q₁ k₂ hJ₁
 obtain ⟨l1, rfl⟩ : ∃ x, x = o₁ := ⟨_, rfl⟩
 obtain ⟨rfl, q₁_3, hO₂⟩ := hJ₁
 refine zS (Ze (W_sq (W_rg (Zb (a_mv (v := v₂) q₁_3) (Zb (a_mv (v := v₂) rfl) (Zh (Ze ?_)))))))
 refine W_rt (Ret_r (rs_t (n := 2) (v := v₂) rfl rs_nil) ?_)
 have hp := Option.some.inj hp; subst hp
 exact (Exists.intro v₂ (And.intro rfl (hO₂.pick [0] rfl (by decide))))

theorem Za3.ok {h : Hp} {l : List Int} {a : Zd} {b : Zd} {v_l : V} (s_l : Sl eInt h v_l l) {r : Int} (hp : Za3 l a b = some r) :
  ∃ u k', Is G 61 [v_l, .ag (Za.c a), .ag (Za.c b)] h u k' ∧ V.i .i64 r = u ∧ Own (fun r => r < h.n) h k' [] := by
 refine WC.is (WC_of G_F_kitty_rot ?_)
 unfold Za3 at hp
 let B : Nat → Prop := (fun r => r < h.n)
 have hO : Own B h h [] := Own.start0 h
 refine W_sq (W_rg (zq (hO.boxd (v := .ag (Za.c a)) (cs := Za.c a) hO.fr rfl rfl) ?_))
 rintro _ k₁ ⟨r₁, rfl, n₁, f₁, hW⟩
 have hO₁ : Own B h k₁ [eBox r₁ (Za.c a)] := hW
 refine zq (hO₁.boxd (v := .ag (Za.c b)) (cs := Za.c b) hO₁.fr rfl rfl) ?_
 rintro _ k₂ ⟨r₂, rfl, n₂, f₂, hW⟩
 have hO₂ : Own B h k₂ [eBox r₁ (Za.c a), eBox r₂ (Za.c b)] := hW
 refine Zb (a_mv (v := .i .i64 0) rfl) (Zh (Ze (W_sq (W_qd ?_))))
 have hW := hO₂.bump 18
 have hO₃ : Own B h (k₂.bump 18) [eBox r₁ (Za.c a), eBox r₂ (Za.c b)] := hW
 refine Z8 rfl (a_mv (v := v_l) rfl) (Z8 rfl (a_fa (r := r₂) (o := 0) (o' := 0) rfl rfl) (Z8 rfl (Zaf (cs := (Za.c b)) (v := .i .i64 b.At) (hO₃.box 1 rfl) rfl rfl) ?_))
 obtain ⟨c₁, hp⟩ := Zo hp
 refine Z8 rfl (a_ixa (E := eInt) (z := b.At) (hO₃.rd0 s_l.rd : Sl eInt (k₂.bump 18) v_l l) rfl rfl c₁) (Z8 rfl (zH (w := .i .i64 (gi l (b.At : Int).toNat)) (hO₃.rd0 s_l.rd : Sl eInt (k₂.bump 18) v_l l) rfl (Zq c₁) rfl) (Z8 rfl (a_fa (r := r₂) (o := 0) (o' := 1) rfl rfl) (Z8 rfl (Zaf (cs := (Za.c b)) (v := .i .i64 b.Part) (hO₃.box 1 rfl) rfl rfl) ?_)))
 obtain ⟨c₂, hp⟩ := Zo hp
 refine Z8 rfl (a_sub (a := (gi l (b.At : Int).toNat)) (b := b.Part) rfl rfl c₂) (Z8 rfl (a_mv (v := v_l) rfl) (Z8 rfl (a_fa (r := r₁) (o := 0) (o' := 0) rfl rfl) (Z8 rfl (Zaf (cs := (Za.c a)) (v := .i .i64 a.At) (hO₃.box 0 rfl) rfl rfl) ?_)))
 obtain ⟨c₃, hp⟩ := Zo hp
 refine Z8 rfl (a_ixa (E := eInt) (z := a.At) (hO₃.rd0 s_l.rd : Sl eInt (k₂.bump 18) v_l l) rfl rfl c₃) (Z8 rfl (zH (w := .i .i64 (gi l (a.At : Int).toNat)) (hO₃.rd0 s_l.rd : Sl eInt (k₂.bump 18) v_l l) rfl (Zq c₃) rfl) (Z8 rfl (a_fa (r := r₁) (o := 0) (o' := 1) rfl rfl) (Z8 rfl (Zaf (cs := (Za.c a)) (v := .i .i64 a.Part) (hO₃.box 0 rfl) rfl rfl) ?_)))
 obtain ⟨c₄, hp⟩ := Zo hp
 refine Z8 rfl (a_sub (a := (gi l (a.At : Int).toNat)) (b := a.Part) rfl rfl c₄) ?_
 obtain ⟨c₅, hp⟩ := Zo hp
 refine Z8 rfl (a_sub (a := ((gi l (b.At : Int).toNat) - b.Part)) (b := ((gi l (a.At : Int).toNat) - a.Part)) rfl rfl c₅) (Z8 rfl (a_mv (v := .i .i64 (((gi l (b.At : Int).toNat) - b.Part) - ((gi l (a.At : Int).toNat) - a.Part))) rfl) (zQ (Ze (W_sq (W_sq (W_rg (Zb (a_fa (r := r₂) (o := 0) (o' := 0) rfl rfl) ?_)))))))
 refine Zb (Zaf (cs := (Za.c b)) (v := .i .i64 b.At) (hO₃.box 1 rfl) rfl rfl) (Zb (a_fa (r := r₁) (o := 0) (o' := 0) rfl rfl) (Zb (Zaf (cs := (Za.c a)) (v := .i .i64 a.At) (hO₃.box 0 rfl) rfl rfl) (Zb (a_lss (a := b.At) (b := a.At) rfl rfl) (Zb (a_mv (v := .b (decide (b.At < a.At))) rfl) ?_))))
 refine zX 13 (fun fr' k' => (k₂.bump 18) = k' ∧ fr' 43 = .b ((decide (b.At < a.At)) || ((decide (b.At = a.At)) && (decide (b.Part < a.Part)))) ∧ fr' 0 = v_l ∧ fr' 7 = .i .i64 (((gi l (b.At : Int).toNat) - b.Part) - ((gi l (a.At : Int).toNat) - a.Part))) ?_ ?_
 ·rcases bc (decide (b.At < a.At)) with b₁ | b₁
  ·skip
   refine WO_off rfl b₁ (WO_off rfl b₁ (WO_off rfl b₁ (WO_off rfl b₁ (WO_off rfl b₁ (WO_off rfl b₁ (WO_un rfl (WO_un rfl ?_)))))))
   refine WO_un rfl (WO_un rfl (WO_un rfl (WO_off rfl b₁ (Zb (zk (t := (decide (b.At < a.At))) (v := .b ((decide (b.At < a.At)) || ((decide (b.At = a.At)) && (decide (b.Part < a.Part))))) rfl b₁ (Eq.trans (b := V.b true) rfl (ZaA b₁))) (Zh ?_)))))
   exact ⟨rfl, rfl, rfl, rfl⟩
  ·skip
   refine WO_on rfl b₁ (Zb (a_fa (r := r₂) (o := 0) (o' := 0) rfl rfl) (WO_on rfl b₁ (Zb (Zaf (cs := (Za.c b)) (v := .i .i64 b.At) (hO₃.box 1 rfl) rfl rfl) (WO_on rfl b₁ (Zb (a_fa (r := r₁) (o := 0) (o' := 0) rfl rfl) (WO_on rfl b₁ (Zb (Zaf (cs := (Za.c a)) (v := .i .i64 a.At) (hO₃.box 0 rfl) rfl rfl) ?_)))))))
   refine WO_on rfl b₁ (Zb (a_eqI (a := b.At) (b := a.At) rfl rfl) (WO_on rfl b₁ (Zb (a_mv (v := .b (decide (b.At = a.At))) rfl) ?_)))
   refine zX 6 (fun fr' k' => (k₂.bump 18) = k' ∧ fr' 42 = .b ((decide (b.At = a.At)) && (decide (b.Part < a.Part))) ∧ fr' 0 = v_l ∧ fr' 30 = .b (decide (b.At < a.At)) ∧ fr' 7 = .i .i64 (((gi l (b.At : Int).toNat) - b.Part) - ((gi l (a.At : Int).toNat) - a.Part))) ?_ ?_
   ·rcases bc (decide (b.At = a.At)) with b₂ | b₂
    ·skip
     refine WO_on rfl b₂ (Zb (a_fa (r := r₂) (o := 0) (o' := 1) rfl rfl) (WO_on rfl b₂ (Zb (Zaf (cs := (Za.c b)) (v := .i .i64 b.Part) (hO₃.box 1 rfl) rfl rfl) (WO_on rfl b₂ (Zb (a_fa (r := r₁) (o := 0) (o' := 1) rfl rfl) (WO_on rfl b₂ (Zb (Zaf (cs := (Za.c a)) (v := .i .i64 a.Part) (hO₃.box 0 rfl) rfl rfl) ?_)))))))
     refine WO_on rfl b₂ (Zb (a_lss (a := b.Part) (b := a.Part) rfl rfl) (WO_on rfl b₁ (Zb (zk (t := (decide (b.At = a.At))) (v := .b ((decide (b.At = a.At)) && (decide (b.Part < a.Part)))) rfl b₂ (Eq.trans (b := V.b (decide (b.Part < a.Part))) rfl (ZaD b₂))) (Zh ?_))))
     exact ⟨rfl, rfl, rfl, rfl, rfl⟩
    ·skip
     refine WO_off rfl b₂ (WO_off rfl b₂ (WO_off rfl b₂ (WO_off rfl b₂ (WO_off rfl b₂ (WO_on rfl b₁ (Zb (zi (t := (decide (b.At = a.At))) (v := .b ((decide (b.At = a.At)) && (decide (b.Part < a.Part)))) rfl b₂ (Eq.trans (b := V.b false) rfl (Za2 b₂))) (Zh ?_)))))))
     exact ⟨rfl, rfl, rfl, rfl, rfl⟩
   rintro frg₁ _ ⟨rfl, g₁_42, g₁_0, g₁_30, g₁_7⟩
   refine Zb (zi (t := (decide (b.At < a.At))) (v := .b ((decide (b.At < a.At)) || ((decide (b.At = a.At)) && (decide (b.Part < a.Part))))) g₁_30 b₁ (Eq.trans (b := V.b ((decide (b.At = a.At)) && (decide (b.Part < a.Part)))) g₁_42 (ZaH b₁))) (Zh ?_)
   exact ⟨rfl, rfl, g₁_0, g₁_7⟩
 rintro frg₂ _ ⟨rfl, g₂_43, g₂_0, g₂_7⟩
 refine Zh (Ze ?_)
 rcases Zv hp with ⟨b₃, hp⟩ | ⟨b₃, hp⟩
 ·refine W_cT (t := ((decide (b.At < a.At)) || ((decide (b.At = a.At)) && (decide (b.Part < a.Part))))) g₂_43 b₃ ?_
  refine W_rg (Zb (a_mv (v := .i .i64 (((gi l (b.At : Int).toNat) - b.Part) - ((gi l (a.At : Int).toNat) - a.Part))) g₂_7) (Zb (a_mv (v := v_l) g₂_0) (Zb (a_mv (v := v_l) g₂_0) (Zb (a_len (hO₃.rd0 s_l.rd : Sl eInt (k₂.bump 18) v_l l) rfl) ?_))))
  obtain ⟨c₆, hp⟩ := Zo hp
  refine Zb (a_sub (a := (l.length : Int)) (b := 1) rfl rfl c₆) ?_
  obtain ⟨c₇, hp⟩ := Zo hp
  refine Zb (a_ixa (E := eInt) (z := ((l.length : Int) - 1)) (hO₃.rd0 s_l.rd : Sl eInt (k₂.bump 18) v_l l) rfl rfl c₇) (Zb (zH (w := .i .i64 (gi l ((l.length : Int) - 1 : Int).toNat)) (hO₃.rd0 s_l.rd : Sl eInt (k₂.bump 18) v_l l) rfl (Zq c₇) rfl) ?_)
  obtain ⟨c₈, hp⟩ := Zo hp
  refine Zb (a_add (a := (((gi l (b.At : Int).toNat) - b.Part) - ((gi l (a.At : Int).toNat) - a.Part))) (b := (gi l ((l.length : Int) - 1 : Int).toNat)) rfl rfl c₈) (Zb (a_mv (v := .i .i64 ((((gi l (b.At : Int).toNat) - b.Part) - ((gi l (a.At : Int).toNat) - a.Part)) + (gi l ((l.length : Int) - 1 : Int).toNat))) rfl) (Zh (Ze (W_sq (W_rg (Zb (a_mv (v := .i .i64 ((((gi l (b.At : Int).toNat) - b.Part) - ((gi l (a.At : Int).toNat) - a.Part)) + (gi l ((l.length : Int) - 1 : Int).toNat))) rfl) (Zb (a_mv (v := .i .i64 ((((gi l (b.At : Int).toNat) - b.Part) - ((gi l (a.At : Int).toNat) - a.Part)) + (gi l ((l.length : Int) - 1 : Int).toNat))) rfl) ?_)))))))
  refine Zh (Ze (W_rt (Ret_r (rs_t (n := 6) (v := .i .i64 ((((gi l (b.At : Int).toNat) - b.Part) - ((gi l (a.At : Int).toNat) - a.Part)) + (gi l ((l.length : Int) - 1 : Int).toNat))) rfl rs_nil) ?_)))
  have hp := Option.some.inj hp; subst hp
  exact (And.intro rfl (hO₃.pick [] rfl (by decide)))
 ·refine W_cF (t := ((decide (b.At < a.At)) || ((decide (b.At = a.At)) && (decide (b.Part < a.Part))))) g₂_43 b₃ ?_
  refine W_sk (Ze (W_sq (W_rg (Zb (a_mv (v := .i .i64 (((gi l (b.At : Int).toNat) - b.Part) - ((gi l (a.At : Int).toNat) - a.Part))) g₂_7) (Zb (a_mv (v := .i .i64 (((gi l (b.At : Int).toNat) - b.Part) - ((gi l (a.At : Int).toNat) - a.Part))) rfl) (Zh (Ze ?_)))))))
  refine W_rt (Ret_r (rs_t (n := 6) (v := .i .i64 (((gi l (b.At : Int).toNat) - b.Part) - ((gi l (a.At : Int).toNat) - a.Part))) rfl rs_nil) ?_)
  have hp := Option.some.inj hp; subst hp
  exact (And.intro rfl (hO₃.pick [] rfl (by decide)))

end Mu
