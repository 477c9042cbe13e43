/- The code comes to what was worked out. -/
import Derived.Test.YtdefkboekpjiiaaMuDf
import Derived.Test.YtdefkboekpjiiaaMuPa
import Derived.Test.YtdefkboekpjiiaaMuC0
set_option linter.unusedVariables false
set_option linter.unnecessarySimpa false
set_option linter.unusedSimpArgs false
set_option maxHeartbeats 2000000
set_option maxRecDepth 10000
namespace Mu
open Go (IntKind BinOp UnOp)
theorem zy.ok {h : Hp} {x : List Int} {count : Int} {v_x : V} (s_x : Sl eInt h v_x x) {r : (List Int)} (hp : zy x count = some r) :
  ∃ u k', Is G 83 [v_x, .i .i64 count] h u k' ∧ ∃ (v₁ : V), v₁ = u ∧ Own (fun r => r < h.n) h k' [eSl eInt v₁ r] := by
 refine WC.is (WC_of G_F_slices_Repeat_int ?_)
 unfold zy at hp
 let B : Nat → Prop := (fun r => r < h.n)
 have hO : Own B h h [] := Own.start0 h
 refine W_sq (W_rg (Za (a_mv (v := .sn) rfl) (Zf (Zd (W_sq (W_sq (W_rg ?_)))))))
 refine Za (a_mv (v := .i .i64 count) rfl) (Za (a_lss (a := count) (b := 0) rfl rfl) (Zf (Zd ?_)))
 obtain ⟨o₁, ho₁, hp⟩ := Zv hp
 refine W.mono (Q := fun e fr k => match (generalizing := false) o₁ with
   | _ => e = .normal ∧ fr 0 = v_x ∧ fr 1 = .i .i64 count ∧ Own B h k []) ?_ ?_
 ·clear hp; have hp := ho₁; clear ho₁
  rcases Zu hp with ⟨b₁, hp⟩ | ⟨b₁, hp⟩
  ·refine W_cT (t := (decide (count < 0))) rfl b₁ ?_
   exact nomatch hp
  ·refine W_cF (t := (decide (count < 0))) rfl b₁ ?_
   refine W_sk ?_
   have hp := Option.some.inj hp; subst hp
   exact (And.intro rfl (And.intro (rfl) (And.intro (rfl) (hO.pick [] rfl (by decide)))))
 intro e₁ q₁ k₁ hJ₁
 obtain ⟨rfl, q₁_0, q₁_1, hO₁⟩ := hJ₁
 refine Zd (W_sq (W_rg (Za (a_mv (v := v_x) q₁_0) (Za (a_len (hO₁.rd0 s_x.rd : Sl eInt k₁ v_x x) rfl) ?_))))
 obtain ⟨c₁, hp⟩ := Zk hp
 refine Za (a_conv (a := (x.length : Int)) rfl c₁) (Za (a_mv (v := .i .i64 count) q₁_1) ?_)
 obtain ⟨c₂, hp⟩ := Zk hp
 refine Za (a_conv (a := count) rfl c₂) ?_
 obtain ⟨⟨x1, x2⟩, hx₁, hp⟩ := Zv hp
 obtain ⟨u₁, k₂, ca₁, rfl, hW₁⟩ := Za2.ok (h := k₁)   hx₁
 refine zS (id := 89) (caps := []) rfl (Z2 (v := .i .u64 (x.length : Int)) rfl (Z2 (v := .i .u64 count) rfl zi)) ca₁ ?_
 have hO₂ : Own B h k₂ [] := hO₁.call hW₁ rfl
 refine Za (a_mv (v := .tu [.i .u64 x1, .i .u64 x2]) rfl) (Za (Zah (vs := [.i .u64 x1, .i .u64 x2]) (v := .i .u64 x1) rfl rfl) (Za (Zah (vs := [.i .u64 x1, .i .u64 x2]) (v := .i .u64 x2) rfl rfl) (Za (a_mv (v := .i .u64 x1) rfl) (Za (a_mv (v := .i .u64 x2) rfl) (Zf (Zd (W_sq ?_)))))))
 refine W_sq (W_rg (Za (a_mv (v := .i .u64 x1) rfl) (Za (a_gtr (a := x1) (b := 0) rfl rfl) (Za (a_mv (v := .b (decide (0 < x1))) rfl) ?_))))
 refine zB 3 (fun fr' k' => k₂ = k' ∧ fr' 26 = .b ((decide (0 < x1)) || (decide (9223372036854775807 < x2))) ∧ fr' 0 = v_x ∧ fr' 6 = .i .u64 x2) ?_ ?_
 ·rcases bc (decide (0 < x1)) with b₂ | b₂
  ·skip
   refine WO_off rfl b₂ (WO_off rfl b₂ (Za (ZW (t := (decide (0 < x1))) (v := .b ((decide (0 < x1)) || (decide (9223372036854775807 < x2)))) rfl b₂ (Eq.trans (b := V.b true) rfl (Zar b₂))) (Zf ?_)))
   exact ⟨rfl, rfl, q₁_0, rfl⟩
  ·skip
   refine WO_on rfl b₂ (Za (a_mv (v := .i .u64 x2) rfl) (WO_on rfl b₂ (Za (a_gtr (a := x2) (b := 9223372036854775807) rfl rfl) (Za (ZT (t := (decide (0 < x1))) (v := .b ((decide (0 < x1)) || (decide (9223372036854775807 < x2)))) rfl b₂ (Eq.trans (b := V.b (decide (9223372036854775807 < x2))) rfl (Zaz b₂))) (Zf ?_)))))
   exact ⟨rfl, rfl, q₁_0, rfl⟩
 rintro frg₁ _ ⟨rfl, g₁_26, g₁_0, g₁_6⟩
 refine Zf (Zd ?_)
 obtain ⟨o₂, ho₂, hp⟩ := Zv hp
 refine W.mono (Q := fun e fr k => match (generalizing := false) o₂ with
   | _ => e = .normal ∧ fr 0 = v_x ∧ fr 6 = .i .u64 x2 ∧ Own B h k []) ?_ ?_
 ·clear hp; have hp := ho₂; clear ho₂
  rcases Zu hp with ⟨b₃, hp⟩ | ⟨b₃, hp⟩
  ·refine W_cT (t := ((decide (0 < x1)) || (decide (9223372036854775807 < x2)))) g₁_26 b₃ ?_
   exact nomatch hp
  ·refine W_cF (t := ((decide (0 < x1)) || (decide (9223372036854775807 < x2)))) g₁_26 b₃ ?_
   refine W_sk ?_
   have hp := Option.some.inj hp; subst hp
   exact (And.intro rfl (And.intro (g₁_0) (And.intro (g₁_6) (hO₂.pick [] rfl (by decide)))))
 intro e₂ q₂ k₃ hJ₂
 obtain ⟨rfl, q₂_0, q₂_6, hO₃⟩ := hJ₂
 refine Zd (W_sq (W_rg (Za (a_mv (v := .i .u64 x2) q₂_6) ?_)))
 obtain ⟨c₃, hp⟩ := Zk hp
 refine Za (a_conv (a := x2) rfl c₃) ?_
 obtain ⟨c₄, hp⟩ := Zk hp
 refine z8 (hO₃.mks (E := eInt) (y := (0 : Int)) (bytes := 8) (z := x2) hO₃.fr rfl rfl rfl c₄ (by decide)) ?_
 rintro v₂ k₄ ⟨r₁, f₁, hW⟩
 have hO₄ : Own B h k₄ [eSl eInt v₂ (List.replicate (x2 : Int).toNat (0 : Int))] := hW
 refine Za (a_mv (v := v₂) rfl) (Zf (Zd (W_sq (W_rg (Za (a_mv (v := v₂) rfl) (Za (a_mv (v := v_x) q₂_0) (z8 (hO₄.cpy (E := eInt) 0 rfl (hO₄.rd0 s_x.rd : Sl eInt k₄ v_x x) rfl rfl (fun _ => rfl)) ?_)))))))
 rintro _ k₅ ⟨rfl, f₂, hW⟩
 have hO₅ : Own B h k₅ [eSl eInt v₂ (x.take (List.replicate (x2 : Int).toNat (0 : Int)).length ++ (List.replicate (x2 : Int).toNat (0 : Int)).drop x.length)] := hW
 refine Za (a_mv (v := .i .i64 ((min x.length (List.replicate (x2 : Int).toNat (0 : Int)).length : Nat) : Int)) rfl) (Zf (Zd (W_sq (W_bl ?_))))
 obtain ⟨o₃, ho₃, hp⟩ := Zv hp
 refine W.mono (Q := fun e fr k => match (generalizing := false) o₃ with
   | newslice1 => e = (.exit 0) ∧ fr 7 = v₂ ∧ Own B h k [eSl eInt v₂ newslice1]) ?_ ?_
 ·clear hp
  refine zu (fun st fr k => match st with | (newslice, n) => fr 7 = v₂ ∧ fr 8 = .i .i64 n ∧ Own B h k [eSl eInt v₂ newslice]) ho₃ (s := (x.take (List.replicate (x2 : Int).toNat (0 : Int)).length ++ (List.replicate (x2 : Int).toNat (0 : Int)).drop x.length, ((min x.length (List.replicate (x2 : Int).toNat (0 : Int)).length : Nat) : Int))) (And.intro (rfl) (And.intro (rfl) (hO₅.pick [0] rfl (by decide)))) ?_
  rintro ⟨newslice, n⟩ q₄ k₇ ⟨q₄_7, q₄_8, hO₇⟩ o₄ hp
  dsimp only [zy.s0] at hp
  refine W_sq (W_sq (W_rg (Za (a_mv (v := .i .i64 n) q₄_8) (Za (a_mv (v := v₂) q₄_7) (Za (a_len (hO₇.sl 0 rfl : Sl eInt k₇ v₂ newslice) rfl) (Za (a_lss (a := n) (b := (newslice.length : Int)) rfl rfl) (Zf ?_)))))))
  refine Zd ?_
  rcases Zu hp with ⟨b₄, hp⟩ | ⟨b₄, hp⟩
  ·refine W_cT (t := (decide (n < (newslice.length : Int)))) rfl b₄ ?_
   refine W_sk (Zd (W_bl (W_dr ?_)))
   have hW := hO₇.bump 10
   have fr₁ := Fresh.start k₇ 10
   have nb₁ : ∀ {i : Nat}, h.n ≤ k₇.n + i := Nat.le_trans hO₇.n (Nat.le_add_right _ _)
   have hO₈ : Own B h (k₇.bump 10) [eSl eInt v₂ newslice] := hW
   refine zH (a_mv (v := .i .i64 n) q₄_8) (zH (a_mv (v := v₂) q₄_7) (zH (a_mv (v := .i .i64 n) q₄_8) ?_))
   obtain ⟨c₅, hp⟩ := Zk hp
   refine zH (a_slcF (E := eInt) (z := n) (hO₈.sl 0 rfl : Sl eInt (k₇.bump 10) v₂ newslice) rfl rfl c₅) (zH (a_mv (v := v₂) q₄_7) (zH (a_mv (v := .i .i64 n) q₄_8) (zH (a_slcU (E := eInt) (z := n) (hO₈.sl 0 rfl : Sl eInt (k₇.bump 10) v₂ newslice) rfl rfl c₅) (ZaD (hO₈.cpyF (E := eInt) (z := n) 0 rfl c₅ (Sl.cutU (hO₈.sl 0 rfl : Sl eInt (k₇.bump 10) v₂ newslice) c₅ : Sl eInt (k₇.bump 10) (V.cut v₂ 0 (n : Int).toNat) (newslice.take (n : Int).toNat)) rfl rfl (fun _ => rfl)) ?_))))
   rintro _ k₉ z₁ ⟨rfl, f₃, hW⟩
   have fr₂ := fr₁.kept f₃ (by decide)
   have hO₉ : Own B h k₉ [eSl eInt v₂ (newslice.take (n : Int).toNat ++ ((newslice.take (n : Int).toNat).take (newslice.drop (n : Int).toNat).length ++ (newslice.drop (n : Int).toNat).drop (newslice.take (n : Int).toNat).length))] := hW
   obtain ⟨c₆, hp⟩ := Zk hp
   refine zH (a_add (a := n) (b := ((min (newslice.take (n : Int).toNat).length (newslice.drop (n : Int).toNat).length : Nat) : Int)) rfl rfl c₆) (zH (a_mv (v := .i .i64 (n + ((min (newslice.take (n : Int).toNat).length (newslice.drop (n : Int).toNat).length : Nat) : Int))) rfl) (WD_end ?_))
   refine And.intro ?_ ?_
   ·intro q hq
    cases hq
   refine z9 ?_
   have hp := Option.some.inj hp; subst hp
   exact (Or.inl (Exists.intro (newslice.take (n : Int).toNat ++ ((newslice.take (n : Int).toNat).take (newslice.drop (n : Int).toNat).length ++ (newslice.drop (n : Int).toNat).drop (newslice.take (n : Int).toNat).length), n + ((min (newslice.take (n : Int).toNat).length (newslice.drop (n : Int).toNat).length : Nat) : Int)) (And.intro rfl (And.intro rfl (And.intro (q₄_7) (And.intro (rfl) (hO₉.pick [0] rfl (by decide))))))))
  ·refine W_cF (t := (decide (n < (newslice.length : Int)))) rfl b₄ ?_
   refine W_ex (zz ?_)
   have hp := Option.some.inj hp; subst hp
   refine (Or.inr (Exists.intro newslice (And.intro rfl (And.intro (fun h => nomatch h) (fun he => ?_)))))
   subst he; exact (And.intro rfl (And.intro (q₄_7) (hO₇.pick [0] rfl (by decide))))
 intro e₃ q₃ k₆ hJ₃
 obtain ⟨newslice1, rfl⟩ : ∃ x, x = o₃ := ⟨_, rfl⟩
 obtain ⟨rfl, q₃_7, hO₆⟩ := hJ₃
 refine zI (Zd (W_sq (W_rg (Za (a_mv (v := v₂) q₃_7) (Za (a_mv (v := v₂) rfl) (Zf (Zd ?_)))))))
 refine W_rt (Ret_r (rs_t (n := 4) (v := v₂) rfl rs_nil) ?_)
 have hp := Option.some.inj hp; subst hp
 exact (Exists.intro v₂ (And.intro rfl (hO₆.pick [0] rfl (by decide))))

theorem z3.ok {h : Hp} {cells : List Zg} {v : Int} {v_cells : V} (s_cells : Sl Zb h v_cells cells) {r : (List Int) × (List Int)} (hp : z3 cells v = some r) :
  ∃ u k', Is G 67 [v_cells, .i .i64 v] h u k' ∧ ∃ (v₁ : V), ∃ (v₂ : V), V.tu [v₁, v₂] = u ∧ Own (fun r => r < h.n) h k' [eSl eInt v₁ r.1, eSl eInt v₂ r.2] := by
 refine WC.is (WC_of G_F_join_spread ?_)
 unfold z3 at hp
 let B : Nat → Prop := (fun r => r < h.n)
 have hO : Own B h h [] := Own.start0 h
 refine W_sq (W_rg (Za (a_mv (v := .sn) rfl) (Za (a_mv (v := .sn) rfl) (Zf (Zd (W_sq (W_rg ?_)))))))
 refine z8 (hO.bsl (E := eInt) (l := ([(-1)] : List Int)) hO.fr (by rw [(zq (v := .i .i64 (-1)) rfl ev_nil)]; rfl) rfl) ?_
 rintro v₃ k₁ ⟨r₁, f₁, hW⟩
 have hO₁ : Own B h k₁ [eSl eInt v₃ ([(-1)] : List Int)] := hW
 refine Za (a_mv (v := v_cells) rfl) (Za (a_len (hO₁.rd0 s_cells.rd : Sl Zb k₁ v_cells cells) rfl) ?_)
 obtain ⟨x, hx₁, hp⟩ := Zv hp
 obtain ⟨u₁, k₂, ca₁, v₄, rfl, hW₁⟩ := zy.ok (h := k₁)  (hO₁.sl 0 rfl : Sl eInt k₁ v₃ ([(-1)] : List Int)) hx₁
 refine zS (id := 83) (caps := []) rfl (Z2 (v := v₃) rfl (Z2 (v := .i .i64 (cells.length : Int)) rfl zi)) ca₁ ?_
 have hO₂ : Own B h k₂ [eSl eInt v₃ ([(-1)] : List Int), eSl eInt v₄ x] := hO₁.call hW₁ rfl
 refine z8 (hO₂.bsl (E := eInt) (l := ([(-1)] : List Int)) hO₂.fr (by rw [(zq (v := .i .i64 (-1)) rfl ev_nil)]; rfl) rfl) ?_
 rintro v₅ k₃ ⟨r₂, f₂, hW⟩
 have hO₃ : Own B h k₃ [eSl eInt v₃ ([(-1)] : List Int), eSl eInt v₄ x, eSl eInt v₅ ([(-1)] : List Int)] := hW
 refine Za (a_mv (v := v_cells) rfl) (Za (a_len (hO₃.rd0 s_cells.rd : Sl Zb k₃ v_cells cells) rfl) ?_)
 obtain ⟨x1, hx₂, hp⟩ := Zv hp
 obtain ⟨u₂, k₄, ca₂, v₆, rfl, hW₂⟩ := zy.ok (h := k₃)  (hO₃.sl 2 rfl : Sl eInt k₃ v₅ ([(-1)] : List Int)) hx₂
 refine zS (id := 83) (caps := []) rfl (Z2 (v := v₅) rfl (Z2 (v := .i .i64 (cells.length : Int)) rfl zi)) ca₂ ?_
 have hO₄ : Own B h k₄ [eSl eInt v₃ ([(-1)] : List Int), eSl eInt v₄ x, eSl eInt v₅ ([(-1)] : List Int), eSl eInt v₆ x1] := hO₃.call hW₂ rfl
 refine Za (a_mv (v := v₄) rfl) (Za (a_mv (v := v₆) rfl) (Zf (Zd (W_sq (W_rg (Za (a_mv (v := .i .i64 v) rfl) (z8 (hO₄.bsl (E := eInt) (l := [v]) hO₄.fr (by rw [(zq (v := .i .i64 v) rfl ev_nil)]; rfl) rfl) ?_)))))))
 rintro v₇ k₅ ⟨r₃, f₃, hW⟩
 have hO₅ : Own B h k₅ [eSl eInt v₃ ([(-1)] : List Int), eSl eInt v₄ x, eSl eInt v₅ ([(-1)] : List Int), eSl eInt v₆ x1, eSl eInt v₇ [v]] := hW
 refine Za (a_mv (v := v₇) rfl) (Zf (Zd (W_sq (W_rg (Za (a_mv (v := v_cells) rfl) (Za (a_len (hO₅.rd0 s_cells.rd : Sl Zb k₅ v_cells cells) rfl) ?_))))))
 obtain ⟨c₁, hp⟩ := Zk hp
 refine z8 (hO₅.mks (E := e_bool) (y := false) (bytes := 1) (z := (cells.length : Int)) hO₅.fr rfl rfl rfl c₁ (by decide)) ?_
 rintro v₈ k₆ ⟨r₄, f₄, hW⟩
 have hO₆ : Own B h k₆ [eSl eInt v₃ ([(-1)] : List Int), eSl eInt v₄ x, eSl eInt v₅ ([(-1)] : List Int), eSl eInt v₆ x1, eSl eInt v₇ [v], eSl e_bool v₈ (List.replicate ((cells.length : Int) : Int).toNat false)] := hW
 refine Za (a_mv (v := v₈) rfl) (Zf (Zd (W_sq (W_rg (Za (a_mv (v := v₈) rfl) (Za (a_mv (v := .i .i64 v) rfl) ?_))))))
 obtain ⟨c₂, hp⟩ := Zk hp
 refine Za (a_ixa (E := e_bool) (z := v) (hO₆.sl 5 rfl : Sl e_bool k₆ v₈ (List.replicate ((cells.length : Int) : Int).toNat false)) rfl rfl c₂) (z8 (hO₆.ste (E := e_bool) (y := true) (ws := [.b true]) 5 rfl rfl (Zm c₂) rfl rfl ⟨rfl, Nat.le_of_ble_eq_true rfl, rfl⟩ rfl) ?_)
 rintro _ k₇ ⟨rfl, f₅, m₁, hW⟩
 have hO₇ : Own B h k₇ [eSl eInt v₃ ([(-1)] : List Int), eSl eInt v₄ x, eSl eInt v₅ ([(-1)] : List Int), eSl eInt v₆ x1, eSl eInt v₇ [v], eSl e_bool v₈ ((List.replicate ((cells.length : Int) : Int).toNat false).set (v : Int).toNat true)] := hW
 refine Zf (Zd (W_sq (W_bl ?_)))
 obtain ⟨o₁, ho₁, hp⟩ := Zv hp
 refine W.mono (Q := fun e fr k => match (generalizing := false) o₁ with
   | (from_1, dir1) => e = (.exit 0) ∧ fr 6 = v₄ ∧ fr 7 = v₆ ∧ Own B h k [eSl eInt v₄ from_1, eSl eInt v₆ dir1]) ?_ ?_
 ·clear hp
  refine zu (fun st fr k => match st with | (from_, dir, l, met) => ∃ (v₉ : V), fr 0 = v_cells ∧ fr 6 = v₄ ∧ fr 7 = v₆ ∧ fr 8 = v₉ ∧ fr 9 = v₈ ∧ Own B h k [eSl eInt v₄ from_, eSl eInt v₆ dir, eSl eInt v₉ l, eSl e_bool v₈ met]) ho₁ (s := (x, x1, [v], (List.replicate ((cells.length : Int) : Int).toNat false).set (v : Int).toNat true)) (Exists.intro v₇ (And.intro (rfl) (And.intro (rfl) (And.intro (rfl) (And.intro (rfl) (And.intro (rfl) (hO₇.pick [1, 3, 4, 5] rfl (by decide)))))))) ?_
  rintro ⟨from_, dir, l, met⟩ q₂ k₉ ⟨v₉, q₂_0, q₂_6, q₂_7, q₂_8, q₂_9, hO₉⟩ o₂ hp
  dsimp only [z3.s0] at hp
  refine W_sq (W_sq (W_rg (Za (a_mv (v := v₉) q₂_8) (Za (a_len (hO₉.sl 2 rfl : Sl eInt k₉ v₉ l) rfl) (Za (a_gtr (a := (l.length : Int)) (b := 0) rfl rfl) (Zf (Zd ?_)))))))
  rcases Zu hp with ⟨b₁, hp⟩ | ⟨b₁, hp⟩
  ·refine W_cT (t := (decide (0 < (l.length : Int)))) rfl b₁ ?_
   refine W_sk (Zd (W_bl (W_sq (W_rg (Za (a_mv (v := v₉) q₂_8) ?_)))))
   obtain ⟨c₃, hp⟩ := Zk hp
   refine Za (a_ixa (E := eInt) (z := 0) (hO₉.sl 2 rfl : Sl eInt k₉ v₉ l) rfl rfl c₃) (Za (z2 (w := .i .i64 (gi l (0 : Int).toNat)) (hO₉.sl 2 rfl : Sl eInt k₉ v₉ l) rfl (Zm c₃) rfl) (Za (a_mv (v := .i .i64 (gi l (0 : Int).toNat)) rfl) (Zf (Zd (W_sq (W_rg (Za (a_mv (v := v₉) q₂_8) ?_)))))))
   obtain ⟨c₄, hp⟩ := Zk hp
   refine Za (a_slcF (E := eInt) (z := 1) (hO₉.sl 2 rfl : Sl eInt k₉ v₉ l) rfl rfl c₄) (Za (a_mv (v := (V.cut v₉ (1 : Int).toNat (l).length)) rfl) (Zf (Zd (W_sq (W_rg (Za (a_mv (v := .i .i64 0) rfl) (Zf ?_)))))))
   refine Zd (W_bl ?_)
   obtain ⟨o₃, ho₂, hp⟩ := Zv hp
   refine W.mono (Q := fun e fr k => match (generalizing := false) o₃ with
     | (from_3, dir3, l2, met2) => e = (.exit 2) ∧ ∃ (v₁₁ : V), fr 0 = v_cells ∧ fr 6 = v₄ ∧ fr 7 = v₆ ∧ fr 8 = v₁₁ ∧ fr 9 = v₈ ∧ Own B h k [eSl eInt v₄ from_3, eSl eInt v₆ dir3, eSl eInt v₁₁ l2, eSl e_bool v₈ met2]) ?_ ?_
   ·clear hp
    have hO₁₁ : Own B h k₉ [eSl eInt v₄ from_, eSl eInt v₆ dir, eSl eInt (V.cut v₉ (1 : Int).toNat (l).length) (l.drop (1 : Int).toNat), eSl e_bool v₈ met] := hO₉.cutF 2 rfl c₄
    refine zu (fun st fr k => match st with | (from_2, dir2, l1, met1, x2) => ∃ (v₁₀ : V), fr 0 = v_cells ∧ fr 6 = v₄ ∧ fr 7 = v₆ ∧ fr 8 = v₁₀ ∧ fr 9 = v₈ ∧ fr 10 = .i .i64 (gi l (0 : Int).toNat) ∧ fr 37 = .i .i64 x2 ∧ Own B h k [eSl eInt v₄ from_2, eSl eInt v₆ dir2, eSl eInt v₁₀ l1, eSl e_bool v₈ met1]) ho₂ (s := (from_, dir, l.drop (1 : Int).toNat, met, 0)) (Exists.intro (V.cut v₉ (1 : Int).toNat (l).length) (And.intro (q₂_0) (And.intro (q₂_6) (And.intro (q₂_7) (And.intro (rfl) (And.intro (q₂_9) (And.intro (rfl) (And.intro (rfl) (hO₁₁.pick [0, 1, 2, 3] rfl (by decide)))))))))) ?_
    rintro ⟨from_2, dir2, l1, met1, x2⟩ q₄ k₁₁ ⟨v₁₀, q₄_0, q₄_6, q₄_7, q₄_8, q₄_9, q₄_10, q₄_37, hO₁₂⟩ o₄ hp
    dsimp only [z3.s1] at hp
    refine W_sq (W_rg (Za (a_lss (a := x2) (b := 4) q₄_37 rfl) (Zf (Zd (W_sq ?_)))))
    rcases Zu hp with ⟨b₂, hp⟩ | ⟨b₂, hp⟩
    ·refine W_cT (t := (decide (x2 < 4))) rfl b₂ ?_
     refine W_sk (Zd (W_sq (W_bl (W_sq (W_rg (Za (a_mv (v := .i .i64 x2) q₄_37) (Za (a_mv (v := .i .i64 x2) rfl) ?_)))))))
     refine Zf (Zd (W_sq (W_rg (Za (a_mv (v := v_cells) q₄_0) (Za (a_mv (v := .i .i64 (gi l (0 : Int).toNat)) q₄_10) (Za (a_mv (v := .i .i64 x2) rfl) ?_))))))
     obtain ⟨c₅, hp⟩ := Zk hp
     refine Za (a_ixa (E := Zb) (z := (gi l (0 : Int).toNat)) (hO₁₂.rd0 s_cells.rd : Sl Zb k₁₁ v_cells cells) rfl rfl c₅) (Za (zU (off' := 0) (off2 := 0) (hO₁₂.rd0 s_cells.rd : Sl Zb k₁₁ v_cells cells) (Zm c₅) rfl rfl) ?_)
     obtain ⟨c₆, hp⟩ := Zk hp
     refine Za (Zak (off := 0) (off2 := (0 + (x2 : Int).toNat * 1)) (z := x2) (hO₁₂.rd0 s_cells.rd : Sl Zb k₁₁ v_cells cells) (Zm c₅) rfl rfl c₆ rfl) (Za (z2 (w := .i .i64 (((gi cells (gi l (0 : Int).toNat : Int).toNat).Next).get x2)) (hO₁₂.rd0 s_cells.rd : Sl Zb k₁₁ v_cells cells) rfl (Zm c₅) (z4 c₆)) (Za (a_mv (v := .i .i64 (((gi cells (gi l (0 : Int).toNat : Int).toNat).Next).get x2)) rfl) (Zf (Zd (W_sq (W_rg (Za (a_mv (v := .i .i64 (((gi cells (gi l (0 : Int).toNat : Int).toNat).Next).get x2)) rfl) ?_)))))))
     refine Za (a_geq (a := (((gi cells (gi l (0 : Int).toNat : Int).toNat).Next).get x2)) (b := 0) rfl rfl) (Za (a_mv (v := .b (decide (0 ≤ (((gi cells (gi l (0 : Int).toNat : Int).toNat).Next).get x2)))) rfl) ?_)
     obtain ⟨t, hv₁, hp⟩ := Zv hp
     refine zB 6 (fun fr' k' => k₁₁ = k' ∧ fr' 55 = .b t ∧ fr' 0 = v_cells ∧ fr' 10 = .i .i64 (gi l (0 : Int).toNat) ∧ fr' 11 = .i .i64 x2 ∧ fr' 12 = .i .i64 (((gi cells (gi l (0 : Int).toNat : Int).toNat).Next).get x2) ∧ fr' 37 = .i .i64 x2 ∧ fr' 6 = v₄ ∧ fr' 7 = v₆ ∧ fr' 8 = v₁₀ ∧ fr' 9 = v₈) ?_ ?_
     ·clear hp; rcases Zu hv₁ with ⟨b₃, hp⟩ | ⟨b₃, hp⟩
      ·skip
       refine WO_on rfl b₃ (Za (a_mv (v := v₈) q₄_9) (WO_on rfl b₃ (Za (a_mv (v := .i .i64 (((gi cells (gi l (0 : Int).toNat : Int).toNat).Next).get x2)) rfl) (WO_on rfl b₃ ?_))))
       obtain ⟨c₇, hp⟩ := Zk hp
       refine Za (a_ixa (E := e_bool) (z := (((gi cells (gi l (0 : Int).toNat : Int).toNat).Next).get x2)) (hO₁₂.sl 3 rfl : Sl e_bool k₁₁ v₈ met1) rfl rfl c₇) (WO_on rfl b₃ (Za (z2 (w := .b (gi met1 (((gi cells (gi l (0 : Int).toNat : Int).toNat).Next).get x2 : Int).toNat)) (hO₁₂.sl 3 rfl : Sl e_bool k₁₁ v₈ met1) rfl (Zm c₇) rfl) (WO_on rfl b₃ (Za (a_not (t := (gi met1 (((gi cells (gi l (0 : Int).toNat : Int).toNat).Next).get x2 : Int).toNat)) rfl) (Za (ZW (t := (decide (0 ≤ (((gi cells (gi l (0 : Int).toNat : Int).toNat).Next).get x2)))) (v := .b t) rfl b₃ (Eq.trans (b := V.b (!(gi met1 (((gi cells (gi l (0 : Int).toNat : Int).toNat).Next).get x2 : Int).toNat))) rfl (congrArg V.b (Option.some.inj hp)))) (Zf ?_))))))
       exact ⟨rfl, rfl, q₄_0, q₄_10, rfl, rfl, q₄_37, q₄_6, q₄_7, q₄_8, q₄_9⟩
      ·skip
       refine WO_off rfl b₃ (WO_off rfl b₃ (WO_off rfl b₃ (WO_off rfl b₃ (WO_off rfl b₃ (Za (ZT (t := (decide (0 ≤ (((gi cells (gi l (0 : Int).toNat : Int).toNat).Next).get x2)))) (v := .b t) rfl b₃ (Eq.trans (b := V.b false) rfl (congrArg V.b (Option.some.inj hp)))) (Zf ?_))))))
       exact ⟨rfl, rfl, q₄_0, q₄_10, rfl, rfl, q₄_37, q₄_6, q₄_7, q₄_8, q₄_9⟩
     rintro frg₁ _ ⟨rfl, g₁_55, g₁_0, g₁_10, g₁_11, g₁_12, g₁_37, g₁_6, g₁_7, g₁_8, g₁_9⟩
     refine Zf (Zd ?_)
     rcases Zu hp with ⟨b₄, hp⟩ | ⟨b₄, hp⟩
     ·refine W_cT (t := t) g₁_55 b₄ ?_
      refine W_sq (W_rg (Za (a_mv (v := v₈) g₁_9) (Za (a_mv (v := .i .i64 (((gi cells (gi l (0 : Int).toNat : Int).toNat).Next).get x2)) g₁_12) (Za (a_mv (v := v₄) g₁_6) (Za (a_mv (v := .i .i64 (((gi cells (gi l (0 : Int).toNat : Int).toNat).Next).get x2)) g₁_12) (Za (a_mv (v := v₆) g₁_7) (Za (a_mv (v := .i .i64 (((gi cells (gi l (0 : Int).toNat : Int).toNat).Next).get x2)) g₁_12) ?_)))))))
      refine Za (a_mv (v := .i .i64 (gi l (0 : Int).toNat)) g₁_10) (Za (a_mv (v := .i .i64 x2) g₁_11) ?_)
      obtain ⟨c₈, hp⟩ := Zk hp
      refine Za (a_ixa (E := e_bool) (z := (((gi cells (gi l (0 : Int).toNat : Int).toNat).Next).get x2)) (hO₁₂.sl 3 rfl : Sl e_bool k₁₁ v₈ met1) rfl rfl c₈) (z8 (hO₁₂.ste (E := e_bool) (y := true) (ws := [.b true]) 3 rfl rfl (Zm c₈) rfl rfl ⟨rfl, Nat.le_of_ble_eq_true rfl, rfl⟩ rfl) ?_)
      rintro _ k₁₂ ⟨rfl, f₆, m₂, hW⟩
      have hO₁₃ : Own B h k₁₂ [eSl eInt v₄ from_2, eSl eInt v₆ dir2, eSl eInt v₁₀ l1, eSl e_bool v₈ (met1.set (((gi cells (gi l (0 : Int).toNat : Int).toNat).Next).get x2 : Int).toNat true)] := hW
      obtain ⟨c₉, hp⟩ := Zk hp
      refine Za (a_ixa (E := eInt) (z := (((gi cells (gi l (0 : Int).toNat : Int).toNat).Next).get x2)) (hO₁₃.sl 0 rfl : Sl eInt k₁₂ v₄ from_2) rfl rfl c₉) (z8 (hO₁₃.ste (E := eInt) (y := (gi l (0 : Int).toNat)) (ws := [.i .i64 (gi l (0 : Int).toNat)]) 0 rfl rfl (Zm c₉) rfl rfl ⟨rfl, Nat.le_of_ble_eq_true rfl, rfl⟩ rfl) ?_)
      rintro _ k₁₃ ⟨rfl, f₇, m₃, hW⟩
      have hO₁₄ : Own B h k₁₃ [eSl eInt v₄ (from_2.set (((gi cells (gi l (0 : Int).toNat : Int).toNat).Next).get x2 : Int).toNat (gi l (0 : Int).toNat)), eSl eInt v₆ dir2, eSl eInt v₁₀ l1, eSl e_bool v₈ (met1.set (((gi cells (gi l (0 : Int).toNat : Int).toNat).Next).get x2 : Int).toNat true)] := hW
      obtain ⟨c₁₀, hp⟩ := Zk hp
      refine Za (a_ixa (E := eInt) (z := (((gi cells (gi l (0 : Int).toNat : Int).toNat).Next).get x2)) (hO₁₄.sl 1 rfl : Sl eInt k₁₃ v₆ dir2) rfl rfl c₁₀) (z8 (hO₁₄.ste (E := eInt) (y := x2) (ws := [.i .i64 x2]) 1 rfl rfl (Zm c₁₀) rfl rfl ⟨rfl, Nat.le_of_ble_eq_true rfl, rfl⟩ rfl) ?_)
      rintro _ k₁₄ ⟨rfl, f₈, m₄, hW⟩
      have hO₁₅ : Own B h k₁₄ [eSl eInt v₄ (from_2.set (((gi cells (gi l (0 : Int).toNat : Int).toNat).Next).get x2 : Int).toNat (gi l (0 : Int).toNat)), eSl eInt v₆ (dir2.set (((gi cells (gi l (0 : Int).toNat : Int).toNat).Next).get x2 : Int).toNat x2), eSl eInt v₁₀ l1, eSl e_bool v₈ (met1.set (((gi cells (gi l (0 : Int).toNat : Int).toNat).Next).get x2 : Int).toNat true)] := hW
      refine Zf (Zd (W_rg (Za (a_mv (v := v₁₀) g₁_8) (Za (a_mv (v := .i .i64 (((gi cells (gi l (0 : Int).toNat : Int).toNat).Next).get x2)) g₁_12) (z8 (hO₁₅.bsl (E := eInt) (l := [((gi cells (gi l (0 : Int).toNat : Int).toNat).Next).get x2]) hO₁₅.fr (by rw [(zq (v := .i .i64 (((gi cells (gi l (0 : Int).toNat : Int).toNat).Next).get x2)) rfl ev_nil)]; rfl) rfl) ?_)))))
      rintro v₁₂ k₁₅ ⟨r₅, f₉, hW⟩
      have hO₁₆ : Own B h k₁₅ [eSl eInt v₄ (from_2.set (((gi cells (gi l (0 : Int).toNat : Int).toNat).Next).get x2 : Int).toNat (gi l (0 : Int).toNat)), eSl eInt v₆ (dir2.set (((gi cells (gi l (0 : Int).toNat : Int).toNat).Next).get x2 : Int).toNat x2), eSl eInt v₁₀ l1, eSl e_bool v₈ (met1.set (((gi cells (gi l (0 : Int).toNat : Int).toNat).Next).get x2 : Int).toNat true), eSl eInt v₁₂ [((gi cells (gi l (0 : Int).toNat : Int).toNat).Next).get x2]] := hW
      obtain ⟨c₁₁, hp⟩ := Zk hp
      refine z8 (hO₁₆.app (E := eInt) (bytes := 8) 2 hO₁₆.fr rfl (hO₁₆.sl 4 rfl : Sl eInt k₁₅ v₁₂ [((gi cells (gi l (0 : Int).toNat : Int).toNat).Next).get x2]) rfl rfl (fun _ => rfl) c₁₁ (by decide)) ?_
      rintro v₁₃ k₁₆ ⟨f₁₀, hW⟩
      have hO₁₇ : Own B h k₁₆ [eSl eInt v₄ (from_2.set (((gi cells (gi l (0 : Int).toNat : Int).toNat).Next).get x2 : Int).toNat (gi l (0 : Int).toNat)), eSl eInt v₆ (dir2.set (((gi cells (gi l (0 : Int).toNat : Int).toNat).Next).get x2 : Int).toNat x2), eSl eInt v₁₃ (l1 ++ [((gi cells (gi l (0 : Int).toNat : Int).toNat).Next).get x2]), eSl e_bool v₈ (met1.set (((gi cells (gi l (0 : Int).toNat : Int).toNat).Next).get x2 : Int).toNat true), eSl eInt v₁₂ [((gi cells (gi l (0 : Int).toNat : Int).toNat).Next).get x2]] := hW
      refine Za (a_mv (v := v₁₃) rfl) (Zf (z9 (Zd (W_rg ?_))))
      obtain ⟨c₁₂, hp⟩ := Zk hp
      refine Za (a_add (a := x2) (b := 1) g₁_37 rfl c₁₂) (Za (a_mv (v := .i .i64 (x2 + 1)) rfl) (Zf ?_))
      have hp := Option.some.inj hp; subst hp
      exact (Or.inl (Exists.intro (from_2.set (((gi cells (gi l (0 : Int).toNat : Int).toNat).Next).get x2 : Int).toNat (gi l (0 : Int).toNat), dir2.set (((gi cells (gi l (0 : Int).toNat : Int).toNat).Next).get x2 : Int).toNat x2, l1 ++ [((gi cells (gi l (0 : Int).toNat : Int).toNat).Next).get x2], met1.set (((gi cells (gi l (0 : Int).toNat : Int).toNat).Next).get x2 : Int).toNat true, x2 + 1) (And.intro rfl (And.intro rfl (Exists.intro v₁₃ (And.intro (g₁_0) (And.intro (g₁_6) (And.intro (g₁_7) (And.intro (rfl) (And.intro (g₁_9) (And.intro (g₁_10) (And.intro (rfl) (hO₁₇.pick [0, 1, 2, 3] rfl (by decide))))))))))))))
     ·refine W_cF (t := t) g₁_55 b₄ ?_
      refine W_sk (z9 (Zd (W_rg ?_)))
      obtain ⟨c₁₃, hp⟩ := Zk hp
      refine Za (a_add (a := x2) (b := 1) g₁_37 rfl c₁₃) (Za (a_mv (v := .i .i64 (x2 + 1)) rfl) (Zf ?_))
      have hp := Option.some.inj hp; subst hp
      exact (Or.inl (Exists.intro (from_2, dir2, l1, met1, x2 + 1) (And.intro rfl (And.intro rfl (Exists.intro v₁₀ (And.intro (g₁_0) (And.intro (g₁_6) (And.intro (g₁_7) (And.intro (g₁_8) (And.intro (g₁_9) (And.intro (g₁_10) (And.intro (rfl) (hO₁₂.pick [0, 1, 2, 3] rfl (by decide))))))))))))))
    ·refine W_cF (t := (decide (x2 < 4))) rfl b₂ ?_
     refine W_ex (zz ?_)
     have hp := Option.some.inj hp; subst hp
     refine (Or.inr (Exists.intro (from_2, dir2, l1, met1) (And.intro rfl (And.intro (fun h => nomatch h) (fun he => ?_)))))
     subst he; exact (And.intro rfl (Exists.intro v₁₀ (And.intro (q₄_0) (And.intro (q₄_6) (And.intro (q₄_7) (And.intro (q₄_8) (And.intro (q₄_9) (hO₁₂.pick [0, 1, 2, 3] rfl (by decide)))))))))
   intro e₂ q₃ k₁₀ hJ₂
   obtain ⟨from_3, dir3, l2, met2⟩ := o₃
   obtain ⟨rfl, v₁₁, q₃_0, q₃_6, q₃_7, q₃_8, q₃_9, hO₁₀⟩ := hJ₂
   refine zI (z9 ?_)
   have hp := Option.some.inj hp; subst hp
   exact (Or.inl (Exists.intro (from_3, dir3, l2, met2) (And.intro rfl (And.intro rfl (Exists.intro v₁₁ (And.intro (q₃_0) (And.intro (q₃_6) (And.intro (q₃_7) (And.intro (q₃_8) (And.intro (q₃_9) (hO₁₀.pick [0, 1, 2, 3] rfl (by decide))))))))))))
  ·refine W_cF (t := (decide (0 < (l.length : Int)))) rfl b₁ ?_
   refine W_ex (zz ?_)
   have hp := Option.some.inj hp; subst hp
   refine (Or.inr (Exists.intro (from_, dir) (And.intro rfl (And.intro (fun h => nomatch h) (fun he => ?_)))))
   subst he; exact (And.intro rfl (And.intro (q₂_6) (And.intro (q₂_7) (hO₉.pick [0, 1] rfl (by decide)))))
 intro e₁ q₁ k₈ hJ₁
 obtain ⟨from_1, dir1⟩ := o₁
 obtain ⟨rfl, q₁_6, q₁_7, hO₈⟩ := hJ₁
 refine zI (Zd (W_sq (W_rg (Za (a_mv (v := v₄) q₁_6) (Za (a_mv (v := v₆) q₁_7) (Za (a_mv (v := v₄) rfl) (Za (a_mv (v := v₆) rfl) ?_)))))))
 refine Zf (Zd (W_rt (Ret_r (rs_t (n := 4) (v := v₄) rfl (rs_t (n := 5) (v := v₆) rfl rs_nil)) ?_)))
 have hp := Option.some.inj hp; subst hp
 exact (Exists.intro v₄ (Exists.intro v₆ (And.intro rfl (hO₈.pick [0, 1] rfl (by decide)))))

theorem z6.ok {h : Hp} {cells : List Zg} {v_cells : V} (s_cells : Sl Zb h v_cells cells) {r : (List (List Int)) × Int} (hp : z6 cells = some r) :
  ∃ u k', Is G 29 [v_cells] h u k' ∧ ∃ (v₁ : V), ∃ (vs₁ : List V), V.tu [v₁, .i .i64 r.2] = u ∧ Own (fun r => r < h.n) h k' [eSl eV v₁ vs₁, eAll eInt vs₁ r.1] := by
 refine WC.is (WC_of G_F_join_Parts ?_)
 unfold z6 at hp
 let B : Nat → Prop := (fun r => r < h.n)
 have hO : Own B h h [] := Own.start0 h
 refine W_sq (W_rg (Za (a_mv (v := .sn) rfl) (Za (a_mv (v := .i .i64 0) rfl) (Zf (Zd (W_sq (W_sq ?_)))))))
 refine W_rg (Za (a_mv (v := v_cells) rfl) ?_)
 obtain ⟨x, hx₁, hp⟩ := Zv hp
 obtain ⟨u₁, k₁, ca₁, rfl, hW₁⟩ := zk.ok (h := h)  (hO.rd0 s_cells.rd : Sl Zb h v_cells cells) hx₁
 refine zS (id := 66) (caps := []) rfl (Z2 (v := v_cells) rfl zi) ca₁ ?_
 have hO₁ : Own B h k₁ [] := hO.call hW₁ rfl
 refine Za (a_mv (v := .i .i64 x) rfl) (Zf (Zd (W_sq (W_rg (Za (a_mv (v := .i .i64 x) rfl) (Za (a_neI (a := x) (b := 0) rfl rfl) (Zf ?_)))))))
 refine Zd ?_
 rcases Zu hp with ⟨b₁, hp⟩ | ⟨b₁, hp⟩
 ·refine W_cT (t := (!(decide (x = 0)))) rfl b₁ ?_
  refine W_sq (W_rg (Za (a_mv (v := .i .i64 x) rfl) (Za (a_mv (v := .sn) rfl) (Za (a_mv (v := .i .i64 x) rfl) (Zf (Zd (W_rt ?_)))))))
  refine zh ?_
  have hO₂ : Own B h k₁ [eSl eV .sn []] := hO₁.nil eV
  have hO₃ : Own B h k₁ [eSl eV .sn [], eAll eInt [] []] := hO₂.allNil eInt 0
  refine Ret_r (rs_t (n := 2) (v := .sn) rfl (rs_t (n := 3) (v := .i .i64 x) rfl rs_nil)) ?_
  have hp := Option.some.inj hp; subst hp
  exact (Exists.intro V.sn (Exists.intro [] (And.intro rfl (hO₃.pick [0, 1] rfl (by decide)))))
 ·refine W_cF (t := (!(decide (x = 0)))) rfl b₁ ?_
  refine W_sk (Zd (W_sq (W_rg (Za (a_mv (v := .sn) rfl) (Zf (Zd (W_sq ?_)))))))
  refine W_rg (Za (a_mv (v := v_cells) rfl) (Za (a_len (hO₁.rd0 s_cells.rd : Sl Zb k₁ v_cells cells) rfl) ?_))
  obtain ⟨c₁, hp⟩ := Zk hp
  refine z8 (hO₁.mks (E := e_bool) (y := false) (bytes := 1) (z := (cells.length : Int)) hO₁.fr rfl rfl rfl c₁ (by decide)) ?_
  rintro v₂ k₂ ⟨r₁, f₁, hW⟩
  have hO₄ : Own B h k₂ [eSl e_bool v₂ (List.replicate ((cells.length : Int) : Int).toNat false)] := hW
  refine Za (a_mv (v := v₂) rfl) (Zf (Zd (W_sq (W_sq (W_rg (Za (a_mv (v := v_cells) rfl) (Za (a_len (hO₄.rd0 s_cells.rd : Sl Zb k₂ v_cells cells) rfl) ?_)))))))
  refine Za (a_mv (v := .i .i64 0) rfl) (Zf (Zd (W_bl ?_)))
  obtain ⟨o₁, ho₁, hp⟩ := Zv hp
  refine W.mono (Q := fun e fr k => match (generalizing := false) o₁ with
    | l1 => e = (.exit 0) ∧ ∃ (v₄ : V), ∃ (vs₃ : List V), fr 5 = v₄ ∧ Own B h k [eSl eV v₄ vs₃, eAll eInt vs₃ l1]) ?_ ?_
  ·clear hp
   have hO₆ : Own B h k₂ [eSl e_bool v₂ (List.replicate ((cells.length : Int) : Int).toNat false), eSl eV .sn []] := hO₄.nil eV
   have hO₇ : Own B h k₂ [eSl e_bool v₂ (List.replicate ((cells.length : Int) : Int).toNat false), eSl eV .sn [], eAll eInt [] []] := hO₆.allNil eInt 0
   refine zu (fun st fr k => match st with | (l, met, x1) => ∃ (v₃ : V), ∃ (vs₂ : List V), fr 0 = v_cells ∧ fr 5 = v₃ ∧ fr 6 = v₂ ∧ fr 21 = .i .i64 (cells.length : Int) ∧ fr 22 = .i .i64 x1 ∧ Own B h k [eSl eV v₃ vs₂, eAll eInt vs₂ l, eSl e_bool v₂ met]) ho₁ (s := (([] : List (List Int)), List.replicate ((cells.length : Int) : Int).toNat false, 0)) (Exists.intro V.sn (Exists.intro [] (And.intro (rfl) (And.intro (rfl) (And.intro (rfl) (And.intro (rfl) (And.intro (rfl) (hO₇.pick [1, 2, 0] rfl (by decide))))))))) ?_
   rintro ⟨l, met, x1⟩ q₂ k₄ ⟨v₃, vs₂, q₂_0, q₂_5, q₂_6, q₂_21, q₂_22, hO₈⟩ o₂ hp
   dsimp only [z6.s0] at hp
   refine W_sq (W_rg (Za (a_lss (a := x1) (b := (cells.length : Int)) q₂_22 q₂_21) (Zf (Zd (W_sq ?_)))))
   rcases Zu hp with ⟨b₂, hp⟩ | ⟨b₂, hp⟩
   ·refine W_cT (t := (decide (x1 < (cells.length : Int)))) rfl b₂ ?_
    refine W_sk (Zd (W_sq (W_bl (W_sq (W_rg (Za (a_mv (v := .i .i64 x1) q₂_22) (Za (a_mv (v := .i .i64 x1) rfl) ?_)))))))
    refine Zf (Zd (W_sq (W_sq (W_rg (Za (a_mv (v := v₂) q₂_6) (Za (a_mv (v := .i .i64 x1) rfl) ?_))))))
    obtain ⟨c₂, hp⟩ := Zk hp
    refine Za (a_ixa (E := e_bool) (z := x1) (hO₈.sl 2 rfl : Sl e_bool k₄ v₂ met) rfl rfl c₂) (Za (z2 (w := .b (gi met (x1 : Int).toNat)) (hO₈.sl 2 rfl : Sl e_bool k₄ v₂ met) rfl (Zm c₂) rfl) (Zf (Zd ?_)))
    rcases Zu hp with ⟨b₃, hp⟩ | ⟨b₃, hp⟩
    ·refine W_cT (t := (gi met (x1 : Int).toNat)) rfl b₃ ?_
     refine W_ex (zz (zI (Zd (W_rg ?_))))
     obtain ⟨c₃, hp⟩ := Zk hp
     refine Za (a_add (a := x1) (b := 1) q₂_22 rfl c₃) (Za (a_mv (v := .i .i64 (x1 + 1)) rfl) (Zf ?_))
     have hp := Option.some.inj hp; subst hp
     exact (Or.inl (Exists.intro (l, met, x1 + 1) (And.intro rfl (And.intro rfl (Exists.intro v₃ (Exists.intro vs₂ (And.intro (q₂_0) (And.intro (q₂_5) (And.intro (q₂_6) (And.intro (q₂_21) (And.intro (rfl) (hO₈.pick [0, 1, 2] rfl (by decide)))))))))))))
    ·refine W_cF (t := (gi met (x1 : Int).toNat)) rfl b₃ ?_
     refine W_sk (Zd (W_sq (W_rg (Za (a_mv (v := v_cells) q₂_0) (Za (a_mv (v := .i .i64 x1) rfl) ?_)))))
     obtain ⟨⟨x2, x3⟩, hx₂, hp⟩ := Zv hp
     obtain ⟨u₂, k₅, ca₂, v₅, v₆, rfl, hW₂⟩ := z3.ok (h := k₄)  (hO₈.rd0 s_cells.rd : Sl Zb k₄ v_cells cells) hx₂
     refine zS (id := 67) (caps := []) rfl (Z2 (v := v_cells) rfl (Z2 (v := .i .i64 x1) rfl zi)) ca₂ ?_
     have hO₉ : Own B h k₅ [eSl eV v₃ vs₂, eAll eInt vs₂ l, eSl e_bool v₂ met, eSl eInt v₅ x2, eSl eInt v₆ x3] := hO₈.call hW₂ rfl
     refine Za (a_mv (v := .tu [v₅, v₆]) rfl) (Za (Zah (vs := [v₅, v₆]) (v := v₅) rfl rfl) (Za (Zah (vs := [v₅, v₆]) (v := v₆) rfl rfl) (Za (a_mv (v := v₅) rfl) (Za (a_mv (v := v₆) rfl) (Zf (Zd (W_sq ?_)))))))
     refine W_rg (z8 (hO₉.bsl (E := eInt) (l := []) hO₉.fr (by rw [ev_nil]; rfl) rfl) ?_)
     rintro v₇ k₆ ⟨r₂, f₂, hW⟩
     have hO₁₀ : Own B h k₆ [eSl eV v₃ vs₂, eAll eInt vs₂ l, eSl e_bool v₂ met, eSl eInt v₅ x2, eSl eInt v₆ x3, eSl eInt v₇ []] := hW
     refine Za (a_mv (v := v₇) rfl) (Zf (Zd (W_sq (W_sq (W_rg (Za (a_mv (v := v_cells) q₂_0) (Za (a_len (hO₁₀.rd0 s_cells.rd : Sl Zb k₆ v_cells cells) rfl) ?_)))))))
     refine Za (a_mv (v := .i .i64 0) rfl) (Zf (Zd (W_bl ?_)))
     obtain ⟨o₃, ho₂, hp⟩ := Zv hp
     refine W.mono (Q := fun e fr k => match (generalizing := false) o₃ with
       | (met2, part1) => e = (.exit 2) ∧ ∃ (v₉ : V), fr 0 = v_cells ∧ fr 5 = v₃ ∧ fr 6 = v₂ ∧ fr 10 = v₉ ∧ fr 21 = .i .i64 (cells.length : Int) ∧ fr 22 = .i .i64 x1 ∧ Own B h k [eSl eV v₃ vs₂, eAll eInt vs₂ l, eSl e_bool v₂ met2, eSl eInt v₉ part1]) ?_ ?_
     ·clear hp
      refine zu (fun st fr k => match st with | (met1, part, x4) => ∃ (v₈ : V), fr 0 = v_cells ∧ fr 5 = v₃ ∧ fr 6 = v₂ ∧ fr 7 = .i .i64 x1 ∧ fr 9 = v₆ ∧ fr 10 = v₈ ∧ fr 21 = .i .i64 (cells.length : Int) ∧ fr 22 = .i .i64 x1 ∧ fr 37 = .i .i64 (cells.length : Int) ∧ fr 38 = .i .i64 x4 ∧ Own B h k [eSl eV v₃ vs₂, eAll eInt vs₂ l, eSl e_bool v₂ met1, eSl eInt v₆ x3, eSl eInt v₈ part]) ho₂ (s := (met, [], 0)) (Exists.intro v₇ (And.intro (q₂_0) (And.intro (q₂_5) (And.intro (q₂_6) (And.intro (rfl) (And.intro (rfl) (And.intro (rfl) (And.intro (q₂_21) (And.intro (q₂_22) (And.intro (rfl) (And.intro (rfl) (hO₁₀.pick [0, 1, 2, 4, 5] rfl (by decide))))))))))))) ?_
      rintro ⟨met1, part, x4⟩ q₄ k₈ ⟨v₈, q₄_0, q₄_5, q₄_6, q₄_7, q₄_9, q₄_10, q₄_21, q₄_22, q₄_37, q₄_38, hO₁₂⟩ o₄ hp
      dsimp only [z6.s1] at hp
      refine W_sq (W_rg (Za (a_lss (a := x4) (b := (cells.length : Int)) q₄_38 q₄_37) (Zf (Zd (W_sq ?_)))))
      rcases Zu hp with ⟨b₄, hp⟩ | ⟨b₄, hp⟩
      ·refine W_cT (t := (decide (x4 < (cells.length : Int)))) rfl b₄ ?_
       refine W_sk (Zd (W_sq (W_bl (W_sq (W_rg (Za (a_mv (v := .i .i64 x4) q₄_38) (Za (a_mv (v := .i .i64 x4) rfl) ?_)))))))
       refine Zf (Zd (W_sq (W_rg (Za (a_mv (v := .i .i64 x4) rfl) (Za (a_mv (v := .i .i64 x1) q₄_7) (Za (a_eqI (a := x4) (b := x1) rfl rfl) (Za (a_mv (v := .b (decide (x4 = x1))) rfl) ?_)))))))
       obtain ⟨t, hv₁, hp⟩ := Zv hp
       refine zB 6 (fun fr' k' => k₈ = k' ∧ fr' 50 = .b t ∧ fr' 0 = v_cells ∧ fr' 10 = v₈ ∧ fr' 11 = .i .i64 x4 ∧ fr' 21 = .i .i64 (cells.length : Int) ∧ fr' 22 = .i .i64 x1 ∧ fr' 37 = .i .i64 (cells.length : Int) ∧ fr' 38 = .i .i64 x4 ∧ fr' 5 = v₃ ∧ fr' 6 = v₂ ∧ fr' 7 = .i .i64 x1 ∧ fr' 9 = v₆) ?_ ?_
       ·clear hp; rcases Zu hv₁ with ⟨b₅, hp⟩ | ⟨b₅, hp⟩
        ·skip
         refine WO_off rfl b₅ (WO_off rfl b₅ (WO_off rfl b₅ (WO_off rfl b₅ (WO_off rfl b₅ (Za (ZW (t := (decide (x4 = x1))) (v := .b t) rfl b₅ (Eq.trans (b := V.b true) rfl (congrArg V.b (Option.some.inj hp)))) (Zf ?_))))))
         exact ⟨rfl, rfl, q₄_0, q₄_10, rfl, q₄_21, q₄_22, q₄_37, q₄_38, q₄_5, q₄_6, q₄_7, q₄_9⟩
        ·skip
         refine WO_on rfl b₅ (Za (a_mv (v := v₆) q₄_9) (WO_on rfl b₅ (Za (a_mv (v := .i .i64 x4) rfl) (WO_on rfl b₅ ?_))))
         obtain ⟨c₄, hp⟩ := Zk hp
         refine Za (a_ixa (E := eInt) (z := x4) (hO₁₂.sl 3 rfl : Sl eInt k₈ v₆ x3) rfl rfl c₄) (WO_on rfl b₅ (Za (z2 (w := .i .i64 (gi x3 (x4 : Int).toNat)) (hO₁₂.sl 3 rfl : Sl eInt k₈ v₆ x3) rfl (Zm c₄) rfl) (WO_on rfl b₅ (Za (a_geq (a := (gi x3 (x4 : Int).toNat)) (b := 0) rfl rfl) (Za (ZT (t := (decide (x4 = x1))) (v := .b t) rfl b₅ (Eq.trans (b := V.b (decide (0 ≤ (gi x3 (x4 : Int).toNat)))) rfl (congrArg V.b (Option.some.inj hp)))) (Zf ?_))))))
         exact ⟨rfl, rfl, q₄_0, q₄_10, rfl, q₄_21, q₄_22, q₄_37, q₄_38, q₄_5, q₄_6, q₄_7, q₄_9⟩
       rintro frg₁ _ ⟨rfl, g₁_50, g₁_0, g₁_10, g₁_11, g₁_21, g₁_22, g₁_37, g₁_38, g₁_5, g₁_6, g₁_7, g₁_9⟩
       refine Zf (Zd ?_)
       rcases Zu hp with ⟨b₆, hp⟩ | ⟨b₆, hp⟩
       ·refine W_cT (t := t) g₁_50 b₆ ?_
        refine W_sq (W_rg (Za (a_mv (v := v₂) g₁_6) (Za (a_mv (v := .i .i64 x4) g₁_11) ?_)))
        obtain ⟨c₅, hp⟩ := Zk hp
        refine Za (a_ixa (E := e_bool) (z := x4) (hO₁₂.sl 2 rfl : Sl e_bool k₈ v₂ met1) rfl rfl c₅) (z8 (hO₁₂.ste (E := e_bool) (y := true) (ws := [.b true]) 2 rfl rfl (Zm c₅) rfl rfl ⟨rfl, Nat.le_of_ble_eq_true rfl, rfl⟩ rfl) ?_)
        rintro _ k₉ ⟨rfl, f₃, m₁, hW⟩
        have hO₁₃ : Own B h k₉ [eSl eV v₃ vs₂, eAll eInt vs₂ l, eSl e_bool v₂ (met1.set (x4 : Int).toNat true), eSl eInt v₆ x3, eSl eInt v₈ part] := hW
        refine Zf (Zd (W_rg (Za (a_mv (v := v₈) g₁_10) (Za (a_mv (v := .i .i64 x4) g₁_11) (z8 (hO₁₃.bsl (E := eInt) (l := [x4]) hO₁₃.fr (by rw [(zq (v := .i .i64 x4) rfl ev_nil)]; rfl) rfl) ?_)))))
        rintro v₁₀ k₁₀ ⟨r₃, f₄, hW⟩
        have hO₁₄ : Own B h k₁₀ [eSl eV v₃ vs₂, eAll eInt vs₂ l, eSl e_bool v₂ (met1.set (x4 : Int).toNat true), eSl eInt v₆ x3, eSl eInt v₈ part, eSl eInt v₁₀ [x4]] := hW
        obtain ⟨c₆, hp⟩ := Zk hp
        refine z8 (hO₁₄.app (E := eInt) (bytes := 8) 4 hO₁₄.fr rfl (hO₁₄.sl 5 rfl : Sl eInt k₁₀ v₁₀ [x4]) rfl rfl (fun _ => rfl) c₆ (by decide)) ?_
        rintro v₁₁ k₁₁ ⟨f₅, hW⟩
        have hO₁₅ : Own B h k₁₁ [eSl eV v₃ vs₂, eAll eInt vs₂ l, eSl e_bool v₂ (met1.set (x4 : Int).toNat true), eSl eInt v₆ x3, eSl eInt v₁₁ (part ++ [x4]), eSl eInt v₁₀ [x4]] := hW
        refine Za (a_mv (v := v₁₁) rfl) (Zf (z9 (Zd (W_rg ?_))))
        obtain ⟨c₇, hp⟩ := Zk hp
        refine Za (a_add (a := x4) (b := 1) g₁_38 rfl c₇) (Za (a_mv (v := .i .i64 (x4 + 1)) rfl) (Zf ?_))
        have hp := Option.some.inj hp; subst hp
        exact (Or.inl (Exists.intro (met1.set (x4 : Int).toNat true, part ++ [x4], x4 + 1) (And.intro rfl (And.intro rfl (Exists.intro v₁₁ (And.intro (g₁_0) (And.intro (g₁_5) (And.intro (g₁_6) (And.intro (g₁_7) (And.intro (g₁_9) (And.intro (rfl) (And.intro (g₁_21) (And.intro (g₁_22) (And.intro (g₁_37) (And.intro (rfl) (hO₁₅.pick [0, 1, 2, 3, 4] rfl (by decide)))))))))))))))))
       ·refine W_cF (t := t) g₁_50 b₆ ?_
        refine W_sk (z9 (Zd (W_rg ?_)))
        obtain ⟨c₈, hp⟩ := Zk hp
        refine Za (a_add (a := x4) (b := 1) g₁_38 rfl c₈) (Za (a_mv (v := .i .i64 (x4 + 1)) rfl) (Zf ?_))
        have hp := Option.some.inj hp; subst hp
        exact (Or.inl (Exists.intro (met1, part, x4 + 1) (And.intro rfl (And.intro rfl (Exists.intro v₈ (And.intro (g₁_0) (And.intro (g₁_5) (And.intro (g₁_6) (And.intro (g₁_7) (And.intro (g₁_9) (And.intro (g₁_10) (And.intro (g₁_21) (And.intro (g₁_22) (And.intro (g₁_37) (And.intro (rfl) (hO₁₂.pick [0, 1, 2, 3, 4] rfl (by decide)))))))))))))))))
      ·refine W_cF (t := (decide (x4 < (cells.length : Int)))) rfl b₄ ?_
       refine W_ex (zz ?_)
       have hp := Option.some.inj hp; subst hp
       refine (Or.inr (Exists.intro (met1, part) (And.intro rfl (And.intro (fun h => nomatch h) (fun he => ?_)))))
       subst he; exact (And.intro rfl (Exists.intro v₈ (And.intro (q₄_0) (And.intro (q₄_5) (And.intro (q₄_6) (And.intro (q₄_10) (And.intro (q₄_21) (And.intro (q₄_22) (hO₁₂.pick [0, 1, 2, 4] rfl (by decide))))))))))
     intro e₂ q₃ k₇ hJ₂
     obtain ⟨met2, part1⟩ := o₃
     obtain ⟨rfl, v₉, q₃_0, q₃_5, q₃_6, q₃_10, q₃_21, q₃_22, hO₁₁⟩ := hJ₂
     refine zI (Zd (W_rg (Za (a_mv (v := v₃) q₃_5) (Za (a_mv (v := v₉) q₃_10) (z8 (hO₁₁.bsl (E := eV) (l := [v₉]) hO₁₁.fr (by rw [(zq (v := v₉) rfl ev_nil)]; simp [fill, over, (hO₁₁.sl 3 rfl : Sl eInt k₇ v₉ part1).cells]) rfl) ?_)))))
     rintro v₁₂ k₁₂ ⟨r₄, f₆, hW⟩
     have hO₁₆ : Own B h k₁₂ [eSl eV v₃ vs₂, eAll eInt vs₂ l, eSl e_bool v₂ met2, eSl eInt v₉ part1, eSl eV v₁₂ [v₉]] := hW
     obtain ⟨c₉, hp⟩ := Zk hp
     refine z8 (hO₁₆.appV (bytes := 24) 0 hO₁₆.fr rfl (hO₁₆.sl 4 rfl : Sl eV k₁₂ v₁₂ [v₉]) rfl rfl (by simp only [List.all_cons, List.all_nil, Bool.and_true]; exact (hO₁₆.sl 3 rfl : Sl eInt k₁₂ v₉ part1).oneV) (by rw [(hO₁₆.allLen 1 rfl : (vs₂).length = (l).length)]; exact c₉) (by decide)) ?_
     rintro v₁₃ k₁₃ ⟨f₇, hW⟩
     have hO₁₇ : Own B h k₁₃ [eSl eV v₁₃ (vs₂ ++ [v₉]), eAll eInt vs₂ l, eSl e_bool v₂ met2, eSl eInt v₉ part1, eSl eV v₁₂ [v₉]] := hW
     have hO₁₈ : Own B h k₁₃ [eSl eV v₁₃ (vs₂ ++ [v₉]), eAll eInt (vs₂ ++ [v₉]) (l ++ [part1]), eSl e_bool v₂ met2, eNone, eSl eV v₁₂ [v₉]] := hO₁₇.absorb 1 3 rfl rfl (by decide)
     refine Za (a_mv (v := v₁₃) rfl) (Zf (z9 (Zd (W_rg ?_))))
     obtain ⟨c₁₀, hp⟩ := Zk hp
     refine Za (a_add (a := x1) (b := 1) q₃_22 rfl c₁₀) (Za (a_mv (v := .i .i64 (x1 + 1)) rfl) (Zf ?_))
     have hp := Option.some.inj hp; subst hp
     exact (Or.inl (Exists.intro (l ++ [part1], met2, x1 + 1) (And.intro rfl (And.intro rfl (Exists.intro v₁₃ (Exists.intro (vs₂ ++ [v₉]) (And.intro (q₃_0) (And.intro (rfl) (And.intro (q₃_6) (And.intro (q₃_21) (And.intro (rfl) (hO₁₈.pick [0, 1, 2] rfl (by decide)))))))))))))
   ·refine W_cF (t := (decide (x1 < (cells.length : Int)))) rfl b₂ ?_
    refine W_ex (zz ?_)
    have hp := Option.some.inj hp; subst hp
    refine (Or.inr (Exists.intro l (And.intro rfl (And.intro (fun h => nomatch h) (fun he => ?_)))))
    subst he; exact (And.intro rfl (Exists.intro v₃ (Exists.intro vs₂ (And.intro (q₂_5) (hO₈.pick [0, 1] rfl (by decide))))))
  intro e₁ q₁ k₃ hJ₁
  obtain ⟨l1, rfl⟩ : ∃ x, x = o₁ := ⟨_, rfl⟩
  obtain ⟨rfl, v₄, vs₃, q₁_5, hO₅⟩ := hJ₁
  refine zI (Zd (W_sq (W_rg (Za (a_mv (v := v₄) q₁_5) (Za (a_mv (v := v₄) rfl) (Za (a_mv (v := .i .i64 0) rfl) (Zf ?_)))))))
  refine Zd (W_rt (Ret_r (rs_t (n := 2) (v := v₄) rfl (rs_t (n := 3) (v := .i .i64 0) rfl rs_nil)) ?_))
  have hp := Option.some.inj hp; subst hp
  exact (Exists.intro v₄ (Exists.intro vs₃ (And.intro rfl (hO₅.pick [0, 1] rfl (by decide)))))

theorem Zat.ok {h : Hp} {cells : List Zg} {v_cells : V} (s_cells : Sl Zb h v_cells cells) {r : Bool} (hp : Zat cells = some r) :
  ∃ u k', Is G 32 [v_cells] h u k' ∧ V.b r = u ∧ Own (fun r => r < h.n) h k' [] := by
 refine WC.is (WC_of G_F_join_Whole ?_)
 unfold Zat at hp
 let B : Nat → Prop := (fun r => r < h.n)
 have hO : Own B h h [] := Own.start0 h
 refine W_sq (W_rg (Za (a_mv (v := .b false) rfl) (Zf (Zd (W_sq (W_rg (Za (a_mv (v := v_cells) rfl) ?_)))))))
 obtain ⟨⟨x, x1⟩, hx₁, hp⟩ := Zv hp
 obtain ⟨u₁, k₁, ca₁, v₁, vs₁, rfl, hW₁⟩ := z6.ok (h := h)  (hO.rd0 s_cells.rd : Sl Zb h v_cells cells) hx₁
 refine zS (id := 29) (caps := []) rfl (Z2 (v := v_cells) rfl zi) ca₁ ?_
 have hO₁ : Own B h k₁ [eSl eV v₁ vs₁, eAll eInt vs₁ x] := hO.call hW₁ rfl
 refine Za (a_mv (v := .tu [v₁, .i .i64 x1]) rfl) (Za (Zah (vs := [v₁, .i .i64 x1]) (v := v₁) rfl rfl) (Za (Zah (vs := [v₁, .i .i64 x1]) (v := .i .i64 x1) rfl rfl) (Za (a_mv (v := v₁) rfl) (Za (a_mv (v := .i .i64 x1) rfl) (Zf (Zd (W_sq ?_)))))))
 refine W_rg (Za (a_mv (v := .i .i64 x1) rfl) (Za (a_eqI (a := x1) (b := 0) rfl rfl) (Za (a_mv (v := .b (decide (x1 = 0))) rfl) ?_)))
 refine zB 4 (fun fr' k' => k₁ = k' ∧ fr' 16 = .b ((decide (x1 = 0)) && (decide ((x.length : Int) = 1)))) ?_ ?_
 ·rcases bc (decide (x1 = 0)) with b₁ | b₁
  ·skip
   refine WO_on rfl b₁ (Za (a_mv (v := v₁) rfl) (WO_on rfl b₁ (Za (a_lenN (n := (x).length) (hO₁.sl 0 rfl : Sl eV k₁ v₁ vs₁) (hO₁.allLen 1 rfl : (vs₁).length = (x).length) rfl) (WO_on rfl b₁ (Za (a_eqI (a := (x.length : Int)) (b := 1) rfl rfl) (Za (ZW (t := (decide (x1 = 0))) (v := .b ((decide (x1 = 0)) && (decide ((x.length : Int) = 1)))) rfl b₁ (Eq.trans (b := V.b (decide ((x.length : Int) = 1))) rfl (Zax b₁))) (Zf ?_)))))))
   exact ⟨rfl, rfl⟩
  ·skip
   refine WO_off rfl b₁ (WO_off rfl b₁ (WO_off rfl b₁ (Za (ZT (t := (decide (x1 = 0))) (v := .b ((decide (x1 = 0)) && (decide ((x.length : Int) = 1)))) rfl b₁ (Eq.trans (b := V.b false) rfl (Zal b₁))) (Zf ?_))))
   exact ⟨rfl, rfl⟩
 rintro frg₁ _ ⟨rfl, g₁_16⟩
 refine Za (a_mv (v := .b ((decide (x1 = 0)) && (decide ((x.length : Int) = 1)))) g₁_16) (Zf (Zd (W_rt (Ret_r (rs_t (n := 2) (v := .b ((decide (x1 = 0)) && (decide ((x.length : Int) = 1)))) rfl rs_nil) ?_))))
 have hp := Option.some.inj hp; subst hp
 exact (And.intro rfl (hO₁.pick [] rfl (by decide)))

theorem zN.ok {h : Hp} {d : Zj} {cells : List Zg} {v_cells : V} (s_cells : Sl Zb h v_cells cells) {r : Bool} (hp : zN d cells = some r) :
  ∃ u k', Is G 220 [.ag (Zc.c d), v_cells] h u k' ∧ V.b r = u ∧ Own (fun r => r < h.n) h k' [] := by
 refine WC.is (WC_of G_F_face_Dart_is ?_)
 unfold zN at hp
 let B : Nat → Prop := (fun r => r < h.n)
 have hO : Own B h h [] := Own.start0 h
 refine W_sq (W_rg (z8 (hO.boxd (v := .ag (Zc.c d)) (cs := Zc.c d) hO.fr rfl rfl) ?_))
 rintro _ k₁ ⟨r₁, rfl, n₁, f₁, hW⟩
 have hO₁ : Own B h k₁ [eBox r₁ (Zc.c d)] := hW
 refine Za (a_mv (v := .b false) rfl) (Zf (Zd (W_sq (W_dr ?_))))
 have hW := hO₁.bump 28
 have fr₁ := Fresh.start k₁ 28
 have nb₁ : ∀ {i : Nat}, h.n ≤ k₁.n + i := Nat.le_trans hO₁.n (Nat.le_add_right _ _)
 have hO₂ : Own B h (k₁.bump 28) [eBox r₁ (Zc.c d)] := hW
 refine zH (a_fa (r := r₁) (o := 0) (o' := 0) rfl rfl) (zH (Zaf (cs := (Zc.c d)) (v := .i .i64 d.Cell) (hO₂.box 0 rfl) rfl rfl) (zH (a_geq (a := d.Cell) (b := 0) rfl rfl) (zH (a_mv (v := .b (decide (0 ≤ d.Cell))) rfl) ?_)))
 rcases Zu hp with ⟨b₁, hp⟩ | ⟨b₁, hp⟩
 ·skip
  refine WD_on rfl b₁ (zH (a_fa (r := r₁) (o := 0) (o' := 0) rfl rfl) (WD_on rfl b₁ (zH (Zaf (cs := (Zc.c d)) (v := .i .i64 d.Cell) (hO₂.box 0 rfl) rfl rfl) (WD_on rfl b₁ (zH (a_mv (v := v_cells) rfl) (WD_on rfl b₁ (zH (a_len (hO₂.rd0 s_cells.rd : Sl Zb (k₁.bump 28) v_cells cells) rfl) ?_)))))))
  refine WD_on rfl b₁ (zH (a_lss (a := d.Cell) (b := (cells.length : Int)) rfl rfl) (zH (ZW (t := (decide (0 ≤ d.Cell))) (v := .b (decide (d.Cell < (cells.length : Int)))) rfl b₁ rfl) (zH (a_mv (v := .b (decide (d.Cell < (cells.length : Int)))) rfl) ?_)))
  rcases Zu hp with ⟨b₂, hp⟩ | ⟨b₂, hp⟩
  ·skip
   refine WD_on rfl b₂ (zH (a_fa (r := r₁) (o := 0) (o' := 1) rfl rfl) (WD_on rfl b₂ (zH (Zaf (cs := (Zc.c d)) (v := .i .i64 d.Dir) (hO₂.box 0 rfl) rfl rfl) (WD_on rfl b₂ ?_))))
   obtain ⟨x, hx₁, hp⟩ := Zv hp
   obtain ⟨u₁, k₃, ca₁, rfl, hW₁⟩ := zM.ok (h := (k₁.bump 28))   hx₁
   refine WD_c (id := 90) (caps := []) rfl (Z2 (v := .i .i64 d.Dir) rfl zi) ca₁ ?_
   have fr₂ := fr₁.call hW₁
   have hO₃ : Own B h k₃ [eBox r₁ (Zc.c d)] := hO₂.call hW₁ rfl
   refine zH (ZW (t := (decide (d.Cell < (cells.length : Int)))) (v := .b x) rfl b₂ rfl) (zH (a_mv (v := .b x) rfl) ?_)
   rcases Zu hp with ⟨b₃, hp⟩ | ⟨b₃, hp⟩
   ·skip
    refine WD_on rfl b₃ (zH (a_mv (v := v_cells) rfl) (WD_on rfl b₃ (zH (a_fa (r := r₁) (o := 0) (o' := 0) rfl rfl) (WD_on rfl b₃ (zH (Zaf (cs := (Zc.c d)) (v := .i .i64 d.Cell) (hO₃.box 0 rfl) rfl rfl) (WD_on rfl b₃ (zH (a_fa (r := r₁) (o := 0) (o' := 1) rfl rfl) ?_)))))))
    refine WD_on rfl b₃ (zH (Zaf (cs := (Zc.c d)) (v := .i .i64 d.Dir) (hO₃.box 0 rfl) rfl rfl) (WD_on rfl b₃ ?_))
    obtain ⟨c₁, hp⟩ := Zk hp
    refine zH (a_ixa (E := Zb) (z := d.Cell) (hO₃.rd0 s_cells.rd : Sl Zb k₃ v_cells cells) rfl rfl c₁) (WD_on rfl b₃ (zH (zU (off' := 0) (off2 := 0) (hO₃.rd0 s_cells.rd : Sl Zb k₃ v_cells cells) (Zm c₁) rfl rfl) (WD_on rfl b₃ ?_)))
    obtain ⟨c₂, hp⟩ := Zk hp
    refine zH (Zak (off := 0) (off2 := (0 + (d.Dir : Int).toNat * 1)) (z := d.Dir) (hO₃.rd0 s_cells.rd : Sl Zb k₃ v_cells cells) (Zm c₁) rfl rfl c₂ rfl) (WD_on rfl b₃ (zH (z2 (w := .i .i64 (((gi cells (d.Cell : Int).toNat).Next).get d.Dir)) (hO₃.rd0 s_cells.rd : Sl Zb k₃ v_cells cells) rfl (Zm c₁) (z4 c₂)) (WD_on rfl b₃ (zH (a_geq (a := (((gi cells (d.Cell : Int).toNat).Next).get d.Dir)) (b := 0) rfl rfl) (zH (ZW (t := x) (v := .b (decide (0 ≤ (((gi cells (d.Cell : Int).toNat).Next).get d.Dir)))) rfl b₃ rfl) (zH (a_mv (v := .b (decide (0 ≤ (((gi cells (d.Cell : Int).toNat).Next).get d.Dir)))) rfl) (WD_end ?_)))))))
    refine And.intro ?_ ?_
    ·intro q hq
     simp only [List.mem_cons, List.not_mem_nil, or_false] at hq
     rcases hq with rfl
     ·refine ap_ll ?_ ?_
      ·exact (fun h => nomatch h)
      ·exact (fun h => nomatch h)
    refine Zd (W_rt (Ret_r (rs_t (n := 4) (v := .b (decide (0 ≤ (((gi cells (d.Cell : Int).toNat).Next).get d.Dir)))) rfl rs_nil) ?_))
    have hp := Option.some.inj hp; subst hp
    exact (And.intro rfl (hO₃.pick [] rfl (by decide)))
   ·skip
    refine WD_off rfl b₃ (WD_off rfl b₃ (WD_off rfl b₃ (WD_off rfl b₃ (WD_off rfl b₃ (WD_off rfl b₃ (WD_off rfl b₃ (WD_off rfl b₃ ?_)))))))
    refine WD_off rfl b₃ (WD_off rfl b₃ (zH (ZT (t := x) (v := .b false) rfl b₃ rfl) (zH (a_mv (v := .b false) rfl) (WD_end ?_))))
    refine And.intro ?_ ?_
    ·intro q hq
     simp only [List.mem_cons, List.not_mem_nil, or_false] at hq
     rcases hq with rfl
     ·exact ap_n1
    refine Zd (W_rt (Ret_r (rs_t (n := 4) (v := .b false) rfl rs_nil) ?_))
    have hp := Option.some.inj hp; subst hp
    exact (And.intro rfl (hO₃.pick [] rfl (by decide)))
  ·skip
   refine WD_off rfl b₂ (WD_off rfl b₂ (WD_off rfl b₂ (zH (ZT (t := (decide (d.Cell < (cells.length : Int)))) (v := .b false) rfl b₂ rfl) (zH (a_mv (v := .b false) rfl) (WD_off rfl rfl (WD_off rfl rfl (WD_off rfl rfl ?_)))))))
   refine WD_off rfl rfl (WD_off rfl rfl (WD_off rfl rfl (WD_off rfl rfl (WD_off rfl rfl (WD_off rfl rfl (WD_off rfl rfl (zH (ZT (t := false) (v := .b false) rfl rfl rfl) ?_)))))))
   refine zH (a_mv (v := .b false) rfl) (WD_end ?_)
   refine And.intro ?_ ?_
   ·intro q hq
    simp only [List.mem_cons, List.not_mem_nil, or_false] at hq
    rcases hq with rfl
    ·exact ap_n1
   refine Zd (W_rt (Ret_r (rs_t (n := 4) (v := .b false) rfl rs_nil) ?_))
   have hp := Option.some.inj hp; subst hp
   exact (And.intro rfl (hO₂.pick [] rfl (by decide)))
 ·skip
  refine WD_off rfl b₁ (WD_off rfl b₁ (WD_off rfl b₁ (WD_off rfl b₁ (WD_off rfl b₁ (zH (ZT (t := (decide (0 ≤ d.Cell))) (v := .b false) rfl b₁ rfl) (zH (a_mv (v := .b false) rfl) (WD_off rfl rfl ?_)))))))
  refine WD_off rfl rfl (WD_off rfl rfl (zH (ZT (t := false) (v := .b false) rfl rfl rfl) (zH (a_mv (v := .b false) rfl) (WD_off rfl rfl (WD_off rfl rfl (WD_off rfl rfl (WD_off rfl rfl ?_)))))))
  refine WD_off rfl rfl (WD_off rfl rfl (WD_off rfl rfl (WD_off rfl rfl (WD_off rfl rfl (WD_off rfl rfl (zH (ZT (t := false) (v := .b false) rfl rfl rfl) (zH (a_mv (v := .b false) rfl) ?_)))))))
  refine WD_end ?_
  refine And.intro ?_ ?_
  ·intro q hq
   simp only [List.mem_cons, List.not_mem_nil, or_false] at hq
   rcases hq with rfl
   ·exact ap_n1
  refine Zd (W_rt (Ret_r (rs_t (n := 4) (v := .b false) rfl rs_nil) ?_))
  have hp := Option.some.inj hp; subst hp
  exact (And.intro rfl (hO₂.pick [] rfl (by decide)))

theorem zo.ok {h : Hp} {d : Zj} {cells : List Zg} {v_cells : V} (s_cells : Sl Zb h v_cells cells) {r : Zj} (hp : zo d cells = some r) :
  ∃ u k', Is G 221 [.ag (Zc.c d), v_cells] h u k' ∧ V.ag (Zc.c r) = u ∧ Own (fun r => r < h.n) h k' [] := by
 refine WC.is (WC_of G_F_face_Dart_behind ?_)
 unfold zo at hp
 let B : Nat → Prop := (fun r => r < h.n)
 have hO : Own B h h [] := Own.start0 h
 refine W_sq (W_rg (z8 (hO.boxd (v := .ag (Zc.c d)) (cs := Zc.c d) hO.fr rfl rfl) ?_))
 rintro _ k₁ ⟨r₁, rfl, n₁, f₁, hW⟩
 have hO₁ : Own B h k₁ [eBox r₁ (Zc.c d)] := hW
 refine z8 (hO₁.alloc (cs := Zc.c (⟨0, 0⟩ : Zj)) hO₁.fr) ?_
 rintro _ k₂ ⟨r₂, rfl, n₂, f₂, hW⟩
 have hO₂ : Own B h k₂ [eBox r₁ (Zc.c d), eBox r₂ (Zc.c (⟨0, 0⟩ : Zj))] := hW
 refine Zf (Zd (W_sq (W_qd ?_)))
 have hW := hO₂.bump 10
 have hO₃ : Own B h (k₂.bump 10) [eBox r₁ (Zc.c d), eBox r₂ (Zc.c (⟨0, 0⟩ : Zj))] := hW
 refine Z1 rfl (a_mv (v := v_cells) rfl) (Z1 rfl (a_fa (r := r₁) (o := 0) (o' := 0) rfl rfl) (Z1 rfl (Zaf (cs := (Zc.c d)) (v := .i .i64 d.Cell) (hO₃.box 0 rfl) rfl rfl) (Z1 rfl (a_fa (r := r₁) (o := 0) (o' := 1) rfl rfl) (Z1 rfl (Zaf (cs := (Zc.c d)) (v := .i .i64 d.Dir) (hO₃.box 0 rfl) rfl rfl) ?_))))
 obtain ⟨c₁, hp⟩ := Zk hp
 refine Z1 rfl (a_ixa (E := Zb) (z := d.Cell) (hO₃.rd0 s_cells.rd : Sl Zb (k₂.bump 10) v_cells cells) rfl rfl c₁) (Z1 rfl (zU (off' := 0) (off2 := 0) (hO₃.rd0 s_cells.rd : Sl Zb (k₂.bump 10) v_cells cells) (Zm c₁) rfl rfl) ?_)
 obtain ⟨c₂, hp⟩ := Zk hp
 refine Z1 rfl (Zak (off := 0) (off2 := (0 + (d.Dir : Int).toNat * 1)) (z := d.Dir) (hO₃.rd0 s_cells.rd : Sl Zb (k₂.bump 10) v_cells cells) (Zm c₁) rfl rfl c₂ rfl) (Z1 rfl (z2 (w := .i .i64 (((gi cells (d.Cell : Int).toNat).Next).get d.Dir)) (hO₃.rd0 s_cells.rd : Sl Zb (k₂.bump 10) v_cells cells) rfl (Zm c₁) (z4 c₂)) (Z1 rfl (a_mv (v := .i .i64 (((gi cells (d.Cell : Int).toNat).Next).get d.Dir)) rfl) (z7 (Zd (W_sq (W_sq (W_rg ?_)))))))
 refine Za (Za5 (cs := Zav.c (⟨1, 0, (-1), 2⟩ : A4 Int)) (by rw [(zq (v := .i .i64 1) rfl (zq (v := .i .i64 0) rfl (zq (v := .i .i64 (-1)) rfl (zq (v := .i .i64 2) rfl ev_nil))))]; rfl)) (Za (a_mv (v := .i .i64 0) rfl) (Zf (Zd (W_bl ?_))))
 obtain ⟨o₁, ho₁, hp⟩ := Zv hp
 refine W.mono (Q := fun e fr k => match (generalizing := false) o₁ with
   | .inl _ => e = (.exit 0) ∧ fr 2 = .p r₁ 0 ∧ fr 4 = .p r₂ 0 ∧ Own B h k [eBox r₁ (Zc.c d), eBox r₂ (Zc.c (⟨0, 0⟩ : Zj))]
   | .inr x1 => e = .ret ∧ fr 4 = .p r₂ 0 ∧ Own B h k [eBox r₂ (Zc.c x1)]) ?_ ?_
 ·clear hp
  refine zu (fun st fr k => match st with | x => fr 1 = v_cells ∧ fr 2 = .p r₁ 0 ∧ fr 4 = .p r₂ 0 ∧ fr 5 = .i .i64 (((gi cells (d.Cell : Int).toNat).Next).get d.Dir) ∧ fr 18 = .ag (Zav.c (⟨1, 0, (-1), 2⟩ : A4 Int)) ∧ fr 19 = .i .i64 x ∧ Own B h k [eBox r₁ (Zc.c d), eBox r₂ (Zc.c (⟨0, 0⟩ : Zj))]) ho₁ (s := 0) (And.intro (rfl) (And.intro (rfl) (And.intro (rfl) (And.intro (rfl) (And.intro (rfl) (And.intro (rfl) (hO₃.pick [0, 1] rfl (by decide)))))))) ?_
  rintro x q₂ k₅ ⟨q₂_1, q₂_2, q₂_4, q₂_5, q₂_18, q₂_19, hO₅⟩ o₂ hp
  dsimp only [zo.s0] at hp
  refine W_sq (W_rg (Za (a_lss (a := x) (b := 4) q₂_19 rfl) (Zf (Zd (W_sq ?_)))))
  rcases Zu hp with ⟨b₁, hp⟩ | ⟨b₁, hp⟩
  ·refine W_cT (t := (decide (x < 4))) rfl b₁ ?_
   refine W_sk (Zd (W_sq (W_bl (W_sq (W_rg ?_)))))
   obtain ⟨c₃, hp⟩ := Zk hp
   refine Za (a_ix (cs := Zav.c (⟨1, 0, (-1), 2⟩ : A4 Int)) (z := x) (v := .i .i64 ((⟨1, 0, (-1), 2⟩ : A4 Int).get x)) q₂_18 q₂_19 c₃ (Za8 c₃)) (Za (a_mv (v := .i .i64 ((⟨1, 0, (-1), 2⟩ : A4 Int).get x)) rfl) (Zf (Zd (W_sq (W_rg (Za (a_mv (v := .i .i64 (((gi cells (d.Cell : Int).toNat).Next).get d.Dir)) q₂_5) (Za (a_fa (r := r₁) (o := 0) (o' := 1) q₂_2 rfl) ?_)))))))
   refine Za (Zaf (cs := (Zc.c d)) (v := .i .i64 d.Dir) (hO₅.box 0 rfl) rfl rfl) (Za (a_mv (v := .i .i64 ((⟨1, 0, (-1), 2⟩ : A4 Int).get x)) rfl) ?_)
   obtain ⟨x2, hx₁, hp⟩ := Zv hp
   obtain ⟨u₁, k₆, ca₁, rfl, hW₁⟩ := zQ.ok (h := k₅)   hx₁
   refine zS (id := 77) (caps := []) rfl (Z2 (v := .i .i64 d.Dir) rfl (Z2 (v := .i .i64 ((⟨1, 0, (-1), 2⟩ : A4 Int).get x)) rfl zi)) ca₁ ?_
   have hO₆ : Own B h k₆ [eBox r₁ (Zc.c d), eBox r₂ (Zc.c (⟨0, 0⟩ : Zj))] := hO₅.call hW₁ rfl
   refine Za (Za5 (cs := Zc.c (⟨((gi cells (d.Cell : Int).toNat).Next).get d.Dir, x2⟩ : Zj)) (by rw [(zq (v := .i .i64 (((gi cells (d.Cell : Int).toNat).Next).get d.Dir)) rfl (zq (v := .i .i64 x2) rfl ev_nil))]; rfl)) (z8 (hO₆.alloc (cs := Zc.c (⟨0, 0⟩ : Zj)) hO₆.fr) ?_)
   rintro _ k₇ ⟨r₃, rfl, n₃, f₃, hW⟩
   have hO₇ : Own B h k₇ [eBox r₁ (Zc.c d), eBox r₂ (Zc.c (⟨0, 0⟩ : Zj)), eBox r₃ (Zc.c (⟨0, 0⟩ : Zj))] := hW
   refine z8 (hO₇.stb (ws := Zc.c (⟨((gi cells (d.Cell : Int).toNat).Next).get d.Dir, x2⟩ : Zj)) (cs' := Zc.c (⟨((gi cells (d.Cell : Int).toNat).Next).get d.Dir, x2⟩ : Zj)) (v := .ag (Zc.c (⟨((gi cells (d.Cell : Int).toNat).Next).get d.Dir, x2⟩ : Zj))) 2 rfl rfl rfl rfl ⟨rfl, Nat.le_of_ble_eq_true rfl, rfl⟩ rfl) ?_
   rintro _ k₈ ⟨rfl, f₄, m₁, hW⟩
   have hO₈ : Own B h k₈ [eBox r₁ (Zc.c d), eBox r₂ (Zc.c (⟨0, 0⟩ : Zj)), eBox r₃ (Zc.c (⟨((gi cells (d.Cell : Int).toNat).Next).get d.Dir, x2⟩ : Zj))] := hW
   refine Zf (Zd (W_sq (W_rg (Za (a_ldbA (cs := (Zc.c (⟨((gi cells (d.Cell : Int).toNat).Next).get d.Dir, x2⟩ : Zj))) (ws := Zc.c (⟨((gi cells (d.Cell : Int).toNat).Next).get d.Dir, x2⟩ : Zj)) (hO₈.box 2 rfl) rfl rfl) (Za (a_mv (v := v_cells) q₂_1) ?_)))))
   obtain ⟨x3, hx₂, hp⟩ := Zv hp
   obtain ⟨u₂, k₉, ca₂, rfl, hW₂⟩ := zN.ok (h := k₈)  (hO₈.rd0 s_cells.rd : Sl Zb k₈ v_cells cells) hx₂
   refine zS (id := 220) (caps := []) rfl (Z2 (v := .ag (Zc.c (⟨((gi cells (d.Cell : Int).toNat).Next).get d.Dir, x2⟩ : Zj))) rfl (Z2 (v := v_cells) rfl zi)) ca₂ ?_
   have hO₉ : Own B h k₉ [eBox r₁ (Zc.c d), eBox r₂ (Zc.c (⟨0, 0⟩ : Zj)), eBox r₃ (Zc.c (⟨((gi cells (d.Cell : Int).toNat).Next).get d.Dir, x2⟩ : Zj))] := hO₈.call hW₂ rfl
   refine Zf (Zd ?_)
   rcases Zu hp with ⟨b₂, hp⟩ | ⟨b₂, hp⟩
   ·refine W_cT (t := x3) rfl b₂ ?_
    refine W_sq (W_rg (Za (a_ldbA (cs := (Zc.c (⟨((gi cells (d.Cell : Int).toNat).Next).get d.Dir, x2⟩ : Zj))) (ws := Zc.c (⟨((gi cells (d.Cell : Int).toNat).Next).get d.Dir, x2⟩ : Zj)) (hO₉.box 2 rfl) rfl rfl) (z8 (hO₉.stb (ws := Zc.c (⟨((gi cells (d.Cell : Int).toNat).Next).get d.Dir, x2⟩ : Zj)) (cs' := Zc.c (⟨((gi cells (d.Cell : Int).toNat).Next).get d.Dir, x2⟩ : Zj)) (v := .ag (Zc.c (⟨((gi cells (d.Cell : Int).toNat).Next).get d.Dir, x2⟩ : Zj))) 1 rfl q₂_4 rfl rfl ⟨rfl, Nat.le_of_ble_eq_true rfl, rfl⟩ rfl) ?_)))
    rintro _ k₁₀ ⟨rfl, f₅, m₂, hW⟩
    have hO₁₀ : Own B h k₁₀ [eBox r₁ (Zc.c d), eBox r₂ (Zc.c (⟨((gi cells (d.Cell : Int).toNat).Next).get d.Dir, x2⟩ : Zj)), eBox r₃ (Zc.c (⟨((gi cells (d.Cell : Int).toNat).Next).get d.Dir, x2⟩ : Zj))] := hW
    refine Zf (Zd (W_rt (zY (zh ?_))))
    have hp := Option.some.inj hp; subst hp
    refine (Or.inr (Exists.intro (.inr (⟨((gi cells (d.Cell : Int).toNat).Next).get d.Dir, x2⟩ : Zj)) (And.intro rfl (And.intro (fun h => nomatch h) (fun he => ?_)))))
    subst he; exact (And.intro rfl (And.intro (q₂_4) (hO₁₀.pick [1] rfl (by decide))))
   ·refine W_cF (t := x3) rfl b₂ ?_
    refine W_sk (z9 (Zd (W_rg ?_)))
    obtain ⟨c₄, hp⟩ := Zk hp
    refine Za (a_add (a := x) (b := 1) q₂_19 rfl c₄) (Za (a_mv (v := .i .i64 (x + 1)) rfl) (Zf ?_))
    have hp := Option.some.inj hp; subst hp
    exact (Or.inl (Exists.intro (x + 1) (And.intro rfl (And.intro rfl (And.intro (q₂_1) (And.intro (q₂_2) (And.intro (q₂_4) (And.intro (q₂_5) (And.intro (q₂_18) (And.intro (rfl) (hO₉.pick [0, 1] rfl (by decide))))))))))))
  ·refine W_cF (t := (decide (x < 4))) rfl b₁ ?_
   refine W_ex (zz ?_)
   have hp := Option.some.inj hp; subst hp
   refine (Or.inr (Exists.intro (.inl ()) (And.intro rfl (And.intro (fun h => nomatch h) (fun he => ?_)))))
   subst he; exact (And.intro rfl (And.intro (q₂_2) (And.intro (q₂_4) (hO₅.pick [0, 1] rfl (by decide)))))
 intro e₁ q₁ k₄ hJ₁
 rcases o₁ with _ | x1
 ·obtain ⟨rfl, q₁_2, q₁_4, hO₄⟩ := hJ₁
  refine zI (Zd (W_sq (W_rg (Za (a_ldbA (cs := (Zc.c d)) (ws := Zc.c d) (hO₄.box 0 rfl) q₁_2 rfl) (z8 (hO₄.stb (ws := Zc.c d) (cs' := Zc.c d) (v := .ag (Zc.c d)) 1 rfl q₁_4 rfl rfl ⟨rfl, Nat.le_of_ble_eq_true rfl, rfl⟩ rfl) ?_)))))
  rintro _ k₁₁ ⟨rfl, f₆, m₃, hW⟩
  have hO₁₁ : Own B h k₁₁ [eBox r₁ (Zc.c d), eBox r₂ (Zc.c d)] := hW
  refine Zf (Zd (W_rt (Ret_r (rs_c (n := 4) (v := .ag (Zc.c d)) (r := r₂) q₁_4 (hO₁₁.box 1 rfl) rfl rs_nil) ?_)))
  have hp := Option.some.inj hp; subst hp
  exact (And.intro rfl (hO₁₁.pick [] rfl (by decide)))
 ·obtain ⟨rfl, q₁_4, hO₄⟩ := hJ₁
  refine zY (zh (Ret_r (rs_c (n := 4) (v := .ag (Zc.c x1)) (r := r₂) q₁_4 (hO₄.box 0 rfl) rfl rs_nil) ?_))
  have hp := Option.some.inj hp; subst hp
  exact (And.intro rfl (hO₄.pick [] rfl (by decide)))

theorem zm.ok {h : Hp} {cells : List Zg} {v_cells : V} (s_cells : Sl Zb h v_cells cells) {r : (List (List Zj)) × Int} (hp : zm cells = some r) :
  ∃ u k', Is G 203 [v_cells] h u k' ∧ ∃ (v₁ : V), ∃ (vs₁ : List V), V.tu [v₁, .i .i64 r.2] = u ∧ Own (fun r => r < h.n) h k' [eSl eV v₁ vs₁, eAll Zc vs₁ r.1] := by
 refine WC.is (WC_of G_F_face_Faces ?_)
 unfold zm at hp
 let B : Nat → Prop := (fun r => r < h.n)
 have hO : Own B h h [] := Own.start0 h
 refine W_sq (W_rg (Za (a_mv (v := .sn) rfl) (Za (a_mv (v := .i .i64 0) rfl) (Zf (Zd (W_sq (W_sq ?_)))))))
 refine W_rg (Za (a_mv (v := v_cells) rfl) ?_)
 obtain ⟨x, hx₁, hp⟩ := Zv hp
 obtain ⟨u₁, k₁, ca₁, rfl, hW₁⟩ := zk.ok (h := h)  (hO.rd0 s_cells.rd : Sl Zb h v_cells cells) hx₁
 refine zS (id := 66) (caps := []) rfl (Z2 (v := v_cells) rfl zi) ca₁ ?_
 have hO₁ : Own B h k₁ [] := hO.call hW₁ rfl
 refine Za (a_mv (v := .i .i64 x) rfl) (Zf (Zd (W_sq (W_rg (Za (a_mv (v := .i .i64 x) rfl) (Za (a_neI (a := x) (b := 0) rfl rfl) (Zf ?_)))))))
 refine Zd ?_
 rcases Zu hp with ⟨b₁, hp⟩ | ⟨b₁, hp⟩
 ·refine W_cT (t := (!(decide (x = 0)))) rfl b₁ ?_
  refine W_sq (W_rg (Za (a_mv (v := .i .i64 x) rfl) (Za (a_mv (v := .sn) rfl) (Za (a_mv (v := .i .i64 x) rfl) (Zf (Zd (W_rt ?_)))))))
  refine zh ?_
  have hO₂ : Own B h k₁ [eSl eV .sn []] := hO₁.nil eV
  have hO₃ : Own B h k₁ [eSl eV .sn [], eAll Zc [] []] := hO₂.allNil Zc 0
  refine Ret_r (rs_t (n := 2) (v := .sn) rfl (rs_t (n := 3) (v := .i .i64 x) rfl rs_nil)) ?_
  have hp := Option.some.inj hp; subst hp
  exact (Exists.intro V.sn (Exists.intro [] (And.intro rfl (hO₃.pick [0, 1] rfl (by decide)))))
 ·refine W_cF (t := (!(decide (x = 0)))) rfl b₁ ?_
  refine W_sk (Zd (W_sq (W_rg (Za (a_mv (v := .sn) rfl) (Zf (Zd (W_sq ?_)))))))
  refine W_rg (z8 (hO₁.mkm Zc hO₁.fr) ?_)
  rintro _ k₂ ⟨r₁, rfl, n₁, f₁, hW⟩
  have hO₄ : Own B h k₂ [eMp Zc r₁ ([] : List (Zj × Bool))] := hW
  refine Za (a_mv (v := .mp r₁) rfl) (Zf (Zd (W_sq (W_sq (W_rg (Za (a_mv (v := v_cells) rfl) (Za (a_len (hO₄.rd0 s_cells.rd : Sl Zb k₂ v_cells cells) rfl) ?_)))))))
  refine Za (a_mv (v := .i .i64 0) rfl) (Zf (Zd (W_bl ?_)))
  obtain ⟨o₁, ho₁, hp⟩ := Zv hp
  refine W.mono (Q := fun e fr k => match (generalizing := false) o₁ with
    | l1 => e = (.exit 0) ∧ ∃ (v₃ : V), ∃ (vs₃ : List V), fr 5 = v₃ ∧ Own B h k [eSl eV v₃ vs₃, eAll Zc vs₃ l1]) ?_ ?_
  ·clear hp
   have hO₆ : Own B h k₂ [eMp Zc r₁ ([] : List (Zj × Bool)), eSl eV .sn []] := hO₄.nil eV
   have hO₇ : Own B h k₂ [eMp Zc r₁ ([] : List (Zj × Bool)), eSl eV .sn [], eAll Zc [] []] := hO₆.allNil Zc 0
   refine zu (fun st fr k => match st with | (l, met, x1) => ∃ (v₂ : V), ∃ (vs₂ : List V), fr 0 = v_cells ∧ fr 5 = v₂ ∧ fr 6 = .mp r₁ ∧ fr 19 = .i .i64 (cells.length : Int) ∧ fr 20 = .i .i64 x1 ∧ Own B h k [eSl eV v₂ vs₂, eAll Zc vs₂ l, eMp Zc r₁ met]) ho₁ (s := (([] : List (List Zj)), ([] : List (Zj × Bool)), 0)) (Exists.intro V.sn (Exists.intro [] (And.intro (rfl) (And.intro (rfl) (And.intro (rfl) (And.intro (rfl) (And.intro (rfl) (hO₇.pick [1, 2, 0] rfl (by decide))))))))) ?_
   rintro ⟨l, met, x1⟩ q₂ k₄ ⟨v₂, vs₂, q₂_0, q₂_5, q₂_6, q₂_19, q₂_20, hO₈⟩ o₂ hp
   dsimp only [zm.s0] at hp
   refine W_sq (W_rg (Za (a_lss (a := x1) (b := (cells.length : Int)) q₂_20 q₂_19) (Zf (Zd (W_sq ?_)))))
   rcases Zu hp with ⟨b₂, hp⟩ | ⟨b₂, hp⟩
   ·refine W_cT (t := (decide (x1 < (cells.length : Int)))) rfl b₂ ?_
    refine W_sk (Zd (W_sq (W_bl (W_sq (W_rg (Za (a_mv (v := .i .i64 x1) q₂_20) (Za (a_mv (v := .i .i64 x1) rfl) ?_)))))))
    refine Zf (Zd (W_sq (W_rg (Za (a_mv (v := .i .i64 0) rfl) (Zf (Zd (W_bl ?_)))))))
    obtain ⟨o₃, ho₂, hp⟩ := Zv hp
    refine W.mono (Q := fun e fr k => match (generalizing := false) o₃ with
      | (l3, met2) => e = (.exit 2) ∧ ∃ (v₅ : V), ∃ (vs₅ : List V), fr 0 = v_cells ∧ fr 5 = v₅ ∧ fr 6 = .mp r₁ ∧ fr 19 = .i .i64 (cells.length : Int) ∧ fr 20 = .i .i64 x1 ∧ Own B h k [eSl eV v₅ vs₅, eAll Zc vs₅ l3, eMp Zc r₁ met2]) ?_ ?_
    ·clear hp
     refine zu (fun st fr k => match st with | (l2, met1, x2) => ∃ (v₄ : V), ∃ (vs₄ : List V), fr 0 = v_cells ∧ fr 5 = v₄ ∧ fr 6 = .mp r₁ ∧ fr 7 = .i .i64 x1 ∧ fr 19 = .i .i64 (cells.length : Int) ∧ fr 20 = .i .i64 x1 ∧ fr 23 = .i .i64 x2 ∧ Own B h k [eSl eV v₄ vs₄, eAll Zc vs₄ l2, eMp Zc r₁ met1]) ho₂ (s := (l, met, 0)) (Exists.intro v₂ (Exists.intro vs₂ (And.intro (q₂_0) (And.intro (q₂_5) (And.intro (q₂_6) (And.intro (rfl) (And.intro (q₂_19) (And.intro (q₂_20) (And.intro (rfl) (hO₈.pick [0, 1, 2] rfl (by decide))))))))))) ?_
     rintro ⟨l2, met1, x2⟩ q₄ k₆ ⟨v₄, vs₄, q₄_0, q₄_5, q₄_6, q₄_7, q₄_19, q₄_20, q₄_23, hO₁₀⟩ o₄ hp
     dsimp only [zm.s1] at hp
     refine W_sq (W_rg (Za (a_lss (a := x2) (b := 4) q₄_23 rfl) (Zf (Zd (W_sq ?_)))))
     rcases Zu hp with ⟨b₃, hp⟩ | ⟨b₃, hp⟩
     ·refine W_cT (t := (decide (x2 < 4))) rfl b₃ ?_
      refine W_sk (Zd (W_sq (W_bl (W_sq (W_rg (Za (a_mv (v := .i .i64 x2) q₄_23) (Za (a_mv (v := .i .i64 x2) rfl) ?_)))))))
      refine Zf (Zd (W_sq (W_rg (Za (a_mv (v := .i .i64 x1) q₄_7) (Za (a_mv (v := .i .i64 x2) rfl) (Za (Za5 (cs := Zc.c (⟨x1, x2⟩ : Zj)) (by rw [(zq (v := .i .i64 x1) rfl (zq (v := .i .i64 x2) rfl ev_nil))]; rfl)) (z8 (hO₁₀.alloc (cs := Zc.c (⟨0, 0⟩ : Zj)) hO₁₀.fr) ?_)))))))
      rintro _ k₇ ⟨r₂, rfl, n₂, f₂, hW⟩
      have hO₁₁ : Own B h k₇ [eSl eV v₄ vs₄, eAll Zc vs₄ l2, eMp Zc r₁ met1, eBox r₂ (Zc.c (⟨0, 0⟩ : Zj))] := hW
      refine z8 (hO₁₁.stb (ws := Zc.c (⟨x1, x2⟩ : Zj)) (cs' := Zc.c (⟨x1, x2⟩ : Zj)) (v := .ag (Zc.c (⟨x1, x2⟩ : Zj))) 3 rfl rfl rfl rfl ⟨rfl, Nat.le_of_ble_eq_true rfl, rfl⟩ rfl) ?_
      rintro _ k₈ ⟨rfl, f₃, m₁, hW⟩
      have hO₁₂ : Own B h k₈ [eSl eV v₄ vs₄, eAll Zc vs₄ l2, eMp Zc r₁ met1, eBox r₂ (Zc.c (⟨x1, x2⟩ : Zj))] := hW
      refine Zf (Zd (W_sq (W_sq (W_rg (Za (a_ldbA (cs := (Zc.c (⟨x1, x2⟩ : Zj))) (ws := Zc.c (⟨x1, x2⟩ : Zj)) (hO₁₂.box 3 rfl) rfl rfl) (Za (a_mv (v := v_cells) q₄_0) ?_))))))
      obtain ⟨x3, hx₂, hp⟩ := Zv hp
      obtain ⟨u₂, k₉, ca₂, rfl, hW₂⟩ := zN.ok (h := k₈)  (hO₁₂.rd0 s_cells.rd : Sl Zb k₈ v_cells cells) hx₂
      refine zS (id := 220) (caps := []) rfl (Z2 (v := .ag (Zc.c (⟨x1, x2⟩ : Zj))) rfl (Z2 (v := v_cells) rfl zi)) ca₂ ?_
      have hO₁₃ : Own B h k₉ [eSl eV v₄ vs₄, eAll Zc vs₄ l2, eMp Zc r₁ met1, eBox r₂ (Zc.c (⟨x1, x2⟩ : Zj))] := hO₁₂.call hW₂ rfl
      refine Za (a_not (t := x3) rfl) (Za (a_mv (v := .b (!x3)) rfl) ?_)
      refine zB 4 (fun fr' k' => k₉ = k' ∧ fr' 37 = .b ((!x3) || (mpGet false (⟨x1, x2⟩ : Zj) met1)) ∧ fr' 0 = v_cells ∧ fr' 19 = .i .i64 (cells.length : Int) ∧ fr' 20 = .i .i64 x1 ∧ fr' 23 = .i .i64 x2 ∧ fr' 5 = v₄ ∧ fr' 6 = .mp r₁ ∧ fr' 7 = .i .i64 x1 ∧ fr' 9 = .p r₂ 0) ?_ ?_
      ·rcases bc (!x3) with b₄ | b₄
       ·skip
        refine WO_off rfl b₄ (WO_off rfl b₄ (WO_off rfl b₄ (Za (ZW (t := (!x3)) (v := .b ((!x3) || (mpGet false (⟨x1, x2⟩ : Zj) met1))) rfl b₄ (Eq.trans (b := V.b true) rfl (Zar b₄))) (Zf ?_))))
        exact ⟨rfl, rfl, q₄_0, q₄_19, q₄_20, q₄_23, q₄_5, q₄_6, q₄_7, rfl⟩
       ·skip
        refine WO_on rfl b₄ (Za (a_mv (v := .mp r₁) q₄_6) (WO_on rfl b₄ (Za (a_ldbA (cs := (Zc.c (⟨x1, x2⟩ : Zj))) (ws := Zc.c (⟨x1, x2⟩ : Zj)) (hO₁₃.box 3 rfl) rfl rfl) (WO_on rfl b₄ (Za (a_mlk (E := Zc) (m := met1) (q := (⟨x1, x2⟩ : Zj)) (hO₁₃.mpP 2 rfl) rfl rfl (Mu.Zc.same)) (Za (ZT (t := (!x3)) (v := .b ((!x3) || (mpGet false (⟨x1, x2⟩ : Zj) met1))) rfl b₄ (Eq.trans (b := V.b (mpGet false (⟨x1, x2⟩ : Zj) met1)) rfl (Zaz b₄))) (Zf ?_)))))))
        exact ⟨rfl, rfl, q₄_0, q₄_19, q₄_20, q₄_23, q₄_5, q₄_6, q₄_7, rfl⟩
      rintro frg₁ _ ⟨rfl, g₁_37, g₁_0, g₁_19, g₁_20, g₁_23, g₁_5, g₁_6, g₁_7, g₁_9⟩
      refine Zf (Zd ?_)
      rcases Zu hp with ⟨b₅, hp⟩ | ⟨b₅, hp⟩
      ·refine W_cT (t := ((!x3) || (mpGet false (⟨x1, x2⟩ : Zj) met1))) g₁_37 b₅ ?_
       refine W_ex (zz (zI (Zd (W_rg ?_))))
       obtain ⟨c₁, hp⟩ := Zk hp
       refine Za (a_add (a := x2) (b := 1) g₁_23 rfl c₁) (Za (a_mv (v := .i .i64 (x2 + 1)) rfl) (Zf ?_))
       have hp := Option.some.inj hp; subst hp
       exact (Or.inl (Exists.intro (l2, met1, x2 + 1) (And.intro rfl (And.intro rfl (Exists.intro v₄ (Exists.intro vs₄ (And.intro (g₁_0) (And.intro (g₁_5) (And.intro (g₁_6) (And.intro (g₁_7) (And.intro (g₁_19) (And.intro (g₁_20) (And.intro (rfl) (hO₁₃.pick [0, 1, 2] rfl (by decide)))))))))))))))
      ·refine W_cF (t := ((!x3) || (mpGet false (⟨x1, x2⟩ : Zj) met1))) g₁_37 b₅ ?_
       refine W_sk (Zd (W_sq (W_rg (Za (a_mv (v := .sn) rfl) (Zf (Zd (W_sq ?_)))))))
       refine W_sq (W_rg (Za (a_ldbA (cs := (Zc.c (⟨x1, x2⟩ : Zj))) (ws := Zc.c (⟨x1, x2⟩ : Zj)) (hO₁₃.box 3 rfl) g₁_9 rfl) (z8 (hO₁₃.alloc (cs := Zc.c (⟨0, 0⟩ : Zj)) hO₁₃.fr) ?_)))
       rintro _ k₁₀ ⟨r₃, rfl, n₃, f₄, hW⟩
       have hO₁₄ : Own B h k₁₀ [eSl eV v₄ vs₄, eAll Zc vs₄ l2, eMp Zc r₁ met1, eBox r₂ (Zc.c (⟨x1, x2⟩ : Zj)), eBox r₃ (Zc.c (⟨0, 0⟩ : Zj))] := hW
       refine z8 (hO₁₄.stb (ws := Zc.c (⟨x1, x2⟩ : Zj)) (cs' := Zc.c (⟨x1, x2⟩ : Zj)) (v := .ag (Zc.c (⟨x1, x2⟩ : Zj))) 4 rfl rfl rfl rfl ⟨rfl, Nat.le_of_ble_eq_true rfl, rfl⟩ rfl) ?_
       rintro _ k₁₁ ⟨rfl, f₅, m₂, hW⟩
       have hO₁₅ : Own B h k₁₁ [eSl eV v₄ vs₄, eAll Zc vs₄ l2, eMp Zc r₁ met1, eBox r₂ (Zc.c (⟨x1, x2⟩ : Zj)), eBox r₃ (Zc.c (⟨x1, x2⟩ : Zj))] := hW
       refine Zf (Zd (W_bl ?_))
       obtain ⟨o₅, ho₃, hp⟩ := Zv hp
       refine W.mono (Q := fun e fr k => match (generalizing := false) o₅ with
         | (met4, f1) => e = (.exit 4) ∧ ∃ (v₇ : V), fr 0 = v_cells ∧ fr 5 = v₄ ∧ fr 6 = .mp r₁ ∧ fr 7 = .i .i64 x1 ∧ fr 10 = v₇ ∧ fr 19 = .i .i64 (cells.length : Int) ∧ fr 20 = .i .i64 x1 ∧ fr 23 = .i .i64 x2 ∧ Own B h k [eSl eV v₄ vs₄, eAll Zc vs₄ l2, eMp Zc r₁ met4, eSl Zc v₇ f1]) ?_ ?_
       ·clear hp
        have hO₁₇ : Own B h k₁₁ [eSl eV v₄ vs₄, eAll Zc vs₄ l2, eMp Zc r₁ met1, eBox r₂ (Zc.c (⟨x1, x2⟩ : Zj)), eBox r₃ (Zc.c (⟨x1, x2⟩ : Zj)), eSl Zc .sn ([] : List Zj)] := hO₁₅.nil Zc
        refine zu (fun st fr k => match st with | (met3, f, x4) => ∃ (v₆ : V), ∃ (r₄ : Nat), fr 0 = v_cells ∧ fr 5 = v₄ ∧ fr 6 = .mp r₁ ∧ fr 7 = .i .i64 x1 ∧ fr 10 = v₆ ∧ fr 11 = .p r₄ 0 ∧ fr 19 = .i .i64 (cells.length : Int) ∧ fr 20 = .i .i64 x1 ∧ fr 23 = .i .i64 x2 ∧ Own B h k [eSl eV v₄ vs₄, eAll Zc vs₄ l2, eMp Zc r₁ met3, eSl Zc v₆ f, eBox r₄ (Zc.c x4)]) ho₃ (s := (met1, ([] : List Zj), (⟨x1, x2⟩ : Zj))) (Exists.intro V.sn (Exists.intro r₃ (And.intro (g₁_0) (And.intro (g₁_5) (And.intro (g₁_6) (And.intro (g₁_7) (And.intro (rfl) (And.intro (rfl) (And.intro (g₁_19) (And.intro (g₁_20) (And.intro (g₁_23) (hO₁₇.pick [0, 1, 2, 5, 4] rfl (by decide))))))))))))) ?_
        rintro ⟨met3, f, x4⟩ q₆ k₁₃ ⟨v₆, r₄, q₆_0, q₆_5, q₆_6, q₆_7, q₆_10, q₆_11, q₆_19, q₆_20, q₆_23, hO₁₈⟩ o₆ hp
        dsimp only [zm.s2] at hp
        refine W_sq (W_sq (W_rg (Za (a_mv (v := .mp r₁) q₆_6) (Za (a_ldbA (cs := (Zc.c x4)) (ws := Zc.c x4) (hO₁₈.box 4 rfl) q₆_11 rfl) (Za (a_mlk (E := Zc) (m := met3) (q := x4) (hO₁₈.mpP 2 rfl) rfl rfl (Mu.Zc.same)) (Za (a_not (t := (mpGet false x4 met3)) rfl) (Zf ?_)))))))
        refine Zd ?_
        rcases Zu hp with ⟨b₆, hp⟩ | ⟨b₆, hp⟩
        ·refine W_cT (t := (!(mpGet false x4 met3))) rfl b₆ ?_
         refine W_sk (Zd (W_sq (W_bl (W_sq (W_rg (Za (a_mv (v := .mp r₁) q₆_6) (Za (a_ldbA (cs := (Zc.c x4)) (ws := Zc.c x4) (hO₁₈.box 4 rfl) q₆_11 rfl) ?_)))))))
         refine z8 (hO₁₈.mup (E := Zc) (m := met3) (q := x4) (v := true) 2 rfl rfl rfl rfl (Mu.Zc.same)) ?_
         rintro _ k₁₄ ⟨rfl, f₆, m₃, hW⟩
         have hO₁₉ : Own B h k₁₄ [eSl eV v₄ vs₄, eAll Zc vs₄ l2, eMp Zc r₁ (mpSet x4 true met3), eSl Zc v₆ f, eBox r₄ (Zc.c x4)] := hW
         refine Zf (Zd (W_rg (Za (a_mv (v := v₆) q₆_10) (Za (a_ldbA (cs := (Zc.c x4)) (ws := Zc.c x4) (hO₁₉.box 4 rfl) q₆_11 rfl) (z8 (hO₁₉.bsl (E := Zc) (l := [x4]) hO₁₉.fr (by rw [(zq (v := .ag (Zc.c x4)) rfl ev_nil)]; rfl) rfl) ?_)))))
         rintro v₈ k₁₅ ⟨r₅, f₇, hW⟩
         have hO₂₀ : Own B h k₁₅ [eSl eV v₄ vs₄, eAll Zc vs₄ l2, eMp Zc r₁ (mpSet x4 true met3), eSl Zc v₆ f, eBox r₄ (Zc.c x4), eSl Zc v₈ [x4]] := hW
         obtain ⟨c₂, hp⟩ := Zk hp
         refine z8 (hO₂₀.app (E := Zc) (bytes := 16) 3 hO₂₀.fr rfl (hO₂₀.sl 5 rfl : Sl Zc k₁₅ v₈ [x4]) rfl rfl (fun _ => rfl) c₂ (by decide)) ?_
         rintro v₉ k₁₆ ⟨f₈, hW⟩
         have hO₂₁ : Own B h k₁₆ [eSl eV v₄ vs₄, eAll Zc vs₄ l2, eMp Zc r₁ (mpSet x4 true met3), eSl Zc v₉ (f ++ [x4]), eBox r₄ (Zc.c x4), eSl Zc v₈ [x4]] := hW
         refine Za (a_mv (v := v₉) rfl) (Zf (z9 (Zd (W_sq (W_sq (W_rg (Za (a_ldbA (cs := (Zc.c x4)) (ws := Zc.c x4) (hO₂₁.box 4 rfl) q₆_11 rfl) ?_)))))))
         refine Zf (Zd (W_rg (z8 (hO₂₁.alloc (cs := Zc.c (⟨0, 0⟩ : Zj)) hO₂₁.fr) ?_)))
         rintro _ k₁₇ ⟨r₆, rfl, n₄, f₉, hW⟩
         have hO₂₂ : Own B h k₁₇ [eSl eV v₄ vs₄, eAll Zc vs₄ l2, eMp Zc r₁ (mpSet x4 true met3), eSl Zc v₉ (f ++ [x4]), eBox r₄ (Zc.c x4), eSl Zc v₈ [x4], eBox r₆ (Zc.c (⟨0, 0⟩ : Zj))] := hW
         refine z8 (hO₂₂.stb (ws := Zc.c x4) (cs' := Zc.c x4) (v := .ag (Zc.c x4)) 6 rfl rfl rfl rfl ⟨rfl, Nat.le_of_ble_eq_true rfl, rfl⟩ rfl) ?_
         rintro _ k₁₈ ⟨rfl, f₁₀, m₄, hW⟩
         have hO₂₃ : Own B h k₁₈ [eSl eV v₄ vs₄, eAll Zc vs₄ l2, eMp Zc r₁ (mpSet x4 true met3), eSl Zc v₉ (f ++ [x4]), eBox r₄ (Zc.c x4), eSl Zc v₈ [x4], eBox r₆ (Zc.c x4)] := hW
         refine Zf (Zd (W_rg (Za (a_ldbA (cs := (Zc.c x4)) (ws := Zc.c x4) (hO₂₃.box 6 rfl) rfl rfl) (Za (a_mv (v := v_cells) q₆_0) ?_))))
         obtain ⟨x5, hx₃, hp⟩ := Zv hp
         obtain ⟨u₃, k₁₉, ca₃, rfl, hW₃⟩ := zo.ok (h := k₁₈)  (hO₂₃.rd0 s_cells.rd : Sl Zb k₁₈ v_cells cells) hx₃
         refine zS (id := 221) (caps := []) rfl (Z2 (v := .ag (Zc.c x4)) rfl (Z2 (v := v_cells) rfl zi)) ca₃ ?_
         have hO₂₄ : Own B h k₁₉ [eSl eV v₄ vs₄, eAll Zc vs₄ l2, eMp Zc r₁ (mpSet x4 true met3), eSl Zc v₉ (f ++ [x4]), eBox r₄ (Zc.c x4), eSl Zc v₈ [x4], eBox r₆ (Zc.c x4)] := hO₂₃.call hW₃ rfl
         refine z8 (hO₂₄.stb (ws := Zc.c x5) (cs' := Zc.c x5) (v := .ag (Zc.c x5)) 6 rfl rfl rfl rfl ⟨rfl, Nat.le_of_ble_eq_true rfl, rfl⟩ rfl) ?_
         rintro _ k₂₀ ⟨rfl, f₁₁, m₅, hW⟩
         have hO₂₅ : Own B h k₂₀ [eSl eV v₄ vs₄, eAll Zc vs₄ l2, eMp Zc r₁ (mpSet x4 true met3), eSl Zc v₉ (f ++ [x4]), eBox r₄ (Zc.c x4), eSl Zc v₈ [x4], eBox r₆ (Zc.c x5)] := hW
         refine Zf ?_
         have hp := Option.some.inj hp; subst hp
         exact (Or.inl (Exists.intro (mpSet x4 true met3, f ++ [x4], x5) (And.intro rfl (And.intro rfl (Exists.intro v₉ (Exists.intro r₆ (And.intro (q₆_0) (And.intro (q₆_5) (And.intro (q₆_6) (And.intro (q₆_7) (And.intro (rfl) (And.intro (rfl) (And.intro (q₆_19) (And.intro (q₆_20) (And.intro (q₆_23) (hO₂₅.pick [0, 1, 2, 3, 6] rfl (by decide)))))))))))))))))
        ·refine W_cF (t := (!(mpGet false x4 met3))) rfl b₆ ?_
         refine W_ex (zz ?_)
         have hp := Option.some.inj hp; subst hp
         refine (Or.inr (Exists.intro (met3, f) (And.intro rfl (And.intro (fun h => nomatch h) (fun he => ?_)))))
         subst he; exact (And.intro rfl (Exists.intro v₆ (And.intro (q₆_0) (And.intro (q₆_5) (And.intro (q₆_6) (And.intro (q₆_7) (And.intro (q₆_10) (And.intro (q₆_19) (And.intro (q₆_20) (And.intro (q₆_23) (hO₁₈.pick [0, 1, 2, 3] rfl (by decide))))))))))))
       intro e₃ q₅ k₁₂ hJ₃
       obtain ⟨met4, f1⟩ := o₅
       obtain ⟨rfl, v₇, q₅_0, q₅_5, q₅_6, q₅_7, q₅_10, q₅_19, q₅_20, q₅_23, hO₁₆⟩ := hJ₃
       refine zI (Zd (W_rg (Za (a_mv (v := v₄) q₅_5) (Za (a_mv (v := v₇) q₅_10) (z8 (hO₁₆.bsl (E := eV) (l := [v₇]) hO₁₆.fr (by rw [(zq (v := v₇) rfl ev_nil)]; simp [fill, over, (hO₁₆.sl 3 rfl : Sl Zc k₁₂ v₇ f1).cells]) rfl) ?_)))))
       rintro v₁₀ k₂₁ ⟨r₇, f₁₂, hW⟩
       have hO₂₆ : Own B h k₂₁ [eSl eV v₄ vs₄, eAll Zc vs₄ l2, eMp Zc r₁ met4, eSl Zc v₇ f1, eSl eV v₁₀ [v₇]] := hW
       obtain ⟨c₃, hp⟩ := Zk hp
       refine z8 (hO₂₆.appV (bytes := 24) 0 hO₂₆.fr rfl (hO₂₆.sl 4 rfl : Sl eV k₂₁ v₁₀ [v₇]) rfl rfl (by simp only [List.all_cons, List.all_nil, Bool.and_true]; exact (hO₂₆.sl 3 rfl : Sl Zc k₂₁ v₇ f1).oneV) (by rw [(hO₂₆.allLen 1 rfl : (vs₄).length = (l2).length)]; exact c₃) (by decide)) ?_
       rintro v₁₁ k₂₂ ⟨f₁₃, hW⟩
       have hO₂₇ : Own B h k₂₂ [eSl eV v₁₁ (vs₄ ++ [v₇]), eAll Zc vs₄ l2, eMp Zc r₁ met4, eSl Zc v₇ f1, eSl eV v₁₀ [v₇]] := hW
       have hO₂₈ : Own B h k₂₂ [eSl eV v₁₁ (vs₄ ++ [v₇]), eAll Zc (vs₄ ++ [v₇]) (l2 ++ [f1]), eMp Zc r₁ met4, eNone, eSl eV v₁₀ [v₇]] := hO₂₇.absorb 1 3 rfl rfl (by decide)
       refine Za (a_mv (v := v₁₁) rfl) (Zf (z9 (Zd (W_rg ?_))))
       obtain ⟨c₄, hp⟩ := Zk hp
       refine Za (a_add (a := x2) (b := 1) q₅_23 rfl c₄) (Za (a_mv (v := .i .i64 (x2 + 1)) rfl) (Zf ?_))
       have hp := Option.some.inj hp; subst hp
       exact (Or.inl (Exists.intro (l2 ++ [f1], met4, x2 + 1) (And.intro rfl (And.intro rfl (Exists.intro v₁₁ (Exists.intro (vs₄ ++ [v₇]) (And.intro (q₅_0) (And.intro (rfl) (And.intro (q₅_6) (And.intro (q₅_7) (And.intro (q₅_19) (And.intro (q₅_20) (And.intro (rfl) (hO₂₈.pick [0, 1, 2] rfl (by decide)))))))))))))))
     ·refine W_cF (t := (decide (x2 < 4))) rfl b₃ ?_
      refine W_ex (zz ?_)
      have hp := Option.some.inj hp; subst hp
      refine (Or.inr (Exists.intro (l2, met1) (And.intro rfl (And.intro (fun h => nomatch h) (fun he => ?_)))))
      subst he; exact (And.intro rfl (Exists.intro v₄ (Exists.intro vs₄ (And.intro (q₄_0) (And.intro (q₄_5) (And.intro (q₄_6) (And.intro (q₄_19) (And.intro (q₄_20) (hO₁₀.pick [0, 1, 2] rfl (by decide))))))))))
    intro e₂ q₃ k₅ hJ₂
    obtain ⟨l3, met2⟩ := o₃
    obtain ⟨rfl, v₅, vs₅, q₃_0, q₃_5, q₃_6, q₃_19, q₃_20, hO₉⟩ := hJ₂
    refine zI (z9 (Zd (W_rg ?_)))
    obtain ⟨c₅, hp⟩ := Zk hp
    refine Za (a_add (a := x1) (b := 1) q₃_20 rfl c₅) (Za (a_mv (v := .i .i64 (x1 + 1)) rfl) (Zf ?_))
    have hp := Option.some.inj hp; subst hp
    exact (Or.inl (Exists.intro (l3, met2, x1 + 1) (And.intro rfl (And.intro rfl (Exists.intro v₅ (Exists.intro vs₅ (And.intro (q₃_0) (And.intro (q₃_5) (And.intro (q₃_6) (And.intro (q₃_19) (And.intro (rfl) (hO₉.pick [0, 1, 2] rfl (by decide)))))))))))))
   ·refine W_cF (t := (decide (x1 < (cells.length : Int)))) rfl b₂ ?_
    refine W_ex (zz ?_)
    have hp := Option.some.inj hp; subst hp
    refine (Or.inr (Exists.intro l (And.intro rfl (And.intro (fun h => nomatch h) (fun he => ?_)))))
    subst he; exact (And.intro rfl (Exists.intro v₂ (Exists.intro vs₂ (And.intro (q₂_5) (hO₈.pick [0, 1] rfl (by decide))))))
  intro e₁ q₁ k₃ hJ₁
  obtain ⟨l1, rfl⟩ : ∃ x, x = o₁ := ⟨_, rfl⟩
  obtain ⟨rfl, v₃, vs₃, q₁_5, hO₅⟩ := hJ₁
  refine zI (Zd (W_sq (W_rg (Za (a_mv (v := v₃) q₁_5) (Za (a_mv (v := v₃) rfl) (Za (a_mv (v := .i .i64 0) rfl) (Zf ?_)))))))
  refine Zd (W_rt (Ret_r (rs_t (n := 2) (v := v₃) rfl (rs_t (n := 3) (v := .i .i64 0) rfl rs_nil)) ?_))
  have hp := Option.some.inj hp; subst hp
  exact (Exists.intro v₃ (Exists.intro vs₃ (And.intro rfl (hO₅.pick [0, 1] rfl (by decide)))))

theorem Zaj.ok {h : Hp} {d : Int} {e_ : Int}   {r : Int} (hp : Zaj d e_ = some r) :
  ∃ u k', Is G 222 [.i .i64 d, .i .i64 e_] h u k' ∧ V.i .i64 r = u ∧ Own (fun r => r < h.n) h k' [] := by
 refine WC.is (WC_of G_F_compass_Turn ?_)
 unfold Zaj at hp
 let B : Nat → Prop := (fun r => r < h.n)
 have hO : Own B h h [] := Own.start0 h
 refine W_sq (W_rg (Za (a_mv (v := .i .i64 0) rfl) (Zf (Zd (W_sq (W_sq (W_rg ?_)))))))
 refine Za (a_mv (v := .i .i64 d) rfl) ?_
 obtain ⟨x, hx₁, hp⟩ := Zv hp
 obtain ⟨u₁, k₁, ca₁, rfl, hW₁⟩ := zM.ok (h := h)   hx₁
 refine zS (id := 90) (caps := []) rfl (Z2 (v := .i .i64 d) rfl zi) ca₁ ?_
 have hO₁ : Own B h k₁ [] := hO.call hW₁ rfl
 refine Za (a_not (t := x) rfl) (Za (a_mv (v := .b (!x)) rfl) ?_)
 obtain ⟨t, hv₁, hp⟩ := Zv hp
 refine zB 4 (fun fr' k' => Own B h k' [] ∧ fr' 12 = .b t ∧ fr' 0 = .i .i64 d ∧ fr' 1 = .i .i64 e_) ?_ ?_
 ·clear hp; rcases Zu hv₁ with ⟨b₁, hp⟩ | ⟨b₁, hp⟩
  ·skip
   refine WO_off rfl b₁ (WO_off rfl b₁ (WO_off rfl b₁ (Za (ZW (t := (!x)) (v := .b t) rfl b₁ (Eq.trans (b := V.b true) rfl (congrArg V.b (Option.some.inj hp)))) (Zf ?_))))
   exact ⟨hO₁.pick [] rfl (by decide), rfl, rfl, rfl⟩
  ·skip
   refine WO_on rfl b₁ (Za (a_mv (v := .i .i64 e_) rfl) (WO_on rfl b₁ ?_))
   obtain ⟨x1, hx₂, hp⟩ := Zv hp
   obtain ⟨u₂, k₂, ca₂, rfl, hW₂⟩ := zM.ok (h := k₁)   hx₂
   refine zS (id := 90) (caps := []) rfl (Z2 (v := .i .i64 e_) rfl zi) ca₂ ?_
   have hO₂ : Own B h k₂ [] := hO₁.call hW₂ rfl
   refine WO_on rfl b₁ (Za (a_not (t := x1) rfl) (Za (ZT (t := (!x)) (v := .b t) rfl b₁ (Eq.trans (b := V.b (!x1)) rfl (congrArg V.b (Option.some.inj hp)))) (Zf ?_)))
   exact ⟨hO₂.pick [] rfl (by decide), rfl, rfl, rfl⟩
 rintro frg₁ k₃ ⟨hO₃, g₁_12, g₁_0, g₁_1⟩
 refine Zf (Zd ?_)
 rcases Zu hp with ⟨b₂, hp⟩ | ⟨b₂, hp⟩
 ·refine W_cT (t := t) g₁_12 b₂ ?_
  refine W_sq (W_rg (Za (a_mv (v := .i .i64 0) rfl) (Zf (Zd (W_rt (zh (Ret_r (rs_t (n := 4) (v := .i .i64 0) rfl rs_nil) ?_)))))))
  have hp := Option.some.inj hp; subst hp
  exact (And.intro rfl (hO₃.pick [] rfl (by decide)))
 ·refine W_cF (t := t) g₁_12 b₂ ?_
  refine W_sk (Zd (W_sq (W_rg (Za (Za5 (cs := Zav.c (⟨0, 1, (-2), (-1)⟩ : A4 Int)) (by rw [(zq (v := .i .i64 0) rfl (zq (v := .i .i64 1) rfl (zq (v := .i .i64 (-2)) rfl (zq (v := .i .i64 (-1)) rfl ev_nil))))]; rfl)) (Za (a_mv (v := .i .i64 e_) g₁_1) (Za (a_mv (v := .i .i64 d) g₁_0) ?_))))))
  obtain ⟨c₁, hp⟩ := Zk hp
  refine Za (a_sub (a := e_) (b := d) rfl rfl c₁) ?_
  obtain ⟨c₂, hp⟩ := Zk hp
  refine Za (a_add (a := (e_ - d)) (b := 4) rfl rfl c₂) (Za (a_rem (a := ((e_ - d) + 4)) (b := 4) rfl rfl (by decide)) ?_)
  obtain ⟨c₃, hp⟩ := Zk hp
  refine Za (a_ix (cs := Zav.c (⟨0, 1, (-2), (-1)⟩ : A4 Int)) (z := (((e_ - d) + 4).tmod 4)) (v := .i .i64 ((⟨0, 1, (-2), (-1)⟩ : A4 Int).get (((e_ - d) + 4).tmod 4))) rfl rfl c₃ (Za8 c₃)) (Za (a_mv (v := .i .i64 ((⟨0, 1, (-2), (-1)⟩ : A4 Int).get (((e_ - d) + 4).tmod 4))) rfl) (Zf (Zd (W_rt (Ret_r (rs_t (n := 4) (v := .i .i64 ((⟨0, 1, (-2), (-1)⟩ : A4 Int).get (((e_ - d) + 4).tmod 4))) rfl rs_nil) ?_)))))
  have hp := Option.some.inj hp; subst hp
  exact (And.intro rfl (hO₃.pick [] rfl (by decide)))

theorem zK.ok {h : Hp} {cells : List Zg} {f : List Zj} {v_cells : V} {v_f : V} (s_cells : Sl Zb h v_cells cells) (s_f : Sl Zc h v_f f) {r : (List Int)} (hp : zK cells f = some r) :
  ∃ u k', Is G 204 [v_cells, v_f] h u k' ∧ ∃ (v₁ : V), v₁ = u ∧ Own (fun r => r < h.n) h k' [eSl eInt v₁ r] := by
 refine WC.is (WC_of G_F_face_Turns ?_)
 unfold zK at hp
 let B : Nat → Prop := (fun r => r < h.n)
 have hO : Own B h h [] := Own.start0 h
 refine W_sq (W_rg (Za (a_mv (v := .sn) rfl) (Zf (Zd (W_sq (W_rg (Za (a_mv (v := v_f) rfl) ?_)))))))
 refine Za (a_len (hO.rd0 s_f.rd : Sl Zc h v_f f) rfl) ?_
 obtain ⟨c₁, hp⟩ := Zk hp
 refine z8 (hO.mks (E := eInt) (y := (0 : Int)) (bytes := 8) (z := (f.length : Int)) hO.fr rfl rfl rfl c₁ (by decide)) ?_
 rintro v₂ k₁ ⟨r₁, f₁, hW⟩
 have hO₁ : Own B h k₁ [eSl eInt v₂ (List.replicate ((f.length : Int) : Int).toNat (0 : Int))] := hW
 refine Za (a_mv (v := v₂) rfl) (Zf (Zd (W_sq (W_sq (W_rg (Za (a_mv (v := v_cells) rfl) ?_))))))
 obtain ⟨x, hx₁, hp⟩ := Zv hp
 obtain ⟨u₁, k₂, ca₁, rfl, hW₁⟩ := zk.ok (h := k₁)  (hO₁.rd0 s_cells.rd : Sl Zb k₁ v_cells cells) hx₁
 refine zS (id := 66) (caps := []) rfl (Z2 (v := v_cells) rfl zi) ca₁ ?_
 have hO₂ : Own B h k₂ [eSl eInt v₂ (List.replicate ((f.length : Int) : Int).toNat (0 : Int))] := hO₁.call hW₁ rfl
 refine Za (a_neI (a := x) (b := 0) rfl rfl) (Zf (Zd ?_))
 rcases Zu hp with ⟨b₁, hp⟩ | ⟨b₁, hp⟩
 ·refine W_cT (t := (!(decide (x = 0)))) rfl b₁ ?_
  refine W_sq (W_rg (Za (a_mv (v := v₂) rfl) (Za (a_mv (v := v₂) rfl) (Zf (Zd (W_rt (zh ?_)))))))
  refine Ret_r (rs_t (n := 4) (v := v₂) rfl rs_nil) ?_
  have hp := Option.some.inj hp; subst hp
  exact (Exists.intro v₂ (And.intro rfl (hO₂.pick [0] rfl (by decide))))
 ·refine W_cF (t := (!(decide (x = 0)))) rfl b₁ ?_
  refine W_sk (Zd (W_sq (W_sq (W_rg (Za (a_mv (v := v_f) rfl) (Za (a_len (hO₂.rd0 s_f.rd : Sl Zc k₂ v_f f) rfl) (Za (a_mv (v := .i .i64 0) rfl) ?_)))))))
  refine Zf (Zd (W_bl ?_))
  obtain ⟨o₁, ho₁, hp⟩ := Zv hp
  refine W.mono (Q := fun e fr k => match (generalizing := false) o₁ with
    | l1 => e = (.exit 0) ∧ fr 5 = v₂ ∧ Own B h k [eSl eInt v₂ l1]) ?_ ?_
  ·clear hp
   refine zu (fun st fr k => match st with | (l, x1) => fr 0 = v_cells ∧ fr 5 = v₂ ∧ fr 15 = v_f ∧ fr 16 = .i .i64 (f.length : Int) ∧ fr 17 = .i .i64 x1 ∧ Own B h k [eSl eInt v₂ l]) ho₁ (s := (List.replicate ((f.length : Int) : Int).toNat (0 : Int), 0)) (And.intro (rfl) (And.intro (rfl) (And.intro (rfl) (And.intro (rfl) (And.intro (rfl) (hO₂.pick [0] rfl (by decide))))))) ?_
   rintro ⟨l, x1⟩ q₂ k₄ ⟨q₂_0, q₂_5, q₂_15, q₂_16, q₂_17, hO₄⟩ o₂ hp
   dsimp only [zK.s0] at hp
   refine W_sq (W_rg (Za (a_lss (a := x1) (b := (f.length : Int)) q₂_17 q₂_16) (Zf (Zd (W_sq ?_)))))
   rcases Zu hp with ⟨b₂, hp⟩ | ⟨b₂, hp⟩
   ·refine W_cT (t := (decide (x1 < (f.length : Int)))) rfl b₂ ?_
    refine W_sk (Zd (W_sq (W_bl (W_sq (W_rg (Za (a_mv (v := .i .i64 x1) q₂_17) ?_))))))
    obtain ⟨c₂, hp⟩ := Zk hp
    refine Za (a_ixa (E := Zc) (z := x1) (hO₄.rd0 s_f.rd : Sl Zc k₄ v_f f) q₂_15 q₂_17 c₂) (Za (Za7 (E := Zc) (hO₄.rd0 s_f.rd : Sl Zc k₄ v_f f) rfl (Zm c₂)) (z8 (hO₄.alloc (cs := Zc.c (⟨0, 0⟩ : Zj)) hO₄.fr) ?_))
    rintro _ k₅ ⟨r₂, rfl, n₁, f₂, hW⟩
    have hO₅ : Own B h k₅ [eSl eInt v₂ l, eBox r₂ (Zc.c (⟨0, 0⟩ : Zj))] := hW
    refine Za (a_mv (v := .i .i64 x1) rfl) (z8 (hO₅.stb (ws := Zc.c (gi f (x1 : Int).toNat)) (cs' := Zc.c (gi f (x1 : Int).toNat)) (v := .ag (Zc.c (gi f (x1 : Int).toNat))) 1 rfl rfl rfl rfl ⟨rfl, Nat.le_of_ble_eq_true rfl, rfl⟩ rfl) ?_)
    rintro _ k₆ ⟨rfl, f₃, m₁, hW⟩
    have hO₆ : Own B h k₆ [eSl eInt v₂ l, eBox r₂ (Zc.c (gi f (x1 : Int).toNat))] := hW
    refine Zf (Zd (W_sq (W_rg (Za (a_ldbA (cs := (Zc.c (gi f (x1 : Int).toNat))) (ws := Zc.c (gi f (x1 : Int).toNat)) (hO₆.box 1 rfl) rfl rfl) (Za (a_mv (v := v_cells) q₂_0) ?_)))))
    obtain ⟨x2, hx₂, hp⟩ := Zv hp
    obtain ⟨u₂, k₇, ca₂, rfl, hW₂⟩ := zN.ok (h := k₆)  (hO₆.rd0 s_cells.rd : Sl Zb k₆ v_cells cells) hx₂
    refine zS (id := 220) (caps := []) rfl (Z2 (v := .ag (Zc.c (gi f (x1 : Int).toNat))) rfl (Z2 (v := v_cells) rfl zi)) ca₂ ?_
    have hO₇ : Own B h k₇ [eSl eInt v₂ l, eBox r₂ (Zc.c (gi f (x1 : Int).toNat))] := hO₆.call hW₂ rfl
    refine Zf (Zd ?_)
    rcases Zu hp with ⟨b₃, hp⟩ | ⟨b₃, hp⟩
    ·refine W_cT (t := x2) rfl b₃ ?_
     refine W_dr ?_
     have hW := hO₇.bump 11
     have fr₁ := Fresh.start k₇ 11
     have nb₁ : ∀ {i : Nat}, h.n ≤ k₇.n + i := Nat.le_trans hO₇.n (Nat.le_add_right _ _)
     have hO₈ : Own B h (k₇.bump 11) [eSl eInt v₂ l, eBox r₂ (Zc.c (gi f (x1 : Int).toNat))] := hW
     refine zH (a_mv (v := v₂) q₂_5) (zH (a_mv (v := .i .i64 x1) rfl) (zH (a_fa (r := r₂) (o := 0) (o' := 1) rfl rfl) (zH (Zaf (cs := (Zc.c (gi f (x1 : Int).toNat))) (v := .i .i64 ((gi f (x1 : Int).toNat).Dir)) (hO₈.box 1 rfl) rfl rfl) (zH (a_ldbA (cs := (Zc.c (gi f (x1 : Int).toNat))) (ws := Zc.c (gi f (x1 : Int).toNat)) (hO₈.box 1 rfl) rfl rfl) (zH (a_mv (v := v_cells) q₂_0) ?_)))))
     obtain ⟨x3, hx₃, hp⟩ := Zv hp
     obtain ⟨u₃, k₉, ca₃, rfl, hW₃⟩ := zo.ok (h := (k₇.bump 11))  (hO₈.rd0 s_cells.rd : Sl Zb (k₇.bump 11) v_cells cells) hx₃
     refine WD_c (id := 221) (caps := []) rfl (Z2 (v := .ag (Zc.c (gi f (x1 : Int).toNat))) rfl (Z2 (v := v_cells) rfl zi)) ca₃ ?_
     have fr₂ := fr₁.call hW₃
     have hO₉ : Own B h k₉ [eSl eInt v₂ l, eBox r₂ (Zc.c (gi f (x1 : Int).toNat))] := hO₈.call hW₃ rfl
     refine zH (a_fld (cs := Zc.c x3) (v := .i .i64 x3.Dir) rfl rfl) ?_
     obtain ⟨x4, hx₄, hp⟩ := Zv hp
     obtain ⟨u₄, k₁₀, ca₄, rfl, hW₄⟩ := Zaj.ok (h := k₉)   hx₄
     refine WD_c (id := 222) (caps := []) rfl (Z2 (v := .i .i64 ((gi f (x1 : Int).toNat).Dir)) rfl (Z2 (v := .i .i64 x3.Dir) rfl zi)) ca₄ ?_
     have fr₃ := fr₂.call hW₄
     have hO₁₀ : Own B h k₁₀ [eSl eInt v₂ l, eBox r₂ (Zc.c (gi f (x1 : Int).toNat))] := hO₉.call hW₄ rfl
     obtain ⟨c₃, hp⟩ := Zk hp
     refine zH (a_ixa (E := eInt) (z := x1) (hO₁₀.sl 0 rfl : Sl eInt k₁₀ v₂ l) rfl rfl c₃) (ZaD (hO₁₀.ste (E := eInt) (y := x4) (ws := [.i .i64 x4]) 0 rfl rfl (Zm c₃) rfl rfl ⟨rfl, Nat.le_of_ble_eq_true rfl, rfl⟩ rfl) ?_)
     rintro _ k₁₁ z₁ ⟨rfl, f₄, m₂, hW⟩
     have fr₄ := fr₃.kept f₄ (by decide)
     have hO₁₁ : Own B h k₁₁ [eSl eInt v₂ (l.set (x1 : Int).toNat x4), eBox r₂ (Zc.c (gi f (x1 : Int).toNat))] := hW
     refine WD_end ?_
     refine And.intro ?_ ?_
     ·intro q hq
      simp only [List.mem_cons, List.not_mem_nil, or_false] at hq
      rcases hq with rfl | rfl
      ·refine ap_ll ?_ ?_
       ·exact (fun h => nomatch h)
       ·exact (fun h => nomatch h)
      ·refine ap_ol rfl rfl ?_
       ·exact (fun r hm hc => hc (hW₃.base r (Nat.lt_of_lt_of_le (hO₇.ltAt 1 rfl _ (tch (v := V.p r₂ 1) (ZaB hm) rfl)) (Nat.le_trans (Nat.le_add_right _ _) fr₁.n))))
     refine z9 (Zd (W_rg ?_))
     obtain ⟨c₄, hp⟩ := Zk hp
     refine Za (a_add (a := x1) (b := 1) q₂_17 rfl c₄) (Za (a_mv (v := .i .i64 (x1 + 1)) rfl) (Zf ?_))
     have hp := Option.some.inj hp; subst hp
     exact (Or.inl (Exists.intro (l.set (x1 : Int).toNat x4, x1 + 1) (And.intro rfl (And.intro rfl (And.intro (q₂_0) (And.intro (q₂_5) (And.intro (q₂_15) (And.intro (q₂_16) (And.intro (rfl) (hO₁₁.pick [0] rfl (by decide)))))))))))
    ·refine W_cF (t := x2) rfl b₃ ?_
     refine W_sk (z9 (Zd (W_rg ?_)))
     obtain ⟨c₅, hp⟩ := Zk hp
     refine Za (a_add (a := x1) (b := 1) q₂_17 rfl c₅) (Za (a_mv (v := .i .i64 (x1 + 1)) rfl) (Zf ?_))
     have hp := Option.some.inj hp; subst hp
     exact (Or.inl (Exists.intro (l, x1 + 1) (And.intro rfl (And.intro rfl (And.intro (q₂_0) (And.intro (q₂_5) (And.intro (q₂_15) (And.intro (q₂_16) (And.intro (rfl) (hO₇.pick [0] rfl (by decide)))))))))))
   ·refine W_cF (t := (decide (x1 < (f.length : Int)))) rfl b₂ ?_
    refine W_ex (zz ?_)
    have hp := Option.some.inj hp; subst hp
    refine (Or.inr (Exists.intro l (And.intro rfl (And.intro (fun h => nomatch h) (fun he => ?_)))))
    subst he; exact (And.intro rfl (And.intro (q₂_5) (hO₄.pick [0] rfl (by decide))))
  intro e₁ q₁ k₃ hJ₁
  obtain ⟨l1, rfl⟩ : ∃ x, x = o₁ := ⟨_, rfl⟩
  obtain ⟨rfl, q₁_5, hO₃⟩ := hJ₁
  refine zI (Zd (W_sq (W_rg (Za (a_mv (v := v₂) q₁_5) (Za (a_mv (v := v₂) rfl) (Zf (Zd ?_)))))))
  refine W_rt (Ret_r (rs_t (n := 4) (v := v₂) rfl rs_nil) ?_)
  have hp := Option.some.inj hp; subst hp
  exact (Exists.intro v₂ (And.intro rfl (hO₃.pick [0] rfl (by decide))))

theorem zD.ok {h : Hp} {turns : List Int} {v_turns : V} (s_turns : Sl eInt h v_turns turns) {r : Int} (hp : zD turns = some r) :
  ∃ u k', Is G 219 [v_turns] h u k' ∧ V.i .i64 r = u ∧ Own (fun r => r < h.n) h k' [] := by
 refine WC.is (WC_of G_F_face_Rotation ?_)
 unfold zD at hp
 let B : Nat → Prop := (fun r => r < h.n)
 have hO : Own B h h [] := Own.start0 h
 refine W_sq (W_rg (Za (a_mv (v := .i .i64 0) rfl) (Zf (Zd (W_sq (W_rg (Za (a_mv (v := .i .i64 0) rfl) ?_)))))))
 refine Zf (Zd (W_sq (W_sq (W_rg (Za (a_mv (v := v_turns) rfl) (Za (a_len (hO.rd0 s_turns.rd : Sl eInt h v_turns turns) rfl) (Za (a_mv (v := .i .i64 0) rfl) ?_)))))))
 refine Zf (Zd (W_bl ?_))
 obtain ⟨o₁, ho₁, hp⟩ := Zv hp
 refine W.mono (Q := fun e fr k => match (generalizing := false) o₁ with
   | n1 => e = (.exit 0) ∧ fr 3 = .i .i64 n1 ∧ Own B h k []) ?_ ?_
 ·clear hp
  refine zu (fun st fr k => match st with | (n, x) => fr 3 = .i .i64 n ∧ fr 6 = v_turns ∧ fr 7 = .i .i64 (turns.length : Int) ∧ fr 8 = .i .i64 x ∧ Own B h k []) ho₁ (s := (0, 0)) (And.intro (rfl) (And.intro (rfl) (And.intro (rfl) (And.intro (rfl) (hO.pick [] rfl (by decide)))))) ?_
  rintro ⟨n, x⟩ q₂ k₂ ⟨q₂_3, q₂_6, q₂_7, q₂_8, hO₂⟩ o₂ hp
  dsimp only [zD.s0] at hp
  refine W_sq (W_rg (Za (a_lss (a := x) (b := (turns.length : Int)) q₂_8 q₂_7) (Zf (Zd (W_sq ?_)))))
  rcases Zu hp with ⟨b₁, hp⟩ | ⟨b₁, hp⟩
  ·refine W_cT (t := (decide (x < (turns.length : Int)))) rfl b₁ ?_
   refine W_sk (Zd (W_sq (W_bl (W_sq (W_rg ?_)))))
   obtain ⟨c₁, hp⟩ := Zk hp
   refine Za (a_ixa (E := eInt) (z := x) (hO₂.rd0 s_turns.rd : Sl eInt k₂ v_turns turns) q₂_6 q₂_8 c₁) (Za (z2 (w := .i .i64 (gi turns (x : Int).toNat)) (hO₂.rd0 s_turns.rd : Sl eInt k₂ v_turns turns) rfl (Zm c₁) rfl) (Za (a_mv (v := .i .i64 (gi turns (x : Int).toNat)) rfl) (Zf (Zd (W_sq (W_rg (Za (a_mv (v := .i .i64 (gi turns (x : Int).toNat)) rfl) ?_)))))))
   refine Za (a_geq (a := (gi turns (x : Int).toNat)) (b := (-2)) rfl rfl) (Za (a_mv (v := .b (decide ((-2) ≤ (gi turns (x : Int).toNat)))) rfl) ?_)
   refine zB 3 (fun fr' k' => k₂ = k' ∧ fr' 17 = .b ((decide ((-2) ≤ (gi turns (x : Int).toNat))) && (decide ((gi turns (x : Int).toNat) ≤ 1))) ∧ fr' 3 = .i .i64 n ∧ fr' 5 = .i .i64 (gi turns (x : Int).toNat) ∧ fr' 6 = v_turns ∧ fr' 7 = .i .i64 (turns.length : Int) ∧ fr' 8 = .i .i64 x) ?_ ?_
   ·rcases bc (decide ((-2) ≤ (gi turns (x : Int).toNat))) with b₂ | b₂
    ·skip
     refine WO_on rfl b₂ (Za (a_mv (v := .i .i64 (gi turns (x : Int).toNat)) rfl) (WO_on rfl b₂ (Za (a_leq (a := (gi turns (x : Int).toNat)) (b := 1) rfl rfl) (Za (ZW (t := (decide ((-2) ≤ (gi turns (x : Int).toNat)))) (v := .b ((decide ((-2) ≤ (gi turns (x : Int).toNat))) && (decide ((gi turns (x : Int).toNat) ≤ 1)))) rfl b₂ (Eq.trans (b := V.b (decide ((gi turns (x : Int).toNat) ≤ 1))) rfl (Zax b₂))) (Zf ?_)))))
     exact ⟨rfl, rfl, q₂_3, rfl, q₂_6, q₂_7, q₂_8⟩
    ·skip
     refine WO_off rfl b₂ (WO_off rfl b₂ (Za (ZT (t := (decide ((-2) ≤ (gi turns (x : Int).toNat)))) (v := .b ((decide ((-2) ≤ (gi turns (x : Int).toNat))) && (decide ((gi turns (x : Int).toNat) ≤ 1)))) rfl b₂ (Eq.trans (b := V.b false) rfl (Zal b₂))) (Zf ?_)))
     exact ⟨rfl, rfl, q₂_3, rfl, q₂_6, q₂_7, q₂_8⟩
   rintro frg₁ _ ⟨rfl, g₁_17, g₁_3, g₁_5, g₁_6, g₁_7, g₁_8⟩
   refine Zf (Zd ?_)
   rcases Zu hp with ⟨b₃, hp⟩ | ⟨b₃, hp⟩
   ·refine W_cT (t := ((decide ((-2) ≤ (gi turns (x : Int).toNat))) && (decide ((gi turns (x : Int).toNat) ≤ 1)))) g₁_17 b₃ ?_
    refine W_rg (Za (a_mv (v := .i .i64 n) g₁_3) (Za (a_mv (v := .i .i64 (gi turns (x : Int).toNat)) g₁_5) ?_))
    obtain ⟨c₂, hp⟩ := Zk hp
    refine Za (a_add (a := n) (b := (gi turns (x : Int).toNat)) rfl rfl c₂) (Za (a_mv (v := .i .i64 (n + (gi turns (x : Int).toNat))) rfl) (Zf (z9 (Zd (W_rg ?_)))))
    obtain ⟨c₃, hp⟩ := Zk hp
    refine Za (a_add (a := x) (b := 1) g₁_8 rfl c₃) (Za (a_mv (v := .i .i64 (x + 1)) rfl) (Zf ?_))
    have hp := Option.some.inj hp; subst hp
    exact (Or.inl (Exists.intro (n + (gi turns (x : Int).toNat), x + 1) (And.intro rfl (And.intro rfl (And.intro (rfl) (And.intro (g₁_6) (And.intro (g₁_7) (And.intro (rfl) (hO₂.pick [] rfl (by decide))))))))))
   ·refine W_cF (t := ((decide ((-2) ≤ (gi turns (x : Int).toNat))) && (decide ((gi turns (x : Int).toNat) ≤ 1)))) g₁_17 b₃ ?_
    refine W_sk (z9 (Zd (W_rg ?_)))
    obtain ⟨c₄, hp⟩ := Zk hp
    refine Za (a_add (a := x) (b := 1) g₁_8 rfl c₄) (Za (a_mv (v := .i .i64 (x + 1)) rfl) (Zf ?_))
    have hp := Option.some.inj hp; subst hp
    exact (Or.inl (Exists.intro (n, x + 1) (And.intro rfl (And.intro rfl (And.intro (g₁_3) (And.intro (g₁_6) (And.intro (g₁_7) (And.intro (rfl) (hO₂.pick [] rfl (by decide))))))))))
  ·refine W_cF (t := (decide (x < (turns.length : Int)))) rfl b₁ ?_
   refine W_ex (zz ?_)
   have hp := Option.some.inj hp; subst hp
   refine (Or.inr (Exists.intro n (And.intro rfl (And.intro (fun h => nomatch h) (fun he => ?_)))))
   subst he; exact (And.intro rfl (And.intro (q₂_3) (hO₂.pick [] rfl (by decide))))
 intro e₁ q₁ k₁ hJ₁
 obtain ⟨n1, rfl⟩ : ∃ x, x = o₁ := ⟨_, rfl⟩
 obtain ⟨rfl, q₁_3, hO₁⟩ := hJ₁
 refine zI (Zd (W_sq (W_rg (Za (a_mv (v := .i .i64 n1) q₁_3) (Za (a_mv (v := .i .i64 n1) rfl) (Zf (Zd ?_)))))))
 refine W_rt (Ret_r (rs_t (n := 2) (v := .i .i64 n1) rfl rs_nil) ?_)
 have hp := Option.some.inj hp; subst hp
 exact (And.intro rfl (hO₁.pick [] rfl (by decide)))

theorem zA.ok {h : Hp} {cells : List Zg} {v_cells : V} (s_cells : Sl Zb h v_cells cells) {r : Int × Bool} (hp : zA cells = some r) :
  ∃ u k', Is G 201 [v_cells] h u k' ∧ V.tu [.i .i64 r.1, .b r.2] = u ∧ Own (fun r => r < h.n) h k' [] := by
 refine WC.is (WC_of G_F_valid_outer ?_)
 unfold zA at hp
 let B : Nat → Prop := (fun r => r < h.n)
 have hO : Own B h h [] := Own.start0 h
 refine W_sq (W_rg (Za (a_mv (v := .i .i64 0) rfl) (Za (a_mv (v := .b false) rfl) (Zf (Zd (W_sq (W_rg ?_)))))))
 refine Za (a_mv (v := v_cells) rfl) ?_
 obtain ⟨⟨x, x1⟩, hx₁, hp⟩ := Zv hp
 obtain ⟨u₁, k₁, ca₁, v₁, vs₁, rfl, hW₁⟩ := zm.ok (h := h)  (hO.rd0 s_cells.rd : Sl Zb h v_cells cells) hx₁
 refine zS (id := 203) (caps := []) rfl (Z2 (v := v_cells) rfl zi) ca₁ ?_
 have hO₁ : Own B h k₁ [eSl eV v₁ vs₁, eAll Zc vs₁ x] := hO.call hW₁ rfl
 refine Za (a_mv (v := .tu [v₁, .i .i64 x1]) rfl) (Za (Zah (vs := [v₁, .i .i64 x1]) (v := v₁) rfl rfl) (Za (Zah (vs := [v₁, .i .i64 x1]) (v := .i .i64 x1) rfl rfl) (Za (a_mv (v := v₁) rfl) (Za (a_mv (v := .i .i64 x1) rfl) (Zf (Zd (W_sq ?_)))))))
 refine W_rg (Za (a_mv (v := .i .i64 (-1)) rfl) (Zf (Zd (W_sq (W_sq (W_rg (Za (a_mv (v := v₁) rfl) ?_)))))))
 refine Za (a_lenN (n := (x).length) (hO₁.sl 0 rfl : Sl eV k₁ v₁ vs₁) (hO₁.allLen 1 rfl : (vs₁).length = (x).length) rfl) (Za (a_mv (v := .i .i64 0) rfl) (Zf (Zd (W_bl ?_))))
 obtain ⟨o₁, ho₁, hp⟩ := Zv hp
 refine W.mono (Q := fun e fr k => match (generalizing := false) o₁ with
   | .inl at_1 => e = (.exit 0) ∧ fr 6 = .i .i64 at_1 ∧ Own B h k []
   | .inr _ => e = .ret ∧ fr 2 = .i .i64 0 ∧ fr 3 = .b false ∧ Own B h k []) ?_ ?_
 ·clear hp
  refine zu (fun st fr k => match st with | (at_, x2) => fr 0 = v_cells ∧ fr 6 = .i .i64 at_ ∧ fr 14 = v₁ ∧ fr 15 = .i .i64 (x.length : Int) ∧ fr 16 = .i .i64 x2 ∧ Own B h k [eSl eV v₁ vs₁, eAll Zc vs₁ x]) ho₁ (s := ((-1), 0)) (And.intro (rfl) (And.intro (rfl) (And.intro (rfl) (And.intro (rfl) (And.intro (rfl) (hO₁.pick [0, 1] rfl (by decide))))))) ?_
  rintro ⟨at_, x2⟩ q₂ k₃ ⟨q₂_0, q₂_6, q₂_14, q₂_15, q₂_16, hO₃⟩ o₂ hp
  dsimp only [zA.s0] at hp
  refine W_sq (W_rg (Za (a_lss (a := x2) (b := (x.length : Int)) q₂_16 q₂_15) (Zf (Zd (W_sq ?_)))))
  rcases Zu hp with ⟨b₁, hp⟩ | ⟨b₁, hp⟩
  ·refine W_cT (t := (decide (x2 < (x.length : Int)))) rfl b₁ ?_
   refine W_sk (Zd (W_sq (W_bl (W_sq (W_rg (Za (a_mv (v := .i .i64 x2) q₂_16) ?_))))))
   obtain ⟨c₁, hp⟩ := Zk hp
   refine Za (a_ixa (E := eV) (z := x2) (hO₃.sl 0 rfl : Sl eV k₃ v₁ vs₁) q₂_14 q₂_16 (by rw [(hO₃.allLen 1 rfl : (vs₁).length = (x).length)]; exact c₁)) (Za (z2 (w := (gi vs₁ (x2 : Int).toNat)) (hO₃.sl 0 rfl : Sl eV k₃ v₁ vs₁) rfl (by rw [(hO₃.allLen 1 rfl : (vs₁).length = (x).length)]; exact Zm c₁) rfl) (Za (a_mv (v := .i .i64 x2) rfl) (Za (a_mv (v := (gi vs₁ (x2 : Int).toNat)) rfl) (Zf (Zd (W_sq (W_rg ?_)))))))
   refine Za (a_mv (v := v_cells) q₂_0) (Za (a_mv (v := (gi vs₁ (x2 : Int).toNat)) rfl) ?_)
   obtain ⟨x3, hx₂, hp⟩ := Zv hp
   obtain ⟨u₂, k₄, ca₂, v₂, rfl, hW₂⟩ := zK.ok (h := k₃)  (hO₃.rd0 s_cells.rd : Sl Zb k₃ v_cells cells) (hO₃.inn 1 rfl (Zm c₁) : Sl Zc k₃ (gi vs₁ (x2 : Int).toNat) (gi x (x2 : Int).toNat)) hx₂
   refine zS (id := 204) (caps := []) rfl (Z2 (v := v_cells) rfl (Z2 (v := (gi vs₁ (x2 : Int).toNat)) rfl zi)) ca₂ ?_
   have hO₄ : Own B h k₄ [eSl eV v₁ vs₁, eAll Zc vs₁ x, eSl eInt v₂ x3] := hO₃.call hW₂ rfl
   obtain ⟨x4, hx₃, hp⟩ := Zv hp
   obtain ⟨u₃, k₅, ca₃, rfl, hW₃⟩ := zD.ok (h := k₄)  (hO₄.sl 2 rfl : Sl eInt k₄ v₂ x3) hx₃
   refine zS (id := 219) (caps := []) rfl (Z2 (v := v₂) rfl zi) ca₃ ?_
   have hO₅ : Own B h k₅ [eSl eV v₁ vs₁, eAll Zc vs₁ x, eSl eInt v₂ x3] := hO₄.call hW₃ rfl
   refine Zf (Zd (W_bl (W_sq (W_rg (Za (a_eqI (a := x4) (b := 4) rfl rfl) (Za (a_mv (v := .b (decide (x4 = 4))) rfl) (Zf ?_)))))))
   refine Zd ?_
   rcases Zu hp with ⟨b₂, hp⟩ | ⟨b₂, hp⟩
   ·refine W_cT (t := (decide (x4 = 4))) rfl b₂ ?_
    refine W_sk (z9 (z9 (Zd (W_rg ?_))))
    obtain ⟨c₂, hp⟩ := Zk hp
    refine Za (a_add (a := x2) (b := 1) q₂_16 rfl c₂) (Za (a_mv (v := .i .i64 (x2 + 1)) rfl) (Zf ?_))
    have hp := Option.some.inj hp; subst hp
    exact (Or.inl (Exists.intro (at_, x2 + 1) (And.intro rfl (And.intro rfl (And.intro (q₂_0) (And.intro (q₂_6) (And.intro (q₂_14) (And.intro (q₂_15) (And.intro (rfl) (hO₅.pick [0, 1] rfl (by decide)))))))))))
   ·refine W_cF (t := (decide (x4 = 4))) rfl b₂ ?_
    refine W_sq (W_rg (Za (a_eqI (a := x4) (b := (-4)) rfl rfl) (Za (a_mv (v := .b (decide (x4 = (-4)))) rfl) (Zf (Zd ?_)))))
    rcases Zu hp with ⟨b₃, hp⟩ | ⟨b₃, hp⟩
    ·refine W_cT (t := (decide (x4 = (-4)))) rfl b₃ ?_
     refine W_sq (W_sq (W_rg (Za (a_mv (v := .i .i64 at_) q₂_6) (Za (a_geq (a := at_) (b := 0) rfl rfl) (Zf (Zd ?_))))))
     rcases Zu hp with ⟨b₄, hp⟩ | ⟨b₄, hp⟩
     ·refine W_cT (t := (decide (0 ≤ at_))) rfl b₄ ?_
      refine W_sq (W_rg (Za (a_mv (v := .i .i64 0) rfl) (Za (a_mv (v := .b false) rfl) (Zf (Zd (W_rt (zh ?_)))))))
      refine zY (zY (zh ?_))
      have hp := Option.some.inj hp; subst hp
      refine (Or.inr (Exists.intro (.inr ()) (And.intro rfl (And.intro (fun h => nomatch h) (fun he => ?_)))))
      subst he; exact (And.intro rfl (And.intro (rfl) (And.intro (rfl) (hO₅.pick [] rfl (by decide)))))
     ·refine W_cF (t := (decide (0 ≤ at_))) rfl b₄ ?_
      refine W_sk (Zd (W_rg (Za (a_mv (v := .i .i64 x2) rfl) (Za (a_mv (v := .i .i64 x2) rfl) (Zf (z9 (z9 ?_)))))))
      refine Zd (W_rg ?_)
      obtain ⟨c₃, hp⟩ := Zk hp
      refine Za (a_add (a := x2) (b := 1) q₂_16 rfl c₃) (Za (a_mv (v := .i .i64 (x2 + 1)) rfl) (Zf ?_))
      have hp := Option.some.inj hp; subst hp
      exact (Or.inl (Exists.intro (x2, x2 + 1) (And.intro rfl (And.intro rfl (And.intro (q₂_0) (And.intro (rfl) (And.intro (q₂_14) (And.intro (q₂_15) (And.intro (rfl) (hO₅.pick [0, 1] rfl (by decide)))))))))))
    ·refine W_cF (t := (decide (x4 = (-4)))) rfl b₃ ?_
     refine W_sq (W_rg (Za (a_mv (v := .i .i64 0) rfl) (Za (a_mv (v := .b false) rfl) (Zf (Zd (W_rt (zY ?_)))))))
     refine zY (zh ?_)
     have hp := Option.some.inj hp; subst hp
     refine (Or.inr (Exists.intro (.inr ()) (And.intro rfl (And.intro (fun h => nomatch h) (fun he => ?_)))))
     subst he; exact (And.intro rfl (And.intro (rfl) (And.intro (rfl) (hO₅.pick [] rfl (by decide)))))
  ·refine W_cF (t := (decide (x2 < (x.length : Int)))) rfl b₁ ?_
   refine W_ex (zz ?_)
   have hp := Option.some.inj hp; subst hp
   refine (Or.inr (Exists.intro (.inl at_) (And.intro rfl (And.intro (fun h => nomatch h) (fun he => ?_)))))
   subst he; exact (And.intro rfl (And.intro (q₂_6) (hO₃.pick [] rfl (by decide))))
 intro e₁ q₁ k₂ hJ₁
 rcases o₁ with at_1 | _
 ·obtain ⟨rfl, q₁_6, hO₂⟩ := hJ₁
  refine zI (Zd (W_sq (W_rg (Za (a_mv (v := .i .i64 at_1) q₁_6) (Za (a_mv (v := .i .i64 at_1) q₁_6) (Za (a_geq (a := at_1) (b := 0) rfl rfl) (Za (a_mv (v := .i .i64 at_1) rfl) ?_)))))))
  refine Za (a_mv (v := .b (decide (0 ≤ at_1))) rfl) (Zf (Zd (W_rt (Ret_r (rs_t (n := 2) (v := .i .i64 at_1) rfl (rs_t (n := 3) (v := .b (decide (0 ≤ at_1))) rfl rs_nil)) ?_))))
  have hp := Option.some.inj hp; subst hp
  exact (And.intro rfl (hO₂.pick [] rfl (by decide)))
 ·obtain ⟨rfl, q₁_2, q₁_3, hO₂⟩ := hJ₁
  refine zY (zh (Ret_r (rs_t (n := 2) (v := .i .i64 0) q₁_2 (rs_t (n := 3) (v := .b false) q₁_3 rs_nil)) ?_))
  have hp := Option.some.inj hp; subst hp
  exact (And.intro rfl (hO₂.pick [] rfl (by decide)))

theorem Zao.ok {h : Hp} {cells : List Zg} {v_cells : V} (s_cells : Sl Zb h v_cells cells) {r : Int} (hp : Zao cells = some r) :
  ∃ u k', Is G 176 [v_cells] h u k' ∧ V.i .i64 r = u ∧ Own (fun r => r < h.n) h k' [] := by
 refine WC.is (WC_of G_F_valid_Check ?_)
 unfold Zao at hp
 let B : Nat → Prop := (fun r => r < h.n)
 have hO : Own B h h [] := Own.start0 h
 refine W_sq (W_rg (Za (a_mv (v := .i .i64 0) rfl) (Zf (Zd (W_sq (W_sq (W_rg ?_)))))))
 refine Za (a_mv (v := v_cells) rfl) ?_
 obtain ⟨x, hx₁, hp⟩ := Zv hp
 obtain ⟨u₁, k₁, ca₁, rfl, hW₁⟩ := zk.ok (h := h)  (hO.rd0 s_cells.rd : Sl Zb h v_cells cells) hx₁
 refine zS (id := 66) (caps := []) rfl (Z2 (v := v_cells) rfl zi) ca₁ ?_
 have hO₁ : Own B h k₁ [] := hO.call hW₁ rfl
 refine Za (a_mv (v := .i .i64 x) rfl) (Zf (Zd (W_sq (W_rg (Za (a_mv (v := .i .i64 x) rfl) (Za (a_neI (a := x) (b := 0) rfl rfl) (Zf ?_)))))))
 refine Zd ?_
 rcases Zu hp with ⟨b₁, hp⟩ | ⟨b₁, hp⟩
 ·refine W_cT (t := (!(decide (x = 0)))) rfl b₁ ?_
  refine W_sq (W_rg (Za (a_mv (v := .i .i64 x) rfl) (Za (a_mv (v := .i .i64 x) rfl) (Zf (Zd (W_rt (zh ?_)))))))
  refine Ret_r (rs_t (n := 2) (v := .i .i64 x) rfl rs_nil) ?_
  have hp := Option.some.inj hp; subst hp
  exact (And.intro rfl (hO₁.pick [] rfl (by decide)))
 ·refine W_cF (t := (!(decide (x = 0)))) rfl b₁ ?_
  refine W_sk (Zd (W_sq (W_sq (W_rg (Za (a_mv (v := v_cells) rfl) ?_)))))
  obtain ⟨x1, hx₂, hp⟩ := Zv hp
  obtain ⟨u₂, k₂, ca₂, rfl, hW₂⟩ := Zat.ok (h := k₁)  (hO₁.rd0 s_cells.rd : Sl Zb k₁ v_cells cells) hx₂
  refine zS (id := 32) (caps := []) rfl (Z2 (v := v_cells) rfl zi) ca₂ ?_
  have hO₂ : Own B h k₂ [] := hO₁.call hW₂ rfl
  refine Za (a_not (t := x1) rfl) (Zf (Zd ?_))
  rcases Zu hp with ⟨b₂, hp⟩ | ⟨b₂, hp⟩
  ·refine W_cT (t := (!x1)) rfl b₂ ?_
   refine W_sq (W_rg (Za (a_mv (v := .i .i64 13) rfl) (Zf (Zd (W_rt (zh (Ret_r (rs_t (n := 2) (v := .i .i64 13) rfl rs_nil) ?_)))))))
   have hp := Option.some.inj hp; subst hp
   exact (And.intro rfl (hO₂.pick [] rfl (by decide)))
  ·refine W_cF (t := (!x1)) rfl b₂ ?_
   refine W_sk (Zd (W_sq (W_sq (W_rg (Za (a_mv (v := v_cells) rfl) ?_)))))
   obtain ⟨⟨x2, x3⟩, hx₃, hp⟩ := Zv hp
   obtain ⟨u₃, k₃, ca₃, rfl, hW₃⟩ := zA.ok (h := k₂)  (hO₂.rd0 s_cells.rd : Sl Zb k₂ v_cells cells) hx₃
   refine zS (id := 201) (caps := []) rfl (Z2 (v := v_cells) rfl zi) ca₃ ?_
   have hO₃ : Own B h k₃ [] := hO₂.call hW₃ rfl
   refine Za (a_mv (v := .tu [.i .i64 x2, .b x3]) rfl) (Za (Zah (vs := [.i .i64 x2, .b x3]) (v := .i .i64 x2) rfl rfl) (Za (Zah (vs := [.i .i64 x2, .b x3]) (v := .b x3) rfl rfl) (Za (a_mv (v := .i .i64 x2) rfl) (Za (a_mv (v := .b x3) rfl) (Zf (Zd (W_sq ?_)))))))
   refine W_rg (Za (a_mv (v := .b x3) rfl) (Za (a_not (t := x3) rfl) (Za (a_mv (v := .b (!x3)) rfl) ?_)))
   refine zB 4 (fun fr' k' => k₃ = k' ∧ fr' 25 = .b ((!x3) && (decide (1 < (cells.length : Int))))) ?_ ?_
   ·rcases bc (!x3) with b₃ | b₃
    ·skip
     refine WO_on rfl b₃ (Za (a_mv (v := v_cells) rfl) (WO_on rfl b₃ (Za (a_len (hO₃.rd0 s_cells.rd : Sl Zb k₃ v_cells cells) rfl) (WO_on rfl b₃ (Za (a_gtr (a := (cells.length : Int)) (b := 1) rfl rfl) (Za (ZW (t := (!x3)) (v := .b ((!x3) && (decide (1 < (cells.length : Int))))) rfl b₃ (Eq.trans (b := V.b (decide (1 < (cells.length : Int)))) rfl (Zax b₃))) (Zf ?_)))))))
     exact ⟨rfl, rfl⟩
    ·skip
     refine WO_off rfl b₃ (WO_off rfl b₃ (WO_off rfl b₃ (Za (ZT (t := (!x3)) (v := .b ((!x3) && (decide (1 < (cells.length : Int))))) rfl b₃ (Eq.trans (b := V.b false) rfl (Zal b₃))) (Zf ?_))))
     exact ⟨rfl, rfl⟩
   rintro frg₁ _ ⟨rfl, g₁_25⟩
   refine Zf (Zd ?_)
   rcases Zu hp with ⟨b₄, hp⟩ | ⟨b₄, hp⟩
   ·refine W_cT (t := ((!x3) && (decide (1 < (cells.length : Int))))) g₁_25 b₄ ?_
    refine W_sq (W_rg (Za (a_mv (v := .i .i64 10) rfl) (Zf (Zd (W_rt (zh (Ret_r (rs_t (n := 2) (v := .i .i64 10) rfl rs_nil) ?_)))))))
    have hp := Option.some.inj hp; subst hp
    exact (And.intro rfl (hO₃.pick [] rfl (by decide)))
   ·refine W_cF (t := ((!x3) && (decide (1 < (cells.length : Int))))) g₁_25 b₄ ?_
    refine W_sk (Zd (W_sq (W_rg (Za (a_mv (v := .i .i64 0) rfl) (Zf (Zd (W_rt ?_)))))))
    refine Ret_r (rs_t (n := 2) (v := .i .i64 0) rfl rs_nil) ?_
    have hp := Option.some.inj hp; subst hp
    exact (And.intro rfl (hO₃.pick [] rfl (by decide)))

theorem Zap.ok {h : Hp} {cells : List Zg} {v_cells : V} (s_cells : Sl Zb h v_cells cells) {r : Int × Int} (hp : Zap cells = some r) :
  ∃ u k', Is G 195 [v_cells] h u k' ∧ V.tu [.i .i64 r.1, .i .i64 r.2] = u ∧ Own (fun r => r < h.n) h k' [] := by
 refine WC.is (WC_of G_F_valid_Outer ?_)
 unfold Zap at hp
 let B : Nat → Prop := (fun r => r < h.n)
 have hO : Own B h h [] := Own.start0 h
 refine W_sq (W_rg (Za (a_mv (v := .i .i64 0) rfl) (Za (a_mv (v := .i .i64 0) rfl) (Zf (Zd (W_sq (W_sq ?_)))))))
 refine W_rg (Za (a_mv (v := v_cells) rfl) ?_)
 obtain ⟨x, hx₁, hp⟩ := Zv hp
 obtain ⟨u₁, k₁, ca₁, rfl, hW₁⟩ := Zao.ok (h := h)  (hO.rd0 s_cells.rd : Sl Zb h v_cells cells) hx₁
 refine zS (id := 176) (caps := []) rfl (Z2 (v := v_cells) rfl zi) ca₁ ?_
 have hO₁ : Own B h k₁ [] := hO.call hW₁ rfl
 refine Za (a_mv (v := .i .i64 x) rfl) (Zf (Zd (W_sq (W_rg (Za (a_mv (v := .i .i64 x) rfl) (Za (a_neI (a := x) (b := 0) rfl rfl) (Zf ?_)))))))
 refine Zd ?_
 rcases Zu hp with ⟨b₁, hp⟩ | ⟨b₁, hp⟩
 ·refine W_cT (t := (!(decide (x = 0)))) rfl b₁ ?_
  refine W_sq (W_rg (Za (a_mv (v := .i .i64 x) rfl) (Za (a_mv (v := .i .i64 0) rfl) (Za (a_mv (v := .i .i64 x) rfl) (Zf (Zd (W_rt ?_)))))))
  refine zh (Ret_r (rs_t (n := 2) (v := .i .i64 0) rfl (rs_t (n := 3) (v := .i .i64 x) rfl rs_nil)) ?_)
  have hp := Option.some.inj hp; subst hp
  exact (And.intro rfl (hO₁.pick [] rfl (by decide)))
 ·refine W_cF (t := (!(decide (x = 0)))) rfl b₁ ?_
  refine W_sk (Zd (W_sq (W_rg (Za (a_mv (v := v_cells) rfl) ?_))))
  obtain ⟨⟨x1, x2⟩, hx₂, hp⟩ := Zv hp
  obtain ⟨u₂, k₂, ca₂, rfl, hW₂⟩ := zA.ok (h := k₁)  (hO₁.rd0 s_cells.rd : Sl Zb k₁ v_cells cells) hx₂
  refine zS (id := 201) (caps := []) rfl (Z2 (v := v_cells) rfl zi) ca₂ ?_
  have hO₂ : Own B h k₂ [] := hO₁.call hW₂ rfl
  refine Za (a_mv (v := .tu [.i .i64 x1, .b x2]) rfl) (Za (Zah (vs := [.i .i64 x1, .b x2]) (v := .i .i64 x1) rfl rfl) (Za (Zah (vs := [.i .i64 x1, .b x2]) (v := .b x2) rfl rfl) (Za (a_mv (v := .i .i64 x1) rfl) (Za (a_mv (v := .b x2) rfl) (Zf (Zd (W_sq ?_)))))))
  refine W_sq (W_rg (Za (a_mv (v := .b x2) rfl) (Za (a_not (t := x2) rfl) (Zf (Zd ?_)))))
  rcases Zu hp with ⟨b₂, hp⟩ | ⟨b₂, hp⟩
  ·refine W_cT (t := (!x2)) rfl b₂ ?_
   refine W_sq (W_rg (Za (a_mv (v := .i .i64 0) rfl) (Za (a_mv (v := .i .i64 2) rfl) (Zf (Zd (W_rt (zh ?_)))))))
   refine Ret_r (rs_t (n := 2) (v := .i .i64 0) rfl (rs_t (n := 3) (v := .i .i64 2) rfl rs_nil)) ?_
   have hp := Option.some.inj hp; subst hp
   exact (And.intro rfl (hO₂.pick [] rfl (by decide)))
  ·refine W_cF (t := (!x2)) rfl b₂ ?_
   refine W_sk (Zd (W_sq (W_rg (Za (a_mv (v := .i .i64 x1) rfl) (Za (a_mv (v := .i .i64 x1) rfl) (Za (a_mv (v := .i .i64 0) rfl) (Zf ?_)))))))
   refine Zd (W_rt (Ret_r (rs_t (n := 2) (v := .i .i64 x1) rfl (rs_t (n := 3) (v := .i .i64 0) rfl rs_nil)) ?_))
   have hp := Option.some.inj hp; subst hp
   exact (And.intro rfl (hO₂.pick [] rfl (by decide)))

theorem ZX.ok {h : Hp} {s : List Int} {f : Int → Option Bool} {v_s : V} {id_f : Nat} {cap_f : List V} (s_s : Sl eInt h v_s s) (f_f : ∀ (k : Hp) (x0 : Int) (y : Bool), Ex' (fun r => r < h.n) h k → f x0 = some y → ∃ u k', Is G id_f (.i .i64 x0 :: cap_f) k u k' ∧ V.b y = u ∧ Own (fun r => r < k.n) k k' []) {r : Int} (hp : ZX s f = some r) :
  ∃ u k', Is G 91 [v_s, .f id_f cap_f] h u k' ∧ V.i .i64 r = u ∧ Own (fun r => r < h.n) h k' [] := by
 refine WC.is (WC_of G_F_slices_IndexFunc_int ?_)
 unfold ZX at hp
 let B : Nat → Prop := (fun r => r < h.n)
 have hO : Own B h h [] := Own.start0 h
 refine W_sq (W_rg (Za (a_mv (v := .i .i64 0) rfl) (Zf (Zd (W_sq (W_sq (W_rg ?_)))))))
 refine Za (a_mv (v := v_s) rfl) (Za (a_len (hO.rd0 s_s.rd : Sl eInt h v_s s) rfl) (Za (a_mv (v := .i .i64 0) rfl) (Zf (Zd (W_bl ?_)))))
 obtain ⟨o₁, ho₁, hp⟩ := Zv hp
 refine W.mono (Q := fun e fr k => match (generalizing := false) o₁ with
   | .inl _ => e = (.exit 0) ∧ Own B h k []
   | .inr x1 => e = .ret ∧ fr 4 = .i .i64 x1 ∧ Own B h k []) ?_ ?_
 ·clear hp
  refine zu (fun st fr k => match st with | x => fr 0 = v_s ∧ fr 1 = .f id_f cap_f ∧ fr 7 = .i .i64 (s.length : Int) ∧ fr 8 = .i .i64 x ∧ Own B h k []) ho₁ (s := 0) (And.intro (rfl) (And.intro (rfl) (And.intro (rfl) (And.intro (rfl) (hO.pick [] rfl (by decide)))))) ?_
  rintro x q₂ k₂ ⟨q₂_0, q₂_1, q₂_7, q₂_8, hO₂⟩ o₂ hp
  dsimp only [ZX.s0] at hp
  refine W_sq (W_rg (Za (a_lss (a := x) (b := (s.length : Int)) q₂_8 q₂_7) (Zf (Zd (W_sq ?_)))))
  rcases Zu hp with ⟨b₁, hp⟩ | ⟨b₁, hp⟩
  ·refine W_cT (t := (decide (x < (s.length : Int)))) rfl b₁ ?_
   refine W_sk (Zd (W_sq (W_bl (W_sq (W_rg (Za (a_mv (v := .i .i64 x) q₂_8) (Za (a_mv (v := .i .i64 x) rfl) ?_)))))))
   refine Zf (Zd (W_sq (W_rg (Za (a_mv (v := .f id_f cap_f) q₂_1) (Za (a_mv (v := v_s) q₂_0) (Za (a_mv (v := .i .i64 x) rfl) ?_))))))
   obtain ⟨c₁, hp⟩ := Zk hp
   refine Za (a_ixa (E := eInt) (z := x) (hO₂.rd0 s_s.rd : Sl eInt k₂ v_s s) rfl rfl c₁) (Za (z2 (w := .i .i64 (gi s (x : Int).toNat)) (hO₂.rd0 s_s.rd : Sl eInt k₂ v_s s) rfl (Zm c₁) rfl) ?_)
   obtain ⟨x2, hx₁, hp⟩ := Zv hp
   obtain ⟨u₁, k₃, ca₁, rfl, hW₁⟩ := f_f _ _ _ hO₂.ext hx₁
   refine zS (id := id_f) (caps := cap_f) rfl (Z2 (v := .i .i64 (gi s (x : Int).toNat)) rfl zi) ca₁ ?_
   have hO₃ : Own B h k₃ [] := hO₂.call hW₁ rfl
   refine Zf (Zd ?_)
   rcases Zu hp with ⟨b₂, hp⟩ | ⟨b₂, hp⟩
   ·refine W_cT (t := x2) rfl b₂ ?_
    refine W_sq (W_rg (Za (a_mv (v := .i .i64 x) rfl) (Za (a_mv (v := .i .i64 x) rfl) (Zf (Zd (W_rt (zY ?_)))))))
    refine zh ?_
    have hp := Option.some.inj hp; subst hp
    refine (Or.inr (Exists.intro (.inr x) (And.intro rfl (And.intro (fun h => nomatch h) (fun he => ?_)))))
    subst he; exact (And.intro rfl (And.intro (rfl) (hO₃.pick [] rfl (by decide))))
   ·refine W_cF (t := x2) rfl b₂ ?_
    refine W_sk (z9 (Zd (W_rg ?_)))
    obtain ⟨c₂, hp⟩ := Zk hp
    refine Za (a_add (a := x) (b := 1) q₂_8 rfl c₂) (Za (a_mv (v := .i .i64 (x + 1)) rfl) (Zf ?_))
    have hp := Option.some.inj hp; subst hp
    exact (Or.inl (Exists.intro (x + 1) (And.intro rfl (And.intro rfl (And.intro (q₂_0) (And.intro (q₂_1) (And.intro (q₂_7) (And.intro (rfl) (hO₃.pick [] rfl (by decide))))))))))
  ·refine W_cF (t := (decide (x < (s.length : Int)))) rfl b₁ ?_
   refine W_ex (zz ?_)
   have hp := Option.some.inj hp; subst hp
   refine (Or.inr (Exists.intro (.inl ()) (And.intro rfl (And.intro (fun h => nomatch h) (fun he => ?_)))))
   subst he; exact (And.intro rfl (hO₂.pick [] rfl (by decide)))
 intro e₁ q₁ k₁ hJ₁
 rcases o₁ with _ | x1
 ·obtain ⟨rfl, hO₁⟩ := hJ₁
  refine zI (Zd (W_sq (W_rg (Za (a_mv (v := .i .i64 (-1)) rfl) (Zf (Zd (W_rt ?_)))))))
  refine Ret_r (rs_t (n := 4) (v := .i .i64 (-1)) rfl rs_nil) ?_
  have hp := Option.some.inj hp; subst hp
  exact (And.intro rfl (hO₁.pick [] rfl (by decide)))
 ·obtain ⟨rfl, q₁_4, hO₁⟩ := hJ₁
  refine zY (zh (Ret_r (rs_t (n := 4) (v := .i .i64 x1) q₁_4 rs_nil) ?_))
  have hp := Option.some.inj hp; subst hp
  exact (And.intro rfl (hO₁.pick [] rfl (by decide)))

theorem Zae.ok {h : Hp} {t : Int}   {r : Bool} (hp : Zae t = some r) :
  ∃ u k', Is G 205 [.i .i64 t] h u k' ∧ V.b r = u ∧ Own (fun r => r < h.n) h k' [] := by
 refine WC.is (WC_of G_F_front_First_1 ?_)
 unfold Zae at hp
 let B : Nat → Prop := (fun r => r < h.n)
 have hO : Own B h h [] := Own.start0 h
 refine W_sq (W_rg (Za (a_mv (v := .b false) rfl) (Zf (Zd (W_sq (W_rg (Za (a_mv (v := .i .i64 t) rfl) ?_)))))))
 refine Za (a_lss (a := t) (b := 0) rfl rfl) (Za (a_mv (v := .b (decide (t < 0))) rfl) (Zf (Zd (W_rt (Ret_r (rs_t (n := 2) (v := .b (decide (t < 0))) rfl rs_nil) ?_)))))
 have hp := Option.some.inj hp; subst hp
 exact (And.intro rfl (hO.pick [] rfl (by decide)))

theorem zG.ok {h : Hp} {cells : List Zg} {v_cells : V} (s_cells : Sl Zb h v_cells cells) {r : Int × Int × Bool} (hp : zG cells = some r) :
  ∃ u k', Is G 178 [v_cells] h u k' ∧ V.tu [.i .i64 r.1, .i .i64 r.2.1, .b r.2.2] = u ∧ Own (fun r => r < h.n) h k' [] := by
 refine WC.is (WC_of G_F_front_First ?_)
 unfold zG at hp
 let B : Nat → Prop := (fun r => r < h.n)
 have hO : Own B h h [] := Own.start0 h
 refine W_sq (W_rg (Za (a_mv (v := .i .i64 0) rfl) (Za (a_mv (v := .i .i64 0) rfl) (Za (a_mv (v := .b false) rfl) (Zf (Zd (W_sq ?_)))))))
 refine W_rg (Za (a_mv (v := v_cells) rfl) ?_)
 obtain ⟨⟨x, x1⟩, hx₁, hp⟩ := Zv hp
 obtain ⟨u₁, k₁, ca₁, rfl, hW₁⟩ := Zap.ok (h := h)  (hO.rd0 s_cells.rd : Sl Zb h v_cells cells) hx₁
 refine zS (id := 195) (caps := []) rfl (Z2 (v := v_cells) rfl zi) ca₁ ?_
 have hO₁ : Own B h k₁ [] := hO.call hW₁ rfl
 refine Za (a_mv (v := .tu [.i .i64 x, .i .i64 x1]) rfl) (Za (Zah (vs := [.i .i64 x, .i .i64 x1]) (v := .i .i64 x) rfl rfl) (Za (Zah (vs := [.i .i64 x, .i .i64 x1]) (v := .i .i64 x1) rfl rfl) (Za (a_mv (v := .i .i64 x) rfl) (Za (a_mv (v := .i .i64 x1) rfl) (Zf (Zd (W_sq ?_)))))))
 refine W_sq (W_rg (Za (a_mv (v := .i .i64 x1) rfl) (Za (a_neI (a := x1) (b := 0) rfl rfl) (Zf (Zd ?_)))))
 rcases Zu hp with ⟨b₁, hp⟩ | ⟨b₁, hp⟩
 ·refine W_cT (t := (!(decide (x1 = 0)))) rfl b₁ ?_
  refine W_sq (W_rg (Za (a_mv (v := .i .i64 0) rfl) (Za (a_mv (v := .i .i64 0) rfl) (Za (a_mv (v := .b false) rfl) (Zf (Zd (W_rt ?_)))))))
  refine zh (Ret_r (rs_t (n := 2) (v := .i .i64 0) rfl (rs_t (n := 3) (v := .i .i64 0) rfl (rs_t (n := 4) (v := .b false) rfl rs_nil))) ?_)
  have hp := Option.some.inj hp; subst hp
  exact (And.intro rfl (hO₁.pick [] rfl (by decide)))
 ·refine W_cF (t := (!(decide (x1 = 0)))) rfl b₁ ?_
  refine W_sk (Zd (W_sq (W_rg (Za (a_mv (v := v_cells) rfl) ?_))))
  obtain ⟨⟨x2, x3⟩, hx₂, hp⟩ := Zv hp
  obtain ⟨u₂, k₂, ca₂, v₁, vs₁, rfl, hW₂⟩ := zm.ok (h := k₁)  (hO₁.rd0 s_cells.rd : Sl Zb k₁ v_cells cells) hx₂
  refine zS (id := 203) (caps := []) rfl (Z2 (v := v_cells) rfl zi) ca₂ ?_
  have hO₂ : Own B h k₂ [eSl eV v₁ vs₁, eAll Zc vs₁ x2] := hO₁.call hW₂ rfl
  refine Za (a_mv (v := .tu [v₁, .i .i64 x3]) rfl) (Za (Zah (vs := [v₁, .i .i64 x3]) (v := v₁) rfl rfl) (Za (Zah (vs := [v₁, .i .i64 x3]) (v := .i .i64 x3) rfl rfl) (Za (a_mv (v := v₁) rfl) (Za (a_mv (v := .i .i64 x3) rfl) (Zf (Zd (W_sq ?_)))))))
  refine W_sq (W_rg (Za (a_mv (v := v₁) rfl) (Za (a_lenN (n := (x2).length) (hO₂.sl 0 rfl : Sl eV k₂ v₁ vs₁) (hO₂.allLen 1 rfl : (vs₁).length = (x2).length) rfl) (Za (a_mv (v := .i .i64 0) rfl) (Zf (Zd (W_bl ?_)))))))
  obtain ⟨o₁, ho₁, hp⟩ := Zv hp
  refine W.mono (Q := fun e fr k => match (generalizing := false) o₁ with
    | .inl _ => e = (.exit 0) ∧ Own B h k []
    | .inr (x5, x6) => e = .ret ∧ fr 2 = .i .i64 x5 ∧ fr 3 = .i .i64 x6 ∧ fr 4 = .b true ∧ Own B h k []) ?_ ?_
  ·clear hp
   refine zu (fun st fr k => match st with | x4 => fr 0 = v_cells ∧ fr 5 = .i .i64 x ∧ fr 24 = v₁ ∧ fr 25 = .i .i64 (x2.length : Int) ∧ fr 26 = .i .i64 x4 ∧ Own B h k [eSl eV v₁ vs₁, eAll Zc vs₁ x2]) ho₁ (s := 0) (And.intro (rfl) (And.intro (rfl) (And.intro (rfl) (And.intro (rfl) (And.intro (rfl) (hO₂.pick [0, 1] rfl (by decide))))))) ?_
   rintro x4 q₂ k₄ ⟨q₂_0, q₂_5, q₂_24, q₂_25, q₂_26, hO₄⟩ o₂ hp
   dsimp only [zG.s0] at hp
   refine W_sq (W_rg (Za (a_lss (a := x4) (b := (x2.length : Int)) q₂_26 q₂_25) (Zf (Zd (W_sq ?_)))))
   rcases Zu hp with ⟨b₂, hp⟩ | ⟨b₂, hp⟩
   ·refine W_cT (t := (decide (x4 < (x2.length : Int)))) rfl b₂ ?_
    refine W_sk (Zd (W_sq (W_bl (W_sq (W_rg (Za (a_mv (v := .i .i64 x4) q₂_26) ?_))))))
    obtain ⟨c₁, hp⟩ := Zk hp
    refine Za (a_ixa (E := eV) (z := x4) (hO₄.sl 0 rfl : Sl eV k₄ v₁ vs₁) q₂_24 q₂_26 (by rw [(hO₄.allLen 1 rfl : (vs₁).length = (x2).length)]; exact c₁)) (Za (z2 (w := (gi vs₁ (x4 : Int).toNat)) (hO₄.sl 0 rfl : Sl eV k₄ v₁ vs₁) rfl (by rw [(hO₄.allLen 1 rfl : (vs₁).length = (x2).length)]; exact Zm c₁) rfl) (Za (a_mv (v := .i .i64 x4) rfl) (Za (a_mv (v := (gi vs₁ (x4 : Int).toNat)) rfl) (Zf (Zd (W_sq (W_rg ?_)))))))
    refine Za (a_mv (v := v_cells) q₂_0) (Za (a_mv (v := (gi vs₁ (x4 : Int).toNat)) rfl) ?_)
    obtain ⟨x7, hx₃, hp⟩ := Zv hp
    obtain ⟨u₃, k₅, ca₃, v₂, rfl, hW₃⟩ := zK.ok (h := k₄)  (hO₄.rd0 s_cells.rd : Sl Zb k₄ v_cells cells) (hO₄.inn 1 rfl (Zm c₁) : Sl Zc k₄ (gi vs₁ (x4 : Int).toNat) (gi x2 (x4 : Int).toNat)) hx₃
    refine zS (id := 204) (caps := []) rfl (Z2 (v := v_cells) rfl (Z2 (v := (gi vs₁ (x4 : Int).toNat)) rfl zi)) ca₃ ?_
    have hO₅ : Own B h k₅ [eSl eV v₁ vs₁, eAll Zc vs₁ x2, eSl eInt v₂ x7] := hO₄.call hW₃ rfl
    obtain ⟨x8, hx₄, hp⟩ := Zv hp
    obtain ⟨u₄, k₆, ca₄, rfl, hW₄⟩ := ZX.ok (h := k₅)  (hO₅.sl 2 rfl : Sl eInt k₅ v₂ x7) (fun k z0 y hk hx => Zae.ok (h := k)  hx) hx₄
    refine zS (id := 91) (caps := []) rfl (Z2 (v := v₂) rfl (Z2 (v := .f 205 []) rfl zi)) ca₄ ?_
    have hO₆ : Own B h k₆ [eSl eV v₁ vs₁, eAll Zc vs₁ x2, eSl eInt v₂ x7] := hO₅.call hW₄ rfl
    refine Za (a_mv (v := .i .i64 x8) rfl) (Zf (Zd (W_sq (W_rg (Za (a_mv (v := .i .i64 x4) rfl) (Za (a_mv (v := .i .i64 x) q₂_5) (Za (a_neI (a := x4) (b := x) rfl rfl) ?_)))))))
    refine Za (a_mv (v := .b (!(decide (x4 = x)))) rfl) ?_
    refine zB 3 (fun fr' k' => k₆ = k' ∧ fr' 41 = .b ((!(decide (x4 = x))) && (decide (0 ≤ x8))) ∧ fr' 0 = v_cells ∧ fr' 11 = .i .i64 x8 ∧ fr' 24 = v₁ ∧ fr' 25 = .i .i64 (x2.length : Int) ∧ fr' 26 = .i .i64 x4 ∧ fr' 5 = .i .i64 x ∧ fr' 9 = .i .i64 x4) ?_ ?_
    ·rcases bc (!(decide (x4 = x))) with b₃ | b₃
     ·skip
      refine WO_on rfl b₃ (Za (a_mv (v := .i .i64 x8) rfl) (WO_on rfl b₃ (Za (a_geq (a := x8) (b := 0) rfl rfl) (Za (ZW (t := (!(decide (x4 = x)))) (v := .b ((!(decide (x4 = x))) && (decide (0 ≤ x8)))) rfl b₃ (Eq.trans (b := V.b (decide (0 ≤ x8))) rfl (Zax b₃))) (Zf ?_)))))
      exact ⟨rfl, rfl, q₂_0, rfl, q₂_24, q₂_25, q₂_26, q₂_5, rfl⟩
     ·skip
      refine WO_off rfl b₃ (WO_off rfl b₃ (Za (ZT (t := (!(decide (x4 = x)))) (v := .b ((!(decide (x4 = x))) && (decide (0 ≤ x8)))) rfl b₃ (Eq.trans (b := V.b false) rfl (Zal b₃))) (Zf ?_)))
      exact ⟨rfl, rfl, q₂_0, rfl, q₂_24, q₂_25, q₂_26, q₂_5, rfl⟩
    rintro frg₁ _ ⟨rfl, g₁_41, g₁_0, g₁_11, g₁_24, g₁_25, g₁_26, g₁_5, g₁_9⟩
    refine Zf (Zd ?_)
    rcases Zu hp with ⟨b₄, hp⟩ | ⟨b₄, hp⟩
    ·refine W_cT (t := ((!(decide (x4 = x))) && (decide (0 ≤ x8)))) g₁_41 b₄ ?_
     refine W_sq (W_rg (Za (a_mv (v := .i .i64 x4) g₁_9) (Za (a_mv (v := .i .i64 x8) g₁_11) (Za (a_mv (v := .i .i64 x4) rfl) (Za (a_mv (v := .i .i64 x8) rfl) (Za (a_mv (v := .b true) rfl) (Zf ?_)))))))
     refine Zd (W_rt (zY (zh ?_)))
     have hp := Option.some.inj hp; subst hp
     refine (Or.inr (Exists.intro (.inr (x4, x8)) (And.intro rfl (And.intro (fun h => nomatch h) (fun he => ?_)))))
     subst he; exact (And.intro rfl (And.intro (rfl) (And.intro (rfl) (And.intro (rfl) (hO₆.pick [] rfl (by decide))))))
    ·refine W_cF (t := ((!(decide (x4 = x))) && (decide (0 ≤ x8)))) g₁_41 b₄ ?_
     refine W_sk (z9 (Zd (W_rg ?_)))
     obtain ⟨c₂, hp⟩ := Zk hp
     refine Za (a_add (a := x4) (b := 1) g₁_26 rfl c₂) (Za (a_mv (v := .i .i64 (x4 + 1)) rfl) (Zf ?_))
     have hp := Option.some.inj hp; subst hp
     exact (Or.inl (Exists.intro (x4 + 1) (And.intro rfl (And.intro rfl (And.intro (g₁_0) (And.intro (g₁_5) (And.intro (g₁_24) (And.intro (g₁_25) (And.intro (rfl) (hO₆.pick [0, 1] rfl (by decide)))))))))))
   ·refine W_cF (t := (decide (x4 < (x2.length : Int)))) rfl b₂ ?_
    refine W_ex (zz ?_)
    have hp := Option.some.inj hp; subst hp
    refine (Or.inr (Exists.intro (.inl ()) (And.intro rfl (And.intro (fun h => nomatch h) (fun he => ?_)))))
    subst he; exact (And.intro rfl (hO₄.pick [] rfl (by decide)))
  intro e₁ q₁ k₃ hJ₁
  rcases o₁ with _ | ⟨x5, x6⟩
  ·obtain ⟨rfl, hO₃⟩ := hJ₁
   refine zI (Zd (W_sq (W_rg (Za (a_mv (v := .i .i64 0) rfl) (Za (a_mv (v := .i .i64 0) rfl) (Za (a_mv (v := .b false) rfl) (Zf ?_)))))))
   refine Zd (W_rt (Ret_r (rs_t (n := 2) (v := .i .i64 0) rfl (rs_t (n := 3) (v := .i .i64 0) rfl (rs_t (n := 4) (v := .b false) rfl rs_nil))) ?_))
   have hp := Option.some.inj hp; subst hp
   exact (And.intro rfl (hO₃.pick [] rfl (by decide)))
  ·obtain ⟨rfl, q₁_2, q₁_3, q₁_4, hO₃⟩ := hJ₁
   refine zY (zh (Ret_r (rs_t (n := 2) (v := .i .i64 x5) q₁_2 (rs_t (n := 3) (v := .i .i64 x6) q₁_3 (rs_t (n := 4) (v := .b true) q₁_4 rs_nil))) ?_))
   have hp := Option.some.inj hp; subst hp
   exact (And.intro rfl (hO₃.pick [] rfl (by decide)))

theorem ZR.ok {h : Hp} {l : List Zg} {v_l : V} (s_l : Sl Zb h v_l l) {r : Int} (hp : ZR l = some r) :
  ∃ u k', Is G 34 [v_l] h u k' ∧ V.i .i64 r = u ∧ Own (fun r => r < h.n) h k' [] := by
 refine WC.is (WC_of G_F_muntinref10_Check ?_)
 unfold ZR at hp
 let B : Nat → Prop := (fun r => r < h.n)
 have hO : Own B h h [] := Own.start0 h
 refine W_sq (W_rg (Za (a_mv (v := .i .i64 0) rfl) (Zf (Zd (W_sq (W_sq (W_rg ?_)))))))
 refine Za (a_mv (v := v_l) rfl) (Za (a_len (hO.rd0 s_l.rd : Sl Zb h v_l l) rfl) (Za (a_gtr (a := (l.length : Int)) (b := 4096) rfl rfl) (Zf (Zd ?_))))
 rcases Zu hp with ⟨b₁, hp⟩ | ⟨b₁, hp⟩
 ·refine W_cT (t := (decide (4096 < (l.length : Int)))) rfl b₁ ?_
  refine W_sq (W_rg (Za (a_mv (v := .i .i64 6) rfl) (Zf (Zd (W_rt (zh (Ret_r (rs_t (n := 2) (v := .i .i64 6) rfl rs_nil) ?_)))))))
  have hp := Option.some.inj hp; subst hp
  exact (And.intro rfl (hO.pick [] rfl (by decide)))
 ·refine W_cF (t := (decide (4096 < (l.length : Int)))) rfl b₁ ?_
  refine W_sk (Zd (W_sq (W_sq (W_rg (Za (a_mv (v := .i .i64 0) rfl) (Zf (Zd ?_)))))))
  refine W_bl ?_
  obtain ⟨o₁, ho₁, hp⟩ := Zv hp
  refine W.mono (Q := fun e fr k => match (generalizing := false) o₁ with
    | .inl _ => e = (.exit 0) ∧ Own B h k []
    | .inr x => e = .ret ∧ fr 2 = .i .i64 x ∧ Own B h k []) ?_ ?_
  ·clear hp
   refine zu (fun st fr k => match st with | v => fr 0 = v_l ∧ fr 3 = .i .i64 v ∧ Own B h k []) ho₁ (s := 0) (And.intro (rfl) (And.intro (rfl) (hO.pick [] rfl (by decide)))) ?_
   rintro v q₂ k₂ ⟨q₂_0, q₂_3, hO₂⟩ o₂ hp
   dsimp only [ZR.s0] at hp
   refine W_sq (W_sq (W_rg (Za (a_mv (v := .i .i64 v) q₂_3) (Za (a_mv (v := v_l) q₂_0) (Za (a_len (hO₂.rd0 s_l.rd : Sl Zb k₂ v_l l) rfl) (Za (a_lss (a := v) (b := (l.length : Int)) rfl rfl) (Zf ?_)))))))
   refine Zd ?_
   rcases Zu hp with ⟨b₂, hp⟩ | ⟨b₂, hp⟩
   ·refine W_cT (t := (decide (v < (l.length : Int)))) rfl b₂ ?_
    refine W_sk (Zd (W_sq (W_bl (W_sq (W_rg (Za (a_mv (v := .i .i64 0) rfl) (Zf ?_)))))))
    refine Zd (W_bl ?_)
    obtain ⟨o₃, ho₂, hp⟩ := Zv hp
    refine W.mono (Q := fun e fr k => match (generalizing := false) o₃ with
      | .inl _ => e = (.exit 2) ∧ fr 0 = v_l ∧ fr 3 = .i .i64 v ∧ Own B h k []
      | .inr x1 => e = .ret ∧ fr 2 = .i .i64 x1 ∧ Own B h k []) ?_ ?_
    ·clear hp
     refine zu (fun st fr k => match st with | d => fr 0 = v_l ∧ fr 3 = .i .i64 v ∧ fr 4 = .i .i64 d ∧ Own B h k []) ho₂ (s := 0) (And.intro (q₂_0) (And.intro (q₂_3) (And.intro (rfl) (hO₂.pick [] rfl (by decide))))) ?_
     rintro d q₄ k₄ ⟨q₄_0, q₄_3, q₄_4, hO₄⟩ o₄ hp
     dsimp only [ZR.s1] at hp
     refine W_sq (W_sq (W_rg (Za (a_mv (v := .i .i64 d) q₄_4) (Za (a_lss (a := d) (b := 4) rfl rfl) (Zf (Zd ?_))))))
     rcases Zu hp with ⟨b₃, hp⟩ | ⟨b₃, hp⟩
     ·refine W_cT (t := (decide (d < 4))) rfl b₃ ?_
      refine W_sk (Zd (W_sq (W_bl (W_sq (W_rg (Za (a_mv (v := v_l) q₄_0) (Za (a_mv (v := .i .i64 v) q₄_3) ?_)))))))
      refine Za (a_mv (v := .i .i64 d) q₄_4) ?_
      obtain ⟨c₁, hp⟩ := Zk hp
      refine Za (a_ixa (E := Zb) (z := v) (hO₄.rd0 s_l.rd : Sl Zb k₄ v_l l) rfl rfl c₁) (Za (zU (off' := 0) (off2 := 0) (hO₄.rd0 s_l.rd : Sl Zb k₄ v_l l) (Zm c₁) rfl rfl) ?_)
      obtain ⟨c₂, hp⟩ := Zk hp
      refine Za (Zak (off := 0) (off2 := (0 + (d : Int).toNat * 1)) (z := d) (hO₄.rd0 s_l.rd : Sl Zb k₄ v_l l) (Zm c₁) rfl rfl c₂ rfl) (Za (z2 (w := .i .i64 (((gi l (v : Int).toNat).Next).get d)) (hO₄.rd0 s_l.rd : Sl Zb k₄ v_l l) rfl (Zm c₁) (z4 c₂)) (Za (a_mv (v := .i .i64 (((gi l (v : Int).toNat).Next).get d)) rfl) (Zf (Zd (W_sq (W_rg (Za (a_mv (v := v_l) q₄_0) ?_)))))))
      refine Za (a_mv (v := .i .i64 v) q₄_3) (Za (a_mv (v := .i .i64 d) q₄_4) (Za (a_ixa (E := Zb) (z := v) (hO₄.rd0 s_l.rd : Sl Zb k₄ v_l l) rfl rfl c₁) (Za (zU (off' := 0) (off2 := 4) (hO₄.rd0 s_l.rd : Sl Zb k₄ v_l l) (Zm c₁) rfl rfl) (Za (Zak (off := 4) (off2 := (4 + (d : Int).toNat * 1)) (z := d) (hO₄.rd0 s_l.rd : Sl Zb k₄ v_l l) (Zm c₁) rfl rfl c₂ rfl) (Za (z2 (w := .i .i64 (((gi l (v : Int).toNat).Owner).get d)) (hO₄.rd0 s_l.rd : Sl Zb k₄ v_l l) rfl (Zm c₁) (Zaq c₂)) (Za (a_mv (v := .i .i64 (((gi l (v : Int).toNat).Owner).get d)) rfl) (Zf ?_)))))))
      refine Zd (W_sq (W_sq (W_rg (Za (a_mv (v := .i .i64 (((gi l (v : Int).toNat).Next).get d)) rfl) (Za (a_eqI (a := (((gi l (v : Int).toNat).Next).get d)) (b := (-1)) rfl rfl) (Zf (Zd ?_)))))))
      rcases Zu hp with ⟨b₄, hp⟩ | ⟨b₄, hp⟩
      ·refine W_cT (t := (decide (((gi l (v : Int).toNat).Next).get d = (-1)))) rfl b₄ ?_
       refine W_sq (W_sq (W_rg (Za (a_mv (v := .i .i64 (((gi l (v : Int).toNat).Owner).get d)) rfl) (Za (a_neI (a := (((gi l (v : Int).toNat).Owner).get d)) (b := 0) rfl rfl) (Zf (Zd ?_))))))
       rcases Zu hp with ⟨b₅, hp⟩ | ⟨b₅, hp⟩
       ·refine W_cT (t := (!(decide (((gi l (v : Int).toNat).Owner).get d = 0)))) rfl b₅ ?_
        refine W_sq (W_rg (Za (a_mv (v := .i .i64 9) rfl) (Zf (Zd (W_rt (zh (zh ?_)))))))
        refine zY (zh ?_)
        have hp := Option.some.inj hp; subst hp
        refine (Or.inr (Exists.intro (.inr 9) (And.intro rfl (And.intro (fun h => nomatch h) (fun he => ?_)))))
        subst he; exact (And.intro rfl (And.intro (rfl) (hO₄.pick [] rfl (by decide))))
       ·refine W_cF (t := (!(decide (((gi l (v : Int).toNat).Owner).get d = 0)))) rfl b₅ ?_
        refine W_sk (Zd (W_ex (zz (zI (Zd (W_rg (Za (a_mv (v := .i .i64 d) q₄_4) ?_)))))))
        obtain ⟨c₃, hp⟩ := Zk hp
        refine Za (a_add (a := d) (b := 1) rfl rfl c₃) (Za (a_mv (v := .i .i64 (d + 1)) rfl) (Zf ?_))
        have hp := Option.some.inj hp; subst hp
        exact (Or.inl (Exists.intro (d + 1) (And.intro rfl (And.intro rfl (And.intro (q₄_0) (And.intro (q₄_3) (And.intro (rfl) (hO₄.pick [] rfl (by decide)))))))))
      ·refine W_cF (t := (decide (((gi l (v : Int).toNat).Next).get d = (-1)))) rfl b₄ ?_
       refine W_sk (Zd (W_sq (W_sq (W_rg (Za (a_mv (v := .i .i64 (((gi l (v : Int).toNat).Next).get d)) rfl) (Za (a_lss (a := (((gi l (v : Int).toNat).Next).get d)) (b := 0) rfl rfl) (Za (a_mv (v := .b (decide ((((gi l (v : Int).toNat).Next).get d) < 0))) rfl) ?_)))))))
       refine zB 5 (fun fr' k' => k₄ = k' ∧ fr' 45 = .b ((decide ((((gi l (v : Int).toNat).Next).get d) < 0)) || (decide ((l.length : Int) ≤ (((gi l (v : Int).toNat).Next).get d)))) ∧ fr' 0 = v_l ∧ fr' 3 = .i .i64 v ∧ fr' 4 = .i .i64 d ∧ fr' 5 = .i .i64 (((gi l (v : Int).toNat).Next).get d) ∧ fr' 6 = .i .i64 (((gi l (v : Int).toNat).Owner).get d)) ?_ ?_
       ·rcases bc (decide ((((gi l (v : Int).toNat).Next).get d) < 0)) with b₆ | b₆
        ·skip
         refine WO_off rfl b₆ (WO_off rfl b₆ (WO_off rfl b₆ (WO_off rfl b₆ (Za (ZW (t := (decide ((((gi l (v : Int).toNat).Next).get d) < 0))) (v := .b ((decide ((((gi l (v : Int).toNat).Next).get d) < 0)) || (decide ((l.length : Int) ≤ (((gi l (v : Int).toNat).Next).get d))))) rfl b₆ (Eq.trans (b := V.b true) rfl (Zar b₆))) (Zf ?_)))))
         exact ⟨rfl, rfl, q₄_0, q₄_3, q₄_4, rfl, rfl⟩
        ·skip
         refine WO_on rfl b₆ (Za (a_mv (v := .i .i64 (((gi l (v : Int).toNat).Next).get d)) rfl) (WO_on rfl b₆ (Za (a_mv (v := v_l) q₄_0) (WO_on rfl b₆ (Za (a_len (hO₄.rd0 s_l.rd : Sl Zb k₄ v_l l) rfl) (WO_on rfl b₆ (Za (a_geq (a := (((gi l (v : Int).toNat).Next).get d)) (b := (l.length : Int)) rfl rfl) ?_)))))))
         refine Za (ZT (t := (decide ((((gi l (v : Int).toNat).Next).get d) < 0))) (v := .b ((decide ((((gi l (v : Int).toNat).Next).get d) < 0)) || (decide ((l.length : Int) ≤ (((gi l (v : Int).toNat).Next).get d))))) rfl b₆ (Eq.trans (b := V.b (decide ((l.length : Int) ≤ (((gi l (v : Int).toNat).Next).get d)))) rfl (Zaz b₆))) (Zf ?_)
         exact ⟨rfl, rfl, q₄_0, q₄_3, q₄_4, rfl, rfl⟩
       rintro frg₁ _ ⟨rfl, g₁_45, g₁_0, g₁_3, g₁_4, g₁_5, g₁_6⟩
       refine Za (a_mv (v := .b ((decide ((((gi l (v : Int).toNat).Next).get d) < 0)) || (decide ((l.length : Int) ≤ (((gi l (v : Int).toNat).Next).get d))))) g₁_45) ?_
       refine zB 4 (fun fr' k' => k₄ = k' ∧ fr' 50 = .b (((decide ((((gi l (v : Int).toNat).Next).get d) < 0)) || (decide ((l.length : Int) ≤ (((gi l (v : Int).toNat).Next).get d)))) || (decide (((gi l (v : Int).toNat).Next).get d = v))) ∧ fr' 0 = v_l ∧ fr' 3 = .i .i64 v ∧ fr' 4 = .i .i64 d ∧ fr' 5 = .i .i64 (((gi l (v : Int).toNat).Next).get d) ∧ fr' 6 = .i .i64 (((gi l (v : Int).toNat).Owner).get d)) ?_ ?_
       ·rcases bc ((decide ((((gi l (v : Int).toNat).Next).get d) < 0)) || (decide ((l.length : Int) ≤ (((gi l (v : Int).toNat).Next).get d)))) with b₇ | b₇
        ·skip
         refine WO_off rfl b₇ (WO_off rfl b₇ (WO_off rfl b₇ (Za (ZW (t := ((decide ((((gi l (v : Int).toNat).Next).get d) < 0)) || (decide ((l.length : Int) ≤ (((gi l (v : Int).toNat).Next).get d))))) (v := .b (((decide ((((gi l (v : Int).toNat).Next).get d) < 0)) || (decide ((l.length : Int) ≤ (((gi l (v : Int).toNat).Next).get d)))) || (decide (((gi l (v : Int).toNat).Next).get d = v)))) rfl b₇ (Eq.trans (b := V.b true) rfl (Zar b₇))) (Zf ?_))))
         exact ⟨rfl, rfl, g₁_0, g₁_3, g₁_4, g₁_5, g₁_6⟩
        ·skip
         refine WO_on rfl b₇ (Za (a_mv (v := .i .i64 (((gi l (v : Int).toNat).Next).get d)) g₁_5) (WO_on rfl b₇ (Za (a_mv (v := .i .i64 v) g₁_3) (WO_on rfl b₇ (Za (a_eqI (a := (((gi l (v : Int).toNat).Next).get d)) (b := v) rfl rfl) (Za (ZT (t := ((decide ((((gi l (v : Int).toNat).Next).get d) < 0)) || (decide ((l.length : Int) ≤ (((gi l (v : Int).toNat).Next).get d))))) (v := .b (((decide ((((gi l (v : Int).toNat).Next).get d) < 0)) || (decide ((l.length : Int) ≤ (((gi l (v : Int).toNat).Next).get d)))) || (decide (((gi l (v : Int).toNat).Next).get d = v)))) rfl b₇ (Eq.trans (b := V.b (decide (((gi l (v : Int).toNat).Next).get d = v))) rfl (Zaz b₇))) (Zf ?_)))))))
         exact ⟨rfl, rfl, g₁_0, g₁_3, g₁_4, g₁_5, g₁_6⟩
       rintro frg₂ _ ⟨rfl, g₂_50, g₂_0, g₂_3, g₂_4, g₂_5, g₂_6⟩
       refine Zf (Zd ?_)
       rcases Zu hp with ⟨b₈, hp⟩ | ⟨b₈, hp⟩
       ·refine W_cT (t := (((decide ((((gi l (v : Int).toNat).Next).get d) < 0)) || (decide ((l.length : Int) ≤ (((gi l (v : Int).toNat).Next).get d)))) || (decide (((gi l (v : Int).toNat).Next).get d = v)))) g₂_50 b₈ ?_
        refine W_sq (W_rg (Za (a_mv (v := .i .i64 3) rfl) (Zf (Zd (W_rt (zh (zY ?_)))))))
        refine zh ?_
        have hp := Option.some.inj hp; subst hp
        refine (Or.inr (Exists.intro (.inr 3) (And.intro rfl (And.intro (fun h => nomatch h) (fun he => ?_)))))
        subst he; exact (And.intro rfl (And.intro (rfl) (hO₄.pick [] rfl (by decide))))
       ·refine W_cF (t := (((decide ((((gi l (v : Int).toNat).Next).get d) < 0)) || (decide ((l.length : Int) ≤ (((gi l (v : Int).toNat).Next).get d)))) || (decide (((gi l (v : Int).toNat).Next).get d = v)))) g₂_50 b₈ ?_
        refine W_sk (Zd (W_sq (W_rg (Za (a_mv (v := v_l) g₂_0) (Za (a_mv (v := .i .i64 (((gi l (v : Int).toNat).Next).get d)) g₂_5) (Za (a_mv (v := .i .i64 d) g₂_4) ?_))))))
        obtain ⟨c₄, hp⟩ := Zk hp
        refine Za (a_add (a := d) (b := 2) rfl rfl c₄) (Za (a_rem (a := (d + 2)) (b := 4) rfl rfl (by decide)) ?_)
        obtain ⟨c₅, hp⟩ := Zk hp
        refine Za (a_ixa (E := Zb) (z := (((gi l (v : Int).toNat).Next).get d)) (hO₄.rd0 s_l.rd : Sl Zb k₄ v_l l) rfl rfl c₅) (Za (zU (off' := 0) (off2 := 0) (hO₄.rd0 s_l.rd : Sl Zb k₄ v_l l) (Zm c₅) rfl rfl) ?_)
        obtain ⟨c₆, hp⟩ := Zk hp
        refine Za (Zak (off := 0) (off2 := (0 + ((d + 2).tmod 4 : Int).toNat * 1)) (z := ((d + 2).tmod 4)) (hO₄.rd0 s_l.rd : Sl Zb k₄ v_l l) (Zm c₅) rfl rfl c₆ rfl) (Za (z2 (w := .i .i64 (((gi l (((gi l (v : Int).toNat).Next).get d : Int).toNat).Next).get ((d + 2).tmod 4))) (hO₄.rd0 s_l.rd : Sl Zb k₄ v_l l) rfl (Zm c₅) (z4 c₆)) (Za (a_mv (v := .i .i64 v) g₂_3) (Za (a_neI (a := (((gi l (((gi l (v : Int).toNat).Next).get d : Int).toNat).Next).get ((d + 2).tmod 4))) (b := v) rfl rfl) (Za (a_mv (v := .b (!(decide (((gi l (((gi l (v : Int).toNat).Next).get d : Int).toNat).Next).get ((d + 2).tmod 4) = v)))) rfl) ?_))))
        refine zB 12 (fun fr' k' => k₄ = k' ∧ fr' 74 = .b ((!(decide (((gi l (((gi l (v : Int).toNat).Next).get d : Int).toNat).Next).get ((d + 2).tmod 4) = v))) || (!(decide (((gi l (((gi l (v : Int).toNat).Next).get d : Int).toNat).Owner).get ((d + 2).tmod 4) = ((gi l (v : Int).toNat).Owner).get d)))) ∧ fr' 0 = v_l ∧ fr' 3 = .i .i64 v ∧ fr' 4 = .i .i64 d ∧ fr' 6 = .i .i64 (((gi l (v : Int).toNat).Owner).get d)) ?_ ?_
        ·rcases bc (!(decide (((gi l (((gi l (v : Int).toNat).Next).get d : Int).toNat).Next).get ((d + 2).tmod 4) = v))) with b₉ | b₉
         ·skip
          refine WO_off rfl b₉ (WO_off rfl b₉ (WO_off rfl b₉ (WO_off rfl b₉ (WO_off rfl b₉ (WO_off rfl b₉ (WO_off rfl b₉ (WO_off rfl b₉ ?_)))))))
          refine WO_off rfl b₉ (WO_off rfl b₉ (WO_off rfl b₉ (Za (ZW (t := (!(decide (((gi l (((gi l (v : Int).toNat).Next).get d : Int).toNat).Next).get ((d + 2).tmod 4) = v)))) (v := .b ((!(decide (((gi l (((gi l (v : Int).toNat).Next).get d : Int).toNat).Next).get ((d + 2).tmod 4) = v))) || (!(decide (((gi l (((gi l (v : Int).toNat).Next).get d : Int).toNat).Owner).get ((d + 2).tmod 4) = ((gi l (v : Int).toNat).Owner).get d))))) rfl b₉ (Eq.trans (b := V.b true) rfl (Zar b₉))) (Zf ?_))))
          exact ⟨rfl, rfl, g₂_0, g₂_3, g₂_4, g₂_6⟩
         ·skip
          refine WO_on rfl b₉ (Za (a_mv (v := v_l) g₂_0) (WO_on rfl b₉ (Za (a_mv (v := .i .i64 (((gi l (v : Int).toNat).Next).get d)) g₂_5) (WO_on rfl b₉ (Za (a_mv (v := .i .i64 d) g₂_4) (WO_on rfl b₉ (Za (a_add (a := d) (b := 2) rfl rfl c₄) ?_)))))))
          refine WO_on rfl b₉ (Za (a_rem (a := (d + 2)) (b := 4) rfl rfl (by decide)) (WO_on rfl b₉ (Za (a_ixa (E := Zb) (z := (((gi l (v : Int).toNat).Next).get d)) (hO₄.rd0 s_l.rd : Sl Zb k₄ v_l l) rfl rfl c₅) (WO_on rfl b₉ (Za (zU (off' := 0) (off2 := 4) (hO₄.rd0 s_l.rd : Sl Zb k₄ v_l l) (Zm c₅) rfl rfl) (WO_on rfl b₉ (Za (Zak (off := 4) (off2 := (4 + ((d + 2).tmod 4 : Int).toNat * 1)) (z := ((d + 2).tmod 4)) (hO₄.rd0 s_l.rd : Sl Zb k₄ v_l l) (Zm c₅) rfl rfl c₆ rfl) ?_)))))))
          refine WO_on rfl b₉ (Za (z2 (w := .i .i64 (((gi l (((gi l (v : Int).toNat).Next).get d : Int).toNat).Owner).get ((d + 2).tmod 4))) (hO₄.rd0 s_l.rd : Sl Zb k₄ v_l l) rfl (Zm c₅) (Zaq c₆)) (WO_on rfl b₉ (Za (a_mv (v := .i .i64 (((gi l (v : Int).toNat).Owner).get d)) g₂_6) (WO_on rfl b₉ (Za (a_neI (a := (((gi l (((gi l (v : Int).toNat).Next).get d : Int).toNat).Owner).get ((d + 2).tmod 4))) (b := (((gi l (v : Int).toNat).Owner).get d)) rfl rfl) (Za (ZT (t := (!(decide (((gi l (((gi l (v : Int).toNat).Next).get d : Int).toNat).Next).get ((d + 2).tmod 4) = v)))) (v := .b ((!(decide (((gi l (((gi l (v : Int).toNat).Next).get d : Int).toNat).Next).get ((d + 2).tmod 4) = v))) || (!(decide (((gi l (((gi l (v : Int).toNat).Next).get d : Int).toNat).Owner).get ((d + 2).tmod 4) = ((gi l (v : Int).toNat).Owner).get d))))) rfl b₉ (Eq.trans (b := V.b (!(decide (((gi l (((gi l (v : Int).toNat).Next).get d : Int).toNat).Owner).get ((d + 2).tmod 4) = ((gi l (v : Int).toNat).Owner).get d)))) rfl (Zaz b₉))) (Zf ?_)))))))
          exact ⟨rfl, rfl, g₂_0, g₂_3, g₂_4, g₂_6⟩
        rintro frg₃ _ ⟨rfl, g₃_74, g₃_0, g₃_3, g₃_4, g₃_6⟩
        refine Za (a_mv (v := .b ((!(decide (((gi l (((gi l (v : Int).toNat).Next).get d : Int).toNat).Next).get ((d + 2).tmod 4) = v))) || (!(decide (((gi l (((gi l (v : Int).toNat).Next).get d : Int).toNat).Owner).get ((d + 2).tmod 4) = ((gi l (v : Int).toNat).Owner).get d))))) g₃_74) ?_
        refine zB 3 (fun fr' k' => k₄ = k' ∧ fr' 78 = .b (((!(decide (((gi l (((gi l (v : Int).toNat).Next).get d : Int).toNat).Next).get ((d + 2).tmod 4) = v))) || (!(decide (((gi l (((gi l (v : Int).toNat).Next).get d : Int).toNat).Owner).get ((d + 2).tmod 4) = ((gi l (v : Int).toNat).Owner).get d)))) || (decide ((((gi l (v : Int).toNat).Owner).get d) < (-2)))) ∧ fr' 0 = v_l ∧ fr' 3 = .i .i64 v ∧ fr' 4 = .i .i64 d) ?_ ?_
        ·rcases bc ((!(decide (((gi l (((gi l (v : Int).toNat).Next).get d : Int).toNat).Next).get ((d + 2).tmod 4) = v))) || (!(decide (((gi l (((gi l (v : Int).toNat).Next).get d : Int).toNat).Owner).get ((d + 2).tmod 4) = ((gi l (v : Int).toNat).Owner).get d)))) with b₁₀ | b₁₀
         ·skip
          refine WO_off rfl b₁₀ (WO_off rfl b₁₀ (Za (ZW (t := ((!(decide (((gi l (((gi l (v : Int).toNat).Next).get d : Int).toNat).Next).get ((d + 2).tmod 4) = v))) || (!(decide (((gi l (((gi l (v : Int).toNat).Next).get d : Int).toNat).Owner).get ((d + 2).tmod 4) = ((gi l (v : Int).toNat).Owner).get d))))) (v := .b (((!(decide (((gi l (((gi l (v : Int).toNat).Next).get d : Int).toNat).Next).get ((d + 2).tmod 4) = v))) || (!(decide (((gi l (((gi l (v : Int).toNat).Next).get d : Int).toNat).Owner).get ((d + 2).tmod 4) = ((gi l (v : Int).toNat).Owner).get d)))) || (decide ((((gi l (v : Int).toNat).Owner).get d) < (-2))))) rfl b₁₀ (Eq.trans (b := V.b true) rfl (Zar b₁₀))) (Zf ?_)))
          exact ⟨rfl, rfl, g₃_0, g₃_3, g₃_4⟩
         ·skip
          refine WO_on rfl b₁₀ (Za (a_mv (v := .i .i64 (((gi l (v : Int).toNat).Owner).get d)) g₃_6) (WO_on rfl b₁₀ (Za (a_lss (a := (((gi l (v : Int).toNat).Owner).get d)) (b := (-2)) rfl rfl) (Za (ZT (t := ((!(decide (((gi l (((gi l (v : Int).toNat).Next).get d : Int).toNat).Next).get ((d + 2).tmod 4) = v))) || (!(decide (((gi l (((gi l (v : Int).toNat).Next).get d : Int).toNat).Owner).get ((d + 2).tmod 4) = ((gi l (v : Int).toNat).Owner).get d))))) (v := .b (((!(decide (((gi l (((gi l (v : Int).toNat).Next).get d : Int).toNat).Next).get ((d + 2).tmod 4) = v))) || (!(decide (((gi l (((gi l (v : Int).toNat).Next).get d : Int).toNat).Owner).get ((d + 2).tmod 4) = ((gi l (v : Int).toNat).Owner).get d)))) || (decide ((((gi l (v : Int).toNat).Owner).get d) < (-2))))) rfl b₁₀ (Eq.trans (b := V.b (decide ((((gi l (v : Int).toNat).Owner).get d) < (-2)))) rfl (Zaz b₁₀))) (Zf ?_)))))
          exact ⟨rfl, rfl, g₃_0, g₃_3, g₃_4⟩
        rintro frg₄ _ ⟨rfl, g₄_78, g₄_0, g₄_3, g₄_4⟩
        refine Zf (Zd ?_)
        rcases Zu hp with ⟨b₁₁, hp⟩ | ⟨b₁₁, hp⟩
        ·refine W_cT (t := (((!(decide (((gi l (((gi l (v : Int).toNat).Next).get d : Int).toNat).Next).get ((d + 2).tmod 4) = v))) || (!(decide (((gi l (((gi l (v : Int).toNat).Next).get d : Int).toNat).Owner).get ((d + 2).tmod 4) = ((gi l (v : Int).toNat).Owner).get d)))) || (decide ((((gi l (v : Int).toNat).Owner).get d) < (-2))))) g₄_78 b₁₁ ?_
         refine W_sq (W_rg (Za (a_mv (v := .i .i64 9) rfl) (Zf (Zd (W_rt (zY (zh ?_)))))))
         have hp := Option.some.inj hp; subst hp
         refine (Or.inr (Exists.intro (.inr 9) (And.intro rfl (And.intro (fun h => nomatch h) (fun he => ?_)))))
         subst he; exact (And.intro rfl (And.intro (rfl) (hO₄.pick [] rfl (by decide))))
        ·refine W_cF (t := (((!(decide (((gi l (((gi l (v : Int).toNat).Next).get d : Int).toNat).Next).get ((d + 2).tmod 4) = v))) || (!(decide (((gi l (((gi l (v : Int).toNat).Next).get d : Int).toNat).Owner).get ((d + 2).tmod 4) = ((gi l (v : Int).toNat).Owner).get d)))) || (decide ((((gi l (v : Int).toNat).Owner).get d) < (-2))))) g₄_78 b₁₁ ?_
         refine W_sk (z9 (Zd (W_rg (Za (a_mv (v := .i .i64 d) g₄_4) ?_))))
         obtain ⟨c₇, hp⟩ := Zk hp
         refine Za (a_add (a := d) (b := 1) rfl rfl c₇) (Za (a_mv (v := .i .i64 (d + 1)) rfl) (Zf ?_))
         have hp := Option.some.inj hp; subst hp
         exact (Or.inl (Exists.intro (d + 1) (And.intro rfl (And.intro rfl (And.intro (g₄_0) (And.intro (g₄_3) (And.intro (rfl) (hO₄.pick [] rfl (by decide)))))))))
     ·refine W_cF (t := (decide (d < 4))) rfl b₃ ?_
      refine W_ex (zz ?_)
      have hp := Option.some.inj hp; subst hp
      refine (Or.inr (Exists.intro (.inl ()) (And.intro rfl (And.intro (fun h => nomatch h) (fun he => ?_)))))
      subst he; exact (And.intro rfl (And.intro (q₄_0) (And.intro (q₄_3) (hO₄.pick [] rfl (by decide)))))
    intro e₂ q₃ k₃ hJ₂
    rcases o₃ with _ | x1
    ·obtain ⟨rfl, q₃_0, q₃_3, hO₃⟩ := hJ₂
     refine zI (z9 (Zd (W_rg (Za (a_mv (v := .i .i64 v) q₃_3) ?_))))
     obtain ⟨c₈, hp⟩ := Zk hp
     refine Za (a_add (a := v) (b := 1) rfl rfl c₈) (Za (a_mv (v := .i .i64 (v + 1)) rfl) (Zf ?_))
     have hp := Option.some.inj hp; subst hp
     exact (Or.inl (Exists.intro (v + 1) (And.intro rfl (And.intro rfl (And.intro (q₃_0) (And.intro (rfl) (hO₃.pick [] rfl (by decide))))))))
    ·obtain ⟨rfl, q₃_2, hO₃⟩ := hJ₂
     refine zY (zY (zh ?_))
     have hp := Option.some.inj hp; subst hp
     refine (Or.inr (Exists.intro (.inr x1) (And.intro rfl (And.intro (fun h => nomatch h) (fun he => ?_)))))
     subst he; exact (And.intro rfl (And.intro (q₃_2) (hO₃.pick [] rfl (by decide))))
   ·refine W_cF (t := (decide (v < (l.length : Int)))) rfl b₂ ?_
    refine W_ex (zz ?_)
    have hp := Option.some.inj hp; subst hp
    refine (Or.inr (Exists.intro (.inl ()) (And.intro rfl (And.intro (fun h => nomatch h) (fun he => ?_)))))
    subst he; exact (And.intro rfl (hO₂.pick [] rfl (by decide)))
  intro e₁ q₁ k₁ hJ₁
  rcases o₁ with _ | x
  ·obtain ⟨rfl, hO₁⟩ := hJ₁
   refine zI (Zd (W_sq (W_rg (Za (a_mv (v := .i .i64 0) rfl) (Zf (Zd (W_rt ?_)))))))
   refine Ret_r (rs_t (n := 2) (v := .i .i64 0) rfl rs_nil) ?_
   have hp := Option.some.inj hp; subst hp
   exact (And.intro rfl (hO₁.pick [] rfl (by decide)))
  ·obtain ⟨rfl, q₁_2, hO₁⟩ := hJ₁
   refine zY (zh (Ret_r (rs_t (n := 2) (v := .i .i64 x) q₁_2 rs_nil) ?_))
   have hp := Option.some.inj hp; subst hp
   exact (And.intro rfl (hO₁.pick [] rfl (by decide)))

end Mu
